-- Printed by a program of this session (pp.py: the kit's print.py, run with contracts of its own) out of the translation. Not trusted: Lean checks it.
import Derived.Test.YtmapdckelbobiaaDoorX0
namespace Go.Proofs.YtmapdckelbobiaaDoor.X
open Go.RowKit Go.Proofs.YtmapdckelbobiaaDoorW.PrintWords Go.Proofs.YtmapdckelbobiaaDoorW.PrintLast Go.Proofs.YtmapdckelbobiaaDoorW.PrintMore
attribute [local go_sem] max2_int min2_int max_two min_two max_three min_three max_four min_four   -- for this text's walks alone
set_option linter.unusedVariables false
set_option linter.unusedSimpArgs false

/-! ### control_held: function 34 -/
def control_held.f (a0 : Int) : Option (Int) := some (mn (mx a0 0) 1099511627776)
set_option maxHeartbeats 8000000 in
set_option maxRecDepth 100000 in
theorem control_held.calls (a0 : Int) (r : Int) (w : World) (h : control_held.f a0 = some r) :
    Calls Tryd.prog 34 #[.int .i64 a0] w fun e w' => e = .returned (.int .i64 r) ∧ Below w.heap.size w w' := by
  have HB := Aside0.mk (Below.refl w.heap.size w)
  have H : (some (mn (mx a0 0) 1099511627776)) = some r := h
  clear h
  obtain ⟨ji2, hji2⟩ : ∃ j_ : Int, (mx a0 0) = j_ := ⟨_, rfl⟩
  replace H : (some (mn (ji2) 1099511627776)) = some r := by first | (rw [hji2] at H; exact H) | (simp only [hji2] at H ⊢; exact H)
  (try (have hji2l : 0 ≤ ji2 := by (rw [← hji2]; unfold mx; (repeat' split) <;> omega)))
  (try (have hji2m : 0 ≤ ji2 := by omega))
  have hji2_ : (if a0 < 0 then 0 else a0) = ji2 := hji2
  obtain ⟨ji3, hji3⟩ : ∃ j_ : Int, (mn (ji2) 1099511627776) = j_ := ⟨_, rfl⟩
  replace H : (some ji3) = some r := by first | (rw [hji3] at H; exact H) | (simp only [hji3] at H ⊢; exact H)
  have hji3_ : (if 1099511627776 < (ji2) then 1099511627776 else (ji2)) = ji3 := hji3
  obtain rfl := Option.some.inj H
  go_enter Tryd.func34, Tryd.ntmps34
  go_wp2
  go_ret
  exact ⟨by first | rfl | (simp [errW_none, errW_some] <;> rfl) | (simp only [← hji2, ← hji3]; first | rfl | (simp [errW_none, errW_some] <;> rfl)) | (simp [*, errW_none, errW_some] <;> rfl), by repeat (first | (with_reducible first | exact HB.out | apply below_alloc | apply pw_below_drewN | apply below_drew1) | exact HB.out)⟩

/-! ### control_Apply: function 19 -/
def control_Apply.held (a : Int) : Int := mn (mx a 0) 1099511627776
def control_Apply.fr (r0 r1 : Int) (n1 : Bool) : Int := if n1 = true then 0 else if r1 ≥ 0 then control_Apply.held r1 else control_Apply.held r0
def control_Apply.wh (r : Int) (n1 : Bool) : Int := if n1 = true then 0 else control_Apply.held r
def control_Apply.f (k : Nat) (a0_0 : ByteArray) (a0_1 : Bool) (a0_2 : Int) (a0_3 : Int) (a0_4 : Int) (a0_5 : Int) (a0_6 : Int) (a0_7 : Int) (l0_8 : List ByteArray) (a0_9 : ByteArray) (a0_10 : Bool) (a1_0 : Int) (a1_1 : Int) (a1_2 : Int) (a1_3 : Int) (a1_4 : Bool) (a1_5 : Bool) (a1_6 : Bool) : Option (ByteArray × Bool × Int × Int × Int × Int × Int × Int × List ByteArray × ByteArray × Bool) := some (a0_0, a0_1, a0_2, a0_3, a0_4, control_Apply.fr a1_0 a1_1 a1_5, control_Apply.wh a1_2 a1_5, control_Apply.wh a1_3 a1_5, l0_8, a0_9, (!a1_4 && !a1_6))
theorem control_Apply.mono : ∀ a0 a1 a2 a3 a4 a5 a6 a7 a8 a9 a10 a11 a12 a13 a14 a15 a16 a17 k, LeO (control_Apply.f k a0 a1 a2 a3 a4 a5 a6 a7 a8 a9 a10 a11 a12 a13 a14 a15 a16 a17) (control_Apply.f (k + 1) a0 a1 a2 a3 a4 a5 a6 a7 a8 a9 a10 a11 a12 a13 a14 a15 a16 a17) := fun _ _ _ _ _ _ _ _ _ _ _ _ _ _ _ _ _ _ _ => LeO.refl _
def control_Apply.T2 : Bool × List (List Nat × List Nat) := (true, [([], []), ([0], [0]), ([1], [1]), ([], []), ([3], [3]), ([4, 2], [4]), ([], []), ([6], [6]), ([7, 5], [7]), ([0, 1, 2], []), ([9, 2, 8, 0, 1, 2], [2, 9]), ([0, 1, 2, 3, 4, 5, 9, 10], []), ([11, 5, 10, 0, 1, 2, 3, 4, 5, 9, 10], [5, 11]), ([0, 1, 2, 3, 4, 5, 6, 7, 8, 9, 10, 11, 12], []), ([13, 8, 12, 0, 1, 2, 3, 4, 5, 6, 7, 8, 9, 10, 11, 12], [8, 13])])
def control_Apply.B2 : List Nat := [0, 1, 3, 0, 8, 31, 0, 64, 255, 7, 1023, 2047, 4095, 8191, 16383]
theorem control_Apply.tab2 : rtab .any (opsOf Tryd.f19 2) = control_Apply.T2 := by kernel_rfl
theorem control_Apply.bits2 : waitsOk control_Apply.T2.2 control_Apply.B2 = true := by kernel_rfl
set_option maxHeartbeats 8000000 in
set_option maxRecDepth 100000 in
theorem control_Apply.walk (t0 : ByteArray) (b1 : Bool) (i2 i3 i4 i5 i6 i7 : Int) (A8 : Option Addr) (m8 c8 : Nat) (t9 : ByteArray) (b10 : Bool) (r0 r1 r2 r3 : Int) (n0 n1 n2 : Bool) (w : World) :
    Calls Tryd.prog 19 #[.agg #[.string t0, .bool b1, .int .i64 i2, .int .i64 i3, .int .i64 i4, .int .i64 i5, .int .i64 i6, .int .i64 i7, (.slice A8 m8 c8), .string t9, .bool b10], .agg #[.int .i64 r0, .int .i64 r1, .int .i64 r2, .int .i64 r3, .bool n0, .bool n1, .bool n2]] w fun e w' => e = .returned (.agg #[.string t0, .bool b1, .int .i64 i2, .int .i64 i3, .int .i64 i4, .int .i64 (control_Apply.fr r0 r1 n1), .int .i64 (control_Apply.wh r2 n1), .int .i64 (control_Apply.wh r3 n1), (.slice A8 m8 c8), .string t9, .bool (!n0 && !n2)]) ∧ Below w.heap.size w w' := by
  have hu39 := Tryd.underlying39
  have hu27 := Tryd.underlying27
  obtain ⟨gm, hgm⟩ : ∃ g, g = w.heap.size := ⟨_, rfl⟩
  obtain ⟨gr, hgr⟩ : ∃ g, g = w.heap.size + 1 := ⟨_, rfl⟩
  obtain ⟨go, hgo⟩ : ∃ g, g = w.heap.size + 2 := ⟨_, rfl⟩
  have GM : w.heap.size ≤ gm := by omega
  have GR : w.heap.size ≤ gr := by omega
  have GO : w.heap.size ≤ go := by omega
  have NMR : gm ≠ gr := by omega
  have NRM : gr ≠ gm := by omega
  have NMO : gm ≠ go := by omega
  have NOM : go ≠ gm := by omega
  have NRO : gr ≠ go := by omega
  have NOR : go ≠ gr := by omega
  have ANMR := Aside0.mk NMR
  have ANRM := Aside0.mk NRM
  have ANMO := Aside0.mk NMO
  have ANOM := Aside0.mk NOM
  have ANRO := Aside0.mk NRO
  have ANOR := Aside0.mk NOR
  have AGM := Aside0.mk GM
  have AGR := Aside0.mk GR
  have AGO := Aside0.mk GO
  clear NMR NRM NMO NOM NRO NOR GM GR GO
  go_enter Tryd.func19, Tryd.ntmps19
  go_upto_region 0 with (fail)
  go_cut [2, 3, 4] (fun x2 x3 x4 wc => x2 = .pointer (some ⟨gm, 0, none⟩) ∧ x3 = .pointer (some ⟨gr, 0, none⟩) ∧ x4 = .pointer (some ⟨go, 0, none⟩) ∧ Aside0 (wc.heap[gm]? = some (.cells #[.string t0, .bool b1, .int .i64 i2, .int .i64 i3, .int .i64 i4, .int .i64 i5, .int .i64 i6, .int .i64 i7, (.slice A8 m8 c8), .string t9, .bool b10] 39 (0, 0))) ∧ Aside0 (wc.heap[gr]? = some (.cells #[.int .i64 r0, .int .i64 r1, .int .i64 r2, .int .i64 r3, .bool n0, .bool n1, .bool n2] 27 (0, 0))) ∧ Aside0 (wc.heap[go]? = some (.cells #[.string (⟨#[]⟩ : ByteArray), .bool false, .int .i64 0, .int .i64 0, .int .i64 0, .int .i64 0, .int .i64 0, .int .i64 0, (.slice none 0 0), .string (⟨#[]⟩ : ByteArray), .bool false] 39 (0, 0))) ∧ Aside0 (Below w.heap.size w wc))
  case first =>
    go_wp2
    go_meet
    case rel => exact ⟨by rw [hgm], by rw [hgr], by rw [hgo], ⟨by rw [hgm]; exact blk_alloc (blk_alloc (blk_new _ _) _) _⟩, ⟨by rw [hgr]; simp [World.alloc, -World.alloc_eq, Array.getElem?_push, Array.getElem_push]⟩, ⟨by rw [hgo]; simp [World.alloc, -World.alloc_eq, Array.getElem?_push, Array.getElem_push]⟩, ⟨below_alloc (below_alloc (below_alloc (Below.refl _ _) _) _) _⟩⟩
  case rest =>
    obtain ⟨rfl, rfl, rfl, BM, BR, BO, HB⟩ := hcut
    clear hgm hgr hgo
    go_upto_region 1 with (fail)
    go_cut [] (fun wc => Aside0 (wc.heap[gm]? = some (.cells #[.string t0, .bool b1, .int .i64 i2, .int .i64 i3, .int .i64 i4, .int .i64 i5, .int .i64 i6, .int .i64 i7, (.slice A8 m8 c8), .string t9, .bool (!n0 && !n2)] 39 (0, 0))) ∧ Aside0 (wc.heap[gr]? = some (.cells #[.int .i64 r0, .int .i64 r1, .int .i64 r2, .int .i64 r3, .bool n0, .bool n1, .bool n2] 27 (0, 0))) ∧ Aside0 (wc.heap[go]? = some (.cells #[.string (⟨#[]⟩ : ByteArray), .bool false, .int .i64 0, .int .i64 0, .int .i64 0, .int .i64 0, .int .i64 0, .int .i64 0, (.slice none 0 0), .string (⟨#[]⟩ : ByteArray), .bool false] 39 (0, 0))) ∧ Aside0 (Below w.heap.size w wc))
    case first =>
      cases n0 with
      | false =>
        have hr4 : wc.cell? ⟨gr, 4, none⟩ = some (.bool false) := (blk_cell BR.out 4).trans rfl
        have hr6 : wc.cell? ⟨gr, 6, none⟩ = some (.bool n2) := (blk_cell BR.out 6).trans rfl
        have hv10 : wc.cell? ⟨gm, 10, none⟩ = some (.bool b10) := (blk_cell BM.out 10).trans rfl
        have fv10 := blk_frozen BM.out 10
        go_wp2
        go_meet
        case rel => exact ⟨⟨(blk_put (cs' := #[.string t0, .bool b1, .int .i64 i2, .int .i64 i3, .int .i64 i4, .int .i64 i5, .int .i64 i6, .int .i64 i7, (.slice A8 m8 c8), .string t9, .bool (!false && !n2)]) BM.out 10 _ rfl)⟩, ⟨(blk_far BR.out ANRM.out _)⟩, ⟨(blk_far BO.out ANOM.out _)⟩, ⟨(below_set HB.out AGM.out)⟩⟩
      | true =>
        have hr4 : wc.cell? ⟨gr, 4, none⟩ = some (.bool true) := (blk_cell BR.out 4).trans rfl
        have hr6 : wc.cell? ⟨gr, 6, none⟩ = some (.bool n2) := (blk_cell BR.out 6).trans rfl
        have hv10 : wc.cell? ⟨gm, 10, none⟩ = some (.bool b10) := (blk_cell BM.out 10).trans rfl
        have fv10 := blk_frozen BM.out 10
        go_wp2
        go_meet
        case rel => exact ⟨⟨(blk_put (cs' := #[.string t0, .bool b1, .int .i64 i2, .int .i64 i3, .int .i64 i4, .int .i64 i5, .int .i64 i6, .int .i64 i7, (.slice A8 m8 c8), .string t9, .bool (!true && !n2)]) BM.out 10 _ rfl)⟩, ⟨(blk_far BR.out ANRM.out _)⟩, ⟨(blk_far BO.out ANOM.out _)⟩, ⟨(below_set HB.out AGM.out)⟩⟩
    case rest =>
      clear BM BR BO HB
      obtain ⟨BM, BR, BO, HB⟩ := hcut
      go_upto_region 2 with (fail)
      go_cut [] (fun wc => Aside0 (wc.heap[gm]? = some (.cells #[.string t0, .bool b1, .int .i64 i2, .int .i64 i3, .int .i64 i4, .int .i64 (control_Apply.held r0), .int .i64 (control_Apply.held r2), .int .i64 (control_Apply.held r3), (.slice A8 m8 c8), .string t9, .bool (!n0 && !n2)] 39 (0, 0))) ∧ Aside0 (wc.heap[gr]? = some (.cells #[.int .i64 r0, .int .i64 r1, .int .i64 r2, .int .i64 r3, .bool n0, .bool n1, .bool n2] 27 (0, 0))) ∧ Aside0 (wc.heap[go]? = some (.cells #[.string (⟨#[]⟩ : ByteArray), .bool false, .int .i64 0, .int .i64 0, .int .i64 0, .int .i64 0, .int .i64 0, .int .i64 0, (.slice none 0 0), .string (⟨#[]⟩ : ByteArray), .bool false] 39 (0, 0))) ∧ Aside0 (Below w.heap.size w wc))
      case first =>
        refine start_ (n := 15) (S := fun w' => w'.cell? ⟨gr, 0, none⟩ = some (.int .i64 r0) ∧ w'.cell? ⟨gr, 2, none⟩ = some (.int .i64 r2) ∧ w'.cell? ⟨gr, 3, none⟩ = some (.int .i64 r3)) (ds := []) #[false, false, false, false, false, false, false, false, false, false, false, false, false, false, false] (by kernel_rfl) rfl rfl ⟨(blk_cell BR.out 0).trans rfl, (blk_cell BR.out 2).trans rfl, (blk_cell BR.out 3).trans rfl⟩ (fun hHeld => ?_); refine with_tabW control_Apply.tab2 control_Apply.bits2 (fun HT_ HW_ => ?_)
        replace BM := Aside0.mk (blk_drew BM.out); replace BR := Aside0.mk (blk_drew BR.out); replace BO := Aside0.mk (blk_drew BO.out); replace HB := Aside0.mk (below_drew1 HB.out)
        generalize wc.drew = w10 at BM BR BO HB hHeld ⊢
        refine pure_ (i := 0) (N := some 14) (v := ?_) (a' := ?_) #[true, false, false, false, false, false, false, false, false, false, false, false, false, false, false] rfl rfl (any_of HT_.out (by kernel_rfl)) (fun _ _ _ h => h) (Or.inl ⟨by rfl, ?_⟩) ?_ ?_
        rotate_left
        · intro w'
          go_simp
          with_reducible rfl
        rotate_left
        · simp only [Act.put, List.setIfInBounds_toArray, List.set_cons_zero, List.set_cons_succ, i64_w, i32_w]
          rfl
        refine pure_ (i := 3) (N := some 17) (v := ?_) (a' := ?_) #[true, false, false, true, false, false, false, false, false, false, false, false, false, false, false] rfl rfl (any_of HT_.out (by kernel_rfl)) (fun _ _ _ h => h) (Or.inl ⟨by rfl, ?_⟩) ?_ ?_
        rotate_left
        · intro w'
          go_simp
          with_reducible rfl
        rotate_left
        · simp only [Act.put, List.setIfInBounds_toArray, List.set_cons_zero, List.set_cons_succ, i64_w, i32_w]
          rfl
        refine pure_ (i := 6) (N := some 20) (v := ?_) (a' := ?_) #[true, false, false, true, false, false, true, false, false, false, false, false, false, false, false] rfl rfl (any_of HT_.out (by kernel_rfl)) (fun _ _ _ h => h) (Or.inl ⟨by rfl, ?_⟩) ?_ ?_
        rotate_left
        · intro w'
          go_simp
          with_reducible rfl
        rotate_left
        · simp only [Act.put, List.setIfInBounds_toArray, List.set_cons_zero, List.set_cons_succ, i64_w, i32_w]
          rfl
        refine take_ (i := 1) (N := some 15) (v := ?_) (a' := ?_) #[true, true, false, true, false, false, true, false, false, false, false, false, false, false, false] rfl rfl (take_ofW HT_.out HW_.out (by kernel_rfl)) (fun _ _ _ h => h) (Or.inl ⟨by rfl, ?_⟩) hHeld ?_ ?_
        rotate_left
        · rintro w' ⟨s0, s1, s2⟩
          go_simp
          with_reducible rfl
        rotate_left
        · simp only [Act.put, List.setIfInBounds_toArray, List.set_cons_zero, List.set_cons_succ, i64_w, i32_w]
          rfl
        refine take_ (i := 4) (N := some 18) (v := ?_) (a' := ?_) #[true, true, false, true, true, false, true, false, false, false, false, false, false, false, false] rfl rfl (take_ofW HT_.out HW_.out (by kernel_rfl)) (fun _ _ _ h => h) (Or.inl ⟨by rfl, ?_⟩) hHeld ?_ ?_
        rotate_left
        · rintro w' ⟨s0, s1, s2⟩
          go_simp
          with_reducible rfl
        rotate_left
        · simp only [Act.put, List.setIfInBounds_toArray, List.set_cons_zero, List.set_cons_succ, i64_w, i32_w]
          rfl
        refine take_ (i := 7) (N := some 21) (v := ?_) (a' := ?_) #[true, true, false, true, true, false, true, true, false, false, false, false, false, false, false] rfl rfl (take_ofW HT_.out HW_.out (by kernel_rfl)) (fun _ _ _ h => h) (Or.inl ⟨by rfl, ?_⟩) hHeld ?_ ?_
        rotate_left
        · rintro w' ⟨s0, s1, s2⟩
          go_simp
          with_reducible rfl
        rotate_left
        · simp only [Act.put, List.setIfInBounds_toArray, List.set_cons_zero, List.set_cons_succ, i64_w, i32_w]
          rfl
        refine one_ (i := 2) (N := some 16) #[true, true, true, true, true, false, true, true, false, false, false, false, false, false, false] rfl rfl (one_of HT_.out (by kernel_rfl)) (by decide) (fun K hK => ?_)
        refine goes_ Tryd.func34 (by kernel_rfl) rfl #[.int .i64 r0] (by rfl) rfl rfl (by (try simp only [List.map_toArray, List.map_cons, List.map_nil]); first | done | rfl) ?_
        with_reducible refine (control_held.calls r0 _ _ rfl).mono ?_
        rintro e w4 ⟨rfl, hb⟩
        refine ⟨_, rfl, ?_⟩
        replace BM := Aside0.mk (blk_below BM.out hb)
        replace BR := Aside0.mk (blk_below BR.out hb)
        replace BO := Aside0.mk (blk_below BO.out hb)
        replace HB := Aside0.mk (below_step HB.out hb)
        clear hb
        refine hK.out _ _ ⟨(blk_cell BR.out 0).trans rfl, (blk_cell BR.out 2).trans rfl, (blk_cell BR.out 3).trans rfl⟩ (fun hHeld => ?_)
        clear hK K
        refine norm_ (a' := ?_) ?_ ?_
        rotate_left
        · show Act.put _ (some 16) _ = _
          simp only [Act.put, List.setIfInBounds_toArray, List.set_cons_zero, List.set_cons_succ, i64_w, i32_w]
          rfl
        refine pure_ (i := 9) (N := some 23) (v := ?_) (a' := ?_) #[true, true, true, true, true, false, true, true, false, true, false, false, false, false, false] rfl rfl (any_of HT_.out (by kernel_rfl)) (fun _ _ _ h => h) (Or.inl ⟨by rfl, ?_⟩) ?_ ?_
        rotate_left
        · intro w'
          go_simp
          with_reducible rfl
        rotate_left
        · simp only [Act.put, List.setIfInBounds_toArray, List.set_cons_zero, List.set_cons_succ, i64_w, i32_w]
          rfl
        refine one_ (i := 5) (N := some 19) #[true, true, true, true, true, true, true, true, false, true, false, false, false, false, false] rfl rfl (one_of HT_.out (by kernel_rfl)) (by decide) (fun K hK => ?_)
        refine goes_ Tryd.func34 (by kernel_rfl) rfl #[.int .i64 r2] (by rfl) rfl rfl (by (try simp only [List.map_toArray, List.map_cons, List.map_nil]); first | done | rfl) ?_
        with_reducible refine (control_held.calls r2 _ _ rfl).mono ?_
        rintro e w5 ⟨rfl, hb⟩
        refine ⟨_, rfl, ?_⟩
        replace BM := Aside0.mk (blk_below BM.out hb)
        replace BR := Aside0.mk (blk_below BR.out hb)
        replace BO := Aside0.mk (blk_below BO.out hb)
        replace HB := Aside0.mk (below_step HB.out hb)
        clear hb
        refine hK.out _ _ ⟨(blk_cell BR.out 0).trans rfl, (blk_cell BR.out 2).trans rfl, (blk_cell BR.out 3).trans rfl⟩ (fun hHeld => ?_)
        clear hK K
        refine norm_ (a' := ?_) ?_ ?_
        rotate_left
        · show Act.put _ (some 19) _ = _
          simp only [Act.put, List.setIfInBounds_toArray, List.set_cons_zero, List.set_cons_succ, i64_w, i32_w]
          rfl
        refine one_ (i := 8) (N := some 22) #[true, true, true, true, true, true, true, true, true, true, false, false, false, false, false] rfl rfl (one_of HT_.out (by kernel_rfl)) (by decide) (fun K hK => ?_)
        refine goes_ Tryd.func34 (by kernel_rfl) rfl #[.int .i64 r3] (by rfl) rfl rfl (by (try simp only [List.map_toArray, List.map_cons, List.map_nil]); first | done | rfl) ?_
        with_reducible refine (control_held.calls r3 _ _ rfl).mono ?_
        rintro e w6 ⟨rfl, hb⟩
        refine ⟨_, rfl, ?_⟩
        replace BM := Aside0.mk (blk_below BM.out hb)
        replace BR := Aside0.mk (blk_below BR.out hb)
        replace BO := Aside0.mk (blk_below BO.out hb)
        replace HB := Aside0.mk (below_step HB.out hb)
        clear hb
        refine hK.out _ _ ⟨(blk_cell BR.out 0).trans rfl, (blk_cell BR.out 2).trans rfl, (blk_cell BR.out 3).trans rfl⟩ (fun hHeld => ?_)
        clear hK K
        refine norm_ (a' := ?_) ?_ ?_
        rotate_left
        · show Act.put _ (some 22) _ = _
          simp only [Act.put, List.setIfInBounds_toArray, List.set_cons_zero, List.set_cons_succ, i64_w, i32_w]
          rfl
        refine one_ (i := 10) (N := none) #[true, true, true, true, true, true, true, true, true, true, true, false, false, false, false] rfl rfl (one_of HT_.out (by kernel_rfl)) (by decide) (fun K hK => ?_)
        have hs10 : w6.cell? ⟨gm, 5, none⟩ = some (.int .i64 i5) := (blk_cell BM.out 5).trans rfl
        have hf10 := blk_frozen BM.out 5
        refine skip_ (w1 := ?_) (by rfl) rfl ?_ ?_
        rotate_left
        · go_simp
          rfl
        refine hK.out _ _ ⟨(cell_far (p := ⟨gm, _, none⟩) ANRM.out _).trans hHeld.1, (cell_far (p := ⟨gm, _, none⟩) ANRM.out _).trans hHeld.2.1, (cell_far (p := ⟨gm, _, none⟩) ANRM.out _).trans hHeld.2.2⟩ (fun hHeld => ?_)
        clear hK K
        refine pure_ (i := 11) (N := some 24) (v := ?_) (a' := ?_) #[true, true, true, true, true, true, true, true, true, true, true, true, false, false, false] rfl rfl (any_of HT_.out (by kernel_rfl)) (fun _ _ _ h => h) (Or.inl ⟨by rfl, ?_⟩) ?_ ?_
        rotate_left
        · intro w'
          go_simp
          with_reducible rfl
        rotate_left
        · simp only [Act.put, List.setIfInBounds_toArray, List.set_cons_zero, List.set_cons_succ, i64_w, i32_w]
          rfl
        refine one_ (i := 12) (N := none) #[true, true, true, true, true, true, true, true, true, true, true, true, true, false, false] rfl rfl (one_of HT_.out (by kernel_rfl)) (by decide) (fun K hK => ?_)
        have hs12 : w6.cell? ⟨gm, 6, none⟩ = some (.int .i64 i6) := (blk_cell BM.out 6).trans rfl
        have hf12 := blk_frozen BM.out 6
        refine skip_ (w1 := ?_) (by rfl) rfl ?_ ?_
        rotate_left
        · go_simp
          rfl
        refine hK.out _ _ ⟨(cell_far (p := ⟨gm, _, none⟩) ANRM.out _).trans hHeld.1, (cell_far (p := ⟨gm, _, none⟩) ANRM.out _).trans hHeld.2.1, (cell_far (p := ⟨gm, _, none⟩) ANRM.out _).trans hHeld.2.2⟩ (fun hHeld => ?_)
        clear hK K
        refine pure_ (i := 13) (N := some 25) (v := ?_) (a' := ?_) #[true, true, true, true, true, true, true, true, true, true, true, true, true, true, false] rfl rfl (any_of HT_.out (by kernel_rfl)) (fun _ _ _ h => h) (Or.inl ⟨by rfl, ?_⟩) ?_ ?_
        rotate_left
        · intro w'
          go_simp
          with_reducible rfl
        rotate_left
        · simp only [Act.put, List.setIfInBounds_toArray, List.set_cons_zero, List.set_cons_succ, i64_w, i32_w]
          rfl
        refine one_ (i := 14) (N := none) #[true, true, true, true, true, true, true, true, true, true, true, true, true, true, true] rfl rfl (one_of HT_.out (by kernel_rfl)) (by decide) (fun K hK => ?_)
        have hs14 : w6.cell? ⟨gm, 7, none⟩ = some (.int .i64 i7) := (blk_cell BM.out 7).trans rfl
        have hf14 := blk_frozen BM.out 7
        refine skip_ (w1 := ?_) (by rfl) rfl ?_ ?_
        rotate_left
        · go_simp
          rfl
        refine hK.out _ _ ⟨(cell_far (p := ⟨gm, _, none⟩) ANRM.out _).trans hHeld.1, (cell_far (p := ⟨gm, _, none⟩) ANRM.out _).trans hHeld.2.1, (cell_far (p := ⟨gm, _, none⟩) ANRM.out _).trans hHeld.2.2⟩ (fun hHeld => ?_)
        clear hK K
        refine done_ (done_of HT_.out (by kernel_rfl)) ?_
        go_wp2
        go_meet
        case rel => exact ⟨⟨(blk_put (cs' := #[.string t0, .bool b1, .int .i64 i2, .int .i64 i3, .int .i64 i4, .int .i64 (control_Apply.held r0), .int .i64 (control_Apply.held r2), .int .i64 (control_Apply.held r3), (.slice A8 m8 c8), .string t9, .bool (!n0 && !n2)]) (blk_put (cs' := #[.string t0, .bool b1, .int .i64 i2, .int .i64 i3, .int .i64 i4, .int .i64 (control_Apply.held r0), .int .i64 (control_Apply.held r2), .int .i64 i7, (.slice A8 m8 c8), .string t9, .bool (!n0 && !n2)]) (blk_put (cs' := #[.string t0, .bool b1, .int .i64 i2, .int .i64 i3, .int .i64 i4, .int .i64 (control_Apply.held r0), .int .i64 i6, .int .i64 i7, (.slice A8 m8 c8), .string t9, .bool (!n0 && !n2)]) BM.out 5 _ rfl) 6 _ rfl) 7 _ rfl)⟩, ⟨(blk_far (blk_far (blk_far BR.out ANRM.out _) ANRM.out _) ANRM.out _)⟩, ⟨(blk_far (blk_far (blk_far BO.out ANOM.out _) ANOM.out _) ANOM.out _)⟩, ⟨(below_set (below_set (below_set HB.out AGM.out) AGM.out) AGM.out)⟩⟩
      case rest =>
        clear BM BR BO HB
        obtain ⟨BM, BR, BO, HB⟩ := hcut
        have hr1 : wc.cell? ⟨gr, 1, none⟩ = some (.int .i64 r1) := (blk_cell BR.out 1).trans rfl
        go_upto_if 28 with (fail)
        go_cut [] (fun wc => Aside0 (wc.heap[gm]? = some (.cells #[.string t0, .bool b1, .int .i64 i2, .int .i64 i3, .int .i64 i4, .int .i64 (if r1 ≥ 0 then control_Apply.held r1 else control_Apply.held r0), .int .i64 (control_Apply.held r2), .int .i64 (control_Apply.held r3), (.slice A8 m8 c8), .string t9, .bool (!n0 && !n2)] 39 (0, 0))) ∧ Aside0 (wc.heap[gr]? = some (.cells #[.int .i64 r0, .int .i64 r1, .int .i64 r2, .int .i64 r3, .bool n0, .bool n1, .bool n2] 27 (0, 0))) ∧ Aside0 (wc.heap[go]? = some (.cells #[.string (⟨#[]⟩ : ByteArray), .bool false, .int .i64 0, .int .i64 0, .int .i64 0, .int .i64 0, .int .i64 0, .int .i64 0, (.slice none 0 0), .string (⟨#[]⟩ : ByteArray), .bool false] 39 (0, 0))) ∧ Aside0 (Below w.heap.size w wc))
        case first =>
          by_cases h0 : 0 ≤ r1
          · have h1 : decide (0 ≤ r1) = true := decide_eq_true h0
            go_wp2_with (go_at_call 34; (with_reducible refine (control_held.calls r1 _ _ rfl).mono ?_); rintro e wd ⟨rfl, hb⟩; replace BM := Aside0.mk (blk_below BM.out hb); replace BR := Aside0.mk (blk_below BR.out hb); replace BO := Aside0.mk (blk_below BO.out hb); replace HB := Aside0.mk (below_step HB.out hb); have hv5 : wd.cell? ⟨gm, 5, none⟩ = some (.int .i64 (control_Apply.held r0)) := (blk_cell BM.out 5).trans rfl; have fv5 := blk_frozen BM.out 5; clear hb)
            go_meet
            case rel =>
              rw [if_pos (show r1 ≥ 0 by omega)]
              exact ⟨⟨(blk_put (cs' := #[.string t0, .bool b1, .int .i64 i2, .int .i64 i3, .int .i64 i4, .int .i64 (control_Apply.held r1), .int .i64 (control_Apply.held r2), .int .i64 (control_Apply.held r3), (.slice A8 m8 c8), .string t9, .bool (!n0 && !n2)]) BM.out 5 _ rfl)⟩, ⟨(blk_far BR.out ANRM.out _)⟩, ⟨(blk_far BO.out ANOM.out _)⟩, ⟨(below_set HB.out AGM.out)⟩⟩
          · have h1 : decide (0 ≤ r1) = false := decide_eq_false h0
            go_wp2
            go_meet
            case rel =>
              rw [if_neg (show ¬ (r1 ≥ 0) by omega)]
              exact ⟨BM, BR, BO, HB⟩
        case rest =>
          clear BM BR BO HB
          obtain ⟨BM, BR, BO, HB⟩ := hcut
          clear hr1
          have hr5 : wc.cell? ⟨gr, 5, none⟩ = some (.bool n1) := (blk_cell BR.out 5).trans rfl
          go_upto_if 34 with (fail)
          go_cut [] (fun wc => Aside0 (wc.heap[gm]? = some (.cells #[.string t0, .bool b1, .int .i64 i2, .int .i64 i3, .int .i64 i4, .int .i64 (control_Apply.fr r0 r1 n1), .int .i64 (control_Apply.wh r2 n1), .int .i64 (control_Apply.wh r3 n1), (.slice A8 m8 c8), .string t9, .bool (!n0 && !n2)] 39 (0, 0))) ∧ Aside0 (wc.heap[gr]? = some (.cells #[.int .i64 r0, .int .i64 r1, .int .i64 r2, .int .i64 r3, .bool n0, .bool n1, .bool n2] 27 (0, 0))) ∧ Aside0 (wc.heap[go]? = some (.cells #[.string (⟨#[]⟩ : ByteArray), .bool false, .int .i64 0, .int .i64 0, .int .i64 0, .int .i64 0, .int .i64 0, .int .i64 0, (.slice none 0 0), .string (⟨#[]⟩ : ByteArray), .bool false] 39 (0, 0))) ∧ Aside0 (Below w.heap.size w wc))
          case first =>
            cases n1 with
            | false =>
              go_wp2
              go_meet
              case rel => exact ⟨⟨BM.out⟩, BR, BO, HB⟩
            | true =>
              have hv5 : wc.cell? ⟨gm, 5, none⟩ = some (.int .i64 (if r1 ≥ 0 then control_Apply.held r1 else control_Apply.held r0)) := (blk_cell BM.out 5).trans rfl
              have hv6 : wc.cell? ⟨gm, 6, none⟩ = some (.int .i64 (control_Apply.held r2)) := (blk_cell BM.out 6).trans rfl
              have hv7 : wc.cell? ⟨gm, 7, none⟩ = some (.int .i64 (control_Apply.held r3)) := (blk_cell BM.out 7).trans rfl
              have fv5 := blk_frozen BM.out 5
              have fv6 := blk_frozen BM.out 6
              have fv7 := blk_frozen BM.out 7
              go_wp2
              go_meet
              case rel => exact ⟨⟨(blk_put (cs' := #[.string t0, .bool b1, .int .i64 i2, .int .i64 i3, .int .i64 i4, .int .i64 (control_Apply.fr r0 r1 true), .int .i64 (control_Apply.wh r2 true), .int .i64 (control_Apply.wh r3 true), (.slice A8 m8 c8), .string t9, .bool (!n0 && !n2)]) (blk_put (cs' := #[.string t0, .bool b1, .int .i64 i2, .int .i64 i3, .int .i64 i4, .int .i64 (control_Apply.fr r0 r1 true), .int .i64 (control_Apply.wh r2 true), .int .i64 (control_Apply.held r3), (.slice A8 m8 c8), .string t9, .bool (!n0 && !n2)]) (blk_put (cs' := #[.string t0, .bool b1, .int .i64 i2, .int .i64 i3, .int .i64 i4, .int .i64 (control_Apply.fr r0 r1 true), .int .i64 (control_Apply.held r2), .int .i64 (control_Apply.held r3), (.slice A8 m8 c8), .string t9, .bool (!n0 && !n2)]) BM.out 5 _ rfl) 6 _ rfl) 7 _ rfl)⟩, ⟨(blk_far (blk_far (blk_far BR.out ANRM.out _) ANRM.out _) ANRM.out _)⟩, ⟨(blk_far (blk_far (blk_far BO.out ANOM.out _) ANOM.out _) ANOM.out _)⟩, ⟨(below_set (below_set (below_set HB.out AGM.out) AGM.out) AGM.out)⟩⟩
          case rest =>
            clear BM BR BO HB
            obtain ⟨BM, BR, BO, HB⟩ := hcut
            clear hr5
            have hv0 : wc.cell? ⟨gm, 0, none⟩ = some (.string t0) := (blk_cell BM.out 0).trans rfl
            have hv1 : wc.cell? ⟨gm, 1, none⟩ = some (.bool b1) := (blk_cell BM.out 1).trans rfl
            have hv2 : wc.cell? ⟨gm, 2, none⟩ = some (.int .i64 i2) := (blk_cell BM.out 2).trans rfl
            have hv3 : wc.cell? ⟨gm, 3, none⟩ = some (.int .i64 i3) := (blk_cell BM.out 3).trans rfl
            have hv4 : wc.cell? ⟨gm, 4, none⟩ = some (.int .i64 i4) := (blk_cell BM.out 4).trans rfl
            have hv5 : wc.cell? ⟨gm, 5, none⟩ = some (.int .i64 (control_Apply.fr r0 r1 n1)) := (blk_cell BM.out 5).trans rfl
            have hv6 : wc.cell? ⟨gm, 6, none⟩ = some (.int .i64 (control_Apply.wh r2 n1)) := (blk_cell BM.out 6).trans rfl
            have hv7 : wc.cell? ⟨gm, 7, none⟩ = some (.int .i64 (control_Apply.wh r3 n1)) := (blk_cell BM.out 7).trans rfl
            have hv8 : wc.cell? ⟨gm, 8, none⟩ = some ((.slice A8 m8 c8)) := (blk_cell BM.out 8).trans rfl
            have hv9 : wc.cell? ⟨gm, 9, none⟩ = some (.string t9) := (blk_cell BM.out 9).trans rfl
            have hv10 : wc.cell? ⟨gm, 10, none⟩ = some (.bool (!n0 && !n2)) := (blk_cell BM.out 10).trans rfl
            have fv0 := blk_frozen BM.out 0
            have fv1 := blk_frozen BM.out 1
            have fv2 := blk_frozen BM.out 2
            have fv3 := blk_frozen BM.out 3
            have fv4 := blk_frozen BM.out 4
            have fv5 := blk_frozen BM.out 5
            have fv6 := blk_frozen BM.out 6
            have fv7 := blk_frozen BM.out 7
            have fv8 := blk_frozen BM.out 8
            have fv9 := blk_frozen BM.out 9
            have fv10 := blk_frozen BM.out 10
            have ho0 : wc.cell? ⟨go, 0, none⟩ = some (.string (⟨#[]⟩ : ByteArray)) := (blk_cell BO.out 0).trans rfl
            have ho1 : wc.cell? ⟨go, 1, none⟩ = some (.bool false) := (blk_cell BO.out 1).trans rfl
            have ho2 : wc.cell? ⟨go, 2, none⟩ = some (.int .i64 0) := (blk_cell BO.out 2).trans rfl
            have ho3 : wc.cell? ⟨go, 3, none⟩ = some (.int .i64 0) := (blk_cell BO.out 3).trans rfl
            have ho4 : wc.cell? ⟨go, 4, none⟩ = some (.int .i64 0) := (blk_cell BO.out 4).trans rfl
            have ho5 : wc.cell? ⟨go, 5, none⟩ = some (.int .i64 0) := (blk_cell BO.out 5).trans rfl
            have ho6 : wc.cell? ⟨go, 6, none⟩ = some (.int .i64 0) := (blk_cell BO.out 6).trans rfl
            have ho7 : wc.cell? ⟨go, 7, none⟩ = some (.int .i64 0) := (blk_cell BO.out 7).trans rfl
            have ho8 : wc.cell? ⟨go, 8, none⟩ = some ((.slice none 0 0)) := (blk_cell BO.out 8).trans rfl
            have ho9 : wc.cell? ⟨go, 9, none⟩ = some (.string (⟨#[]⟩ : ByteArray)) := (blk_cell BO.out 9).trans rfl
            have ho10 : wc.cell? ⟨go, 10, none⟩ = some (.bool false) := (blk_cell BO.out 10).trans rfl
            have fo0 := blk_frozen BO.out 0
            have fo1 := blk_frozen BO.out 1
            have fo2 := blk_frozen BO.out 2
            have fo3 := blk_frozen BO.out 3
            have fo4 := blk_frozen BO.out 4
            have fo5 := blk_frozen BO.out 5
            have fo6 := blk_frozen BO.out 6
            have fo7 := blk_frozen BO.out 7
            have fo8 := blk_frozen BO.out 8
            have fo9 := blk_frozen BO.out 9
            have fo10 := blk_frozen BO.out 10
            have H1 := ANMO.out
            have H2 := ANOM.out
            go_wp2
            refine bodyPost_ret (results_cell_row rfl _ _ go 39 #[.string t0, .bool b1, .int .i64 i2, .int .i64 i3, .int .i64 i4, .int .i64 (control_Apply.fr r0 r1 n1), .int .i64 (control_Apply.wh r2 n1), .int .i64 (control_Apply.wh r3 n1), (.slice A8 m8 c8), .string t9, .bool (!n0 && !n2)] (0, 0) _ rfl (by exact (blk_put (cs' := #[.string t0, .bool b1, .int .i64 i2, .int .i64 i3, .int .i64 i4, .int .i64 (control_Apply.fr r0 r1 n1), .int .i64 (control_Apply.wh r2 n1), .int .i64 (control_Apply.wh r3 n1), (.slice A8 m8 c8), .string t9, .bool (!n0 && !n2)]) (blk_put (cs' := #[.string t0, .bool b1, .int .i64 i2, .int .i64 i3, .int .i64 i4, .int .i64 (control_Apply.fr r0 r1 n1), .int .i64 (control_Apply.wh r2 n1), .int .i64 (control_Apply.wh r3 n1), (.slice A8 m8 c8), .string t9, .bool false]) (blk_put (cs' := #[.string t0, .bool b1, .int .i64 i2, .int .i64 i3, .int .i64 i4, .int .i64 (control_Apply.fr r0 r1 n1), .int .i64 (control_Apply.wh r2 n1), .int .i64 (control_Apply.wh r3 n1), (.slice A8 m8 c8), .string (⟨#[]⟩ : ByteArray), .bool false]) (blk_put (cs' := #[.string t0, .bool b1, .int .i64 i2, .int .i64 i3, .int .i64 i4, .int .i64 (control_Apply.fr r0 r1 n1), .int .i64 (control_Apply.wh r2 n1), .int .i64 (control_Apply.wh r3 n1), (.slice none 0 0), .string (⟨#[]⟩ : ByteArray), .bool false]) (blk_put (cs' := #[.string t0, .bool b1, .int .i64 i2, .int .i64 i3, .int .i64 i4, .int .i64 (control_Apply.fr r0 r1 n1), .int .i64 (control_Apply.wh r2 n1), .int .i64 0, (.slice none 0 0), .string (⟨#[]⟩ : ByteArray), .bool false]) (blk_put (cs' := #[.string t0, .bool b1, .int .i64 i2, .int .i64 i3, .int .i64 i4, .int .i64 (control_Apply.fr r0 r1 n1), .int .i64 0, .int .i64 0, (.slice none 0 0), .string (⟨#[]⟩ : ByteArray), .bool false]) (blk_put (cs' := #[.string t0, .bool b1, .int .i64 i2, .int .i64 i3, .int .i64 i4, .int .i64 0, .int .i64 0, .int .i64 0, (.slice none 0 0), .string (⟨#[]⟩ : ByteArray), .bool false]) (blk_put (cs' := #[.string t0, .bool b1, .int .i64 i2, .int .i64 i3, .int .i64 0, .int .i64 0, .int .i64 0, .int .i64 0, (.slice none 0 0), .string (⟨#[]⟩ : ByteArray), .bool false]) (blk_put (cs' := #[.string t0, .bool b1, .int .i64 i2, .int .i64 0, .int .i64 0, .int .i64 0, .int .i64 0, .int .i64 0, (.slice none 0 0), .string (⟨#[]⟩ : ByteArray), .bool false]) (blk_put (cs' := #[.string t0, .bool b1, .int .i64 0, .int .i64 0, .int .i64 0, .int .i64 0, .int .i64 0, .int .i64 0, (.slice none 0 0), .string (⟨#[]⟩ : ByteArray), .bool false]) (blk_put (cs' := #[.string t0, .bool false, .int .i64 0, .int .i64 0, .int .i64 0, .int .i64 0, .int .i64 0, .int .i64 0, (.slice none 0 0), .string (⟨#[]⟩ : ByteArray), .bool false]) BO.out 0 _ rfl) 1 _ rfl) 2 _ rfl) 3 _ rfl) 4 _ rfl) 5 _ rfl) 6 _ rfl) 7 _ rfl) 8 _ rfl) 9 _ rfl) 10 _ rfl)) Tryd.underlying39 rfl (by kernel_rfl)) rfl ?_
            exact ⟨rfl, (below_set (below_set (below_set (below_set (below_set (below_set (below_set (below_set (below_set (below_set (below_set HB.out AGO.out) AGO.out) AGO.out) AGO.out) AGO.out) AGO.out) AGO.out) AGO.out) AGO.out) AGO.out) AGO.out)⟩
theorem control_Apply.calls (k : Nat) (a0_0 : ByteArray) (a0_1 : Bool) (a0_2 : Int) (a0_3 : Int) (a0_4 : Int) (a0_5 : Int) (a0_6 : Int) (a0_7 : Int) (P0_8_ : Nat → Prop) (u9000_ : Value) (l0_8 : List ByteArray) (a0_9 : ByteArray) (a0_10 : Bool) (a1_0 : Int) (a1_1 : Int) (a1_2 : Int) (a1_3 : Int) (a1_4 : Bool) (a1_5 : Bool) (a1_6 : Bool) (r1 : ByteArray) (r2 : Bool) (r3 : Int) (r4 : Int) (r5 : Int) (r6 : Int) (r7 : Int) (r8 : Int) (r9 : List ByteArray) (r10 : ByteArray) (r11 : Bool) (w0 w : World) (hB : Below w0.heap.size w0 w) (ho0_8 : Kd.R Kd.string 9 w w0.heap.size P0_8_ u9000_ l0_8) (h : control_Apply.f k a0_0 a0_1 a0_2 a0_3 a0_4 a0_5 a0_6 a0_7 l0_8 a0_9 a0_10 a1_0 a1_1 a1_2 a1_3 a1_4 a1_5 a1_6 = some (r1, r2, r3, r4, r5, r6, r7, r8, r9, r10, r11)) :
    Calls Tryd.prog 19 #[.agg #[.string a0_0, .bool a0_1, .int .i64 a0_2, .int .i64 a0_3, .int .i64 a0_4, .int .i64 a0_5, .int .i64 a0_6, .int .i64 a0_7, u9000_, .string a0_9, .bool a0_10], .agg #[.int .i64 a1_0, .int .i64 a1_1, .int .i64 a1_2, .int .i64 a1_3, .bool a1_4, .bool a1_5, .bool a1_6]] w fun e w' => ∃ v8_ : Value, e = .returned (.agg #[.string r1, .bool r2, .int .i64 r3, .int .i64 r4, .int .i64 r5, .int .i64 r6, .int .i64 r7, .int .i64 r8, v8_, .string r10, .bool r11]) ∧ Kd.R Kd.string 9 w' w0.heap.size (fun k_ => (P0_8_ k_ ∨ w.heap.size ≤ k_)) v8_ r9 ∧ Below w0.heap.size w0 w' ∧ Kept w w' (fun k_ => P0_8_ k_) := by
  obtain ⟨A8, c8, rfl⟩ := Kd.R_slice ho0_8
  have h' := Option.some.inj h
  simp only [Prod.mk.injEq] at h'
  obtain ⟨rfl, rfl, rfl, rfl, rfl, rfl, rfl, rfl, rfl, rfl, rfl⟩ := h'
  refine (control_Apply.walk a0_0 a0_1 a0_2 a0_3 a0_4 a0_5 a0_6 a0_7 A8 l0_8.length c8 a0_9 a0_10 a1_0 a1_1 a1_2 a1_3 a1_4 a1_5 a1_6 w).mono ?_
  rintro e w' ⟨rfl, hb⟩
  exact ⟨_, rfl, Kd.R_mono (Kd.R_below ho0_8 hb) (fun _ hk => .inl hk), below_step hB hb, Kept.below (Kept.refl w _) hb⟩


end Go.Proofs.YtmapdckelbobiaaDoor.X
