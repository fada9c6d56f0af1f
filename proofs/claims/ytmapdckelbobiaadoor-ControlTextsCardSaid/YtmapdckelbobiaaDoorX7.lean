-- Printed by a program of this session (pp.py: the kit's print.py, run with contracts of its own) out of the translation. Not trusted: Lean checks it.
import Derived.Test.YtmapdckelbobiaaDoorX0
import Derived.Test.YtmapdckelbobiaaDoorX6
namespace Go.Proofs.YtmapdckelbobiaaDoor.X
open Go.RowKit Go.Proofs.YtmapdckelbobiaaDoorW.PrintWords Go.Proofs.YtmapdckelbobiaaDoorW.PrintLast Go.Proofs.YtmapdckelbobiaaDoorW.PrintMore
attribute [local go_sem] max2_int min2_int max_two min_two max_three min_three max_four min_four   -- for this text's walks alone
set_option linter.unusedVariables false
set_option linter.unusedSimpArgs false

/-! ### control_Of: function 22 -/
def control_Of.held (a : Int) : Int := mn (mx a 0) 1099511627776
def control_Of.sm (x : Int) : Int := if x = 0 then -1 else x
def control_Of.f (a0_0 : ByteArray) (a0_1 : Bool) (a0_2 : Int) (a0_3 : Int) (a0_4 : Int) (a0_5 : Int) (a0_6 : Int) (a0_7 : Int) (l0_8 : List ByteArray) (a0_9 : ByteArray) (a0_10 : Bool) : Option (Int × Int × Int × Int × Bool × Bool × Bool) := some (-1, control_Of.held a0_5, control_Of.sm (control_Of.held a0_6), control_Of.sm (control_Of.held a0_7), !a0_10, false, false)
def control_Of.T1 : Bool × List (List Nat × List Nat) := (true, [([], []), ([0], [0]), ([1], [1]), ([], []), ([3], [3]), ([4, 2], [4]), ([], []), ([6], [6]), ([7, 5], [7]), ([], []), ([9], [9]), ([10], [10]), ([2, 5, 8, 11], [2, 5, 8, 11]), ([], []), ([13, 12, 8, 0, 1, 2, 3, 4, 5, 6, 7, 8, 9, 10, 11, 12, 13], [12, 13])])
def control_Of.B1 : List Nat := [0, 1, 3, 0, 8, 31, 0, 64, 255, 0, 512, 1536, 4095, 0, 16383]
theorem control_Of.tab1 : rtab .any (opsOf Tryd.f22 1) = control_Of.T1 := by kernel_rfl
theorem control_Of.bits1 : waitsOk control_Of.T1.2 control_Of.B1 = true := by kernel_rfl
set_option maxHeartbeats 8000000 in
set_option maxRecDepth 100000 in
theorem control_Of.walk (t0 : ByteArray) (b1 : Bool) (i2 i3 i4 i5 i6 i7 : Int) (A8 : Option Addr) (m8 c8 : Nat) (t9 : ByteArray) (b10 : Bool) (w : World) :
    Calls Tryd.prog 22 #[.agg #[.string t0, .bool b1, .int .i64 i2, .int .i64 i3, .int .i64 i4, .int .i64 i5, .int .i64 i6, .int .i64 i7, (.slice A8 m8 c8), .string t9, .bool b10]] w fun e w' => e = .returned (.agg #[.int .i64 (-1), .int .i64 (control_Of.held i5), .int .i64 (control_Of.sm (control_Of.held i6)), .int .i64 (control_Of.sm (control_Of.held i7)), .bool (!b10), .bool false, .bool false]) ∧ Below w.heap.size w w' := by
  have hu39 := Tryd.underlying39
  have hu27 := Tryd.underlying27
  obtain ⟨h5, e5⟩ : ∃ x, x = control_Of.held i5 := ⟨_, rfl⟩
  obtain ⟨h6, e6⟩ : ∃ x, x = control_Of.held i6 := ⟨_, rfl⟩
  obtain ⟨h7, e7⟩ : ∃ x, x = control_Of.held i7 := ⟨_, rfl⟩
  rw [← e5, ← e6, ← e7]
  have E5 := Aside0.mk e5
  have E6 := Aside0.mk e6
  have E7 := Aside0.mk e7
  clear e5 e6 e7
  obtain ⟨gm, hgm⟩ : ∃ g, g = w.heap.size := ⟨_, rfl⟩
  obtain ⟨go, hgo⟩ : ∃ g, g = w.heap.size + 1 := ⟨_, rfl⟩
  have AGM : Aside0 (w.heap.size ≤ gm) := ⟨by omega⟩
  have AGO : Aside0 (w.heap.size ≤ go) := ⟨by omega⟩
  have ANMO : Aside0 (gm ≠ go) := ⟨by omega⟩
  have ANOM : Aside0 (go ≠ gm) := ⟨by omega⟩
  go_enter Tryd.func22, Tryd.ntmps22
  go_upto_region 0 with (fail)
  go_cut [1, 2] (fun x1 x2 wc => x1 = .pointer (some ⟨gm, 0, none⟩) ∧ x2 = .pointer (some ⟨go, 0, none⟩) ∧ Aside0 (wc.heap[gm]? = some (.cells #[.string t0, .bool b1, .int .i64 i2, .int .i64 i3, .int .i64 i4, .int .i64 i5, .int .i64 i6, .int .i64 i7, (.slice A8 m8 c8), .string t9, .bool b10] 39 (0, 0))) ∧ Aside0 (wc.heap[go]? = some (.cells #[.int .i64 0, .int .i64 0, .int .i64 0, .int .i64 0, .bool false, .bool false, .bool false] 27 (0, 0))) ∧ Aside0 (Below w.heap.size w wc))
  case first =>
    go_wp2
    go_meet
    case rel => exact ⟨by rw [hgm], by rw [hgo], ⟨by rw [hgm]; exact blk_alloc (blk_new _ _) _⟩, ⟨by rw [hgo]; simp [World.alloc, -World.alloc_eq, Array.getElem?_push, Array.getElem_push]⟩, ⟨below_alloc (below_alloc (Below.refl _ _) _) _⟩⟩
  case rest =>
    obtain ⟨rfl, rfl, BM, BO, HB⟩ := hcut
    clear hgm hgo
    go_upto_region 1 with (fail)
    go_cut [3] (fun x3 wc => ∃ gs : Nat, x3 = .pointer (some ⟨gs, 0, none⟩) ∧ Aside0 (wc.heap[go]? = some (.cells #[.int .i64 0, .int .i64 0, .int .i64 0, .int .i64 0, .bool false, .bool false, .bool false] 27 (0, 0))) ∧ Aside0 (wc.heap[gs]? = some (.cells #[.int .i64 (-1), .int .i64 h5, .int .i64 h6, .int .i64 h7, .bool (!b10), .bool false, .bool false] 27 (0, 0))) ∧ Aside0 (w.heap.size ≤ gs) ∧ Aside0 (go ≠ gs) ∧ Aside0 (gs ≠ go) ∧ Aside0 (Below w.heap.size w wc))
    case first =>
      have e5 := E5.out
      have e6 := E6.out
      have e7 := E7.out
      unfold control_Of.held at e5 e6 e7
      clear E5 E6 E7
      subst e5 e6 e7
      refine start_ (n := 15) (S := fun w' => w'.cell? ⟨gm, 5, none⟩ = some (.int .i64 i5) ∧ w'.cell? ⟨gm, 6, none⟩ = some (.int .i64 i6) ∧ w'.cell? ⟨gm, 7, none⟩ = some (.int .i64 i7) ∧ w'.cell? ⟨gm, 10, none⟩ = some (.bool b10)) (ds := []) #[false, false, false, false, false, false, false, false, false, false, false, false, false, false, false] (by kernel_rfl) rfl rfl ⟨(blk_cell BM.out 5).trans rfl, (blk_cell BM.out 6).trans rfl, (blk_cell BM.out 7).trans rfl, (blk_cell BM.out 10).trans rfl⟩ (fun hHeld => ?_); refine with_tabW control_Of.tab1 control_Of.bits1 (fun HT_ HW_ => ?_)
      replace BM := Aside0.mk (blk_drew BM.out); replace BO := Aside0.mk (blk_drew BO.out); replace HB := Aside0.mk (below_drew1 HB.out)
      generalize wc.drew = w10 at BM BO HB hHeld ⊢
      refine pure_ (i := 0) (N := some 4) (v := ?_) (a' := ?_) #[true, false, false, false, false, false, false, false, false, false, false, false, false, false, false] rfl rfl (any_of HT_.out (by kernel_rfl)) (fun _ _ _ h => h) (Or.inl ⟨by rfl, ?_⟩) ?_ ?_
      rotate_left
      · intro w'
        go_simp
        with_reducible rfl
      rotate_left
      · simp only [Act.put, List.setIfInBounds_toArray, List.set_cons_zero, List.set_cons_succ, i64_w, i32_w]
        rfl
      refine pure_ (i := 3) (N := some 7) (v := ?_) (a' := ?_) #[true, false, false, true, false, false, false, false, false, false, false, false, false, false, false] rfl rfl (any_of HT_.out (by kernel_rfl)) (fun _ _ _ h => h) (Or.inl ⟨by rfl, ?_⟩) ?_ ?_
      rotate_left
      · intro w'
        go_simp
        with_reducible rfl
      rotate_left
      · simp only [Act.put, List.setIfInBounds_toArray, List.set_cons_zero, List.set_cons_succ, i64_w, i32_w]
        rfl
      refine pure_ (i := 6) (N := some 10) (v := ?_) (a' := ?_) #[true, false, false, true, false, false, true, false, false, false, false, false, false, false, false] rfl rfl (any_of HT_.out (by kernel_rfl)) (fun _ _ _ h => h) (Or.inl ⟨by rfl, ?_⟩) ?_ ?_
      rotate_left
      · intro w'
        go_simp
        with_reducible rfl
      rotate_left
      · simp only [Act.put, List.setIfInBounds_toArray, List.set_cons_zero, List.set_cons_succ, i64_w, i32_w]
        rfl
      refine pure_ (i := 9) (N := some 13) (v := ?_) (a' := ?_) #[true, false, false, true, false, false, true, false, false, true, false, false, false, false, false] rfl rfl (any_of HT_.out (by kernel_rfl)) (fun _ _ _ h => h) (Or.inl ⟨by rfl, ?_⟩) ?_ ?_
      rotate_left
      · intro w'
        go_simp
        with_reducible rfl
      rotate_left
      · simp only [Act.put, List.setIfInBounds_toArray, List.set_cons_zero, List.set_cons_succ, i64_w, i32_w]
        rfl
      refine take_ (i := 1) (N := some 5) (v := ?_) (a' := ?_) #[true, true, false, true, false, false, true, false, false, true, false, false, false, false, false] rfl rfl (take_ofW HT_.out HW_.out (by kernel_rfl)) (fun _ _ _ h => h) (Or.inl ⟨by rfl, ?_⟩) hHeld ?_ ?_
      rotate_left
      · rintro w' ⟨s0, s1, s2, s3⟩
        go_simp
        with_reducible rfl
      rotate_left
      · simp only [Act.put, List.setIfInBounds_toArray, List.set_cons_zero, List.set_cons_succ, i64_w, i32_w]
        rfl
      refine take_ (i := 4) (N := some 8) (v := ?_) (a' := ?_) #[true, true, false, true, true, false, true, false, false, true, false, false, false, false, false] rfl rfl (take_ofW HT_.out HW_.out (by kernel_rfl)) (fun _ _ _ h => h) (Or.inl ⟨by rfl, ?_⟩) hHeld ?_ ?_
      rotate_left
      · rintro w' ⟨s0, s1, s2, s3⟩
        go_simp
        with_reducible rfl
      rotate_left
      · simp only [Act.put, List.setIfInBounds_toArray, List.set_cons_zero, List.set_cons_succ, i64_w, i32_w]
        rfl
      refine take_ (i := 7) (N := some 11) (v := ?_) (a' := ?_) #[true, true, false, true, true, false, true, true, false, true, false, false, false, false, false] rfl rfl (take_ofW HT_.out HW_.out (by kernel_rfl)) (fun _ _ _ h => h) (Or.inl ⟨by rfl, ?_⟩) hHeld ?_ ?_
      rotate_left
      · rintro w' ⟨s0, s1, s2, s3⟩
        go_simp
        with_reducible rfl
      rotate_left
      · simp only [Act.put, List.setIfInBounds_toArray, List.set_cons_zero, List.set_cons_succ, i64_w, i32_w]
        rfl
      refine take_ (i := 10) (N := some 14) (v := ?_) (a' := ?_) #[true, true, false, true, true, false, true, true, false, true, true, false, false, false, false] rfl rfl (take_ofW HT_.out HW_.out (by kernel_rfl)) (fun _ _ _ h => h) (Or.inl ⟨by rfl, ?_⟩) hHeld ?_ ?_
      rotate_left
      · rintro w' ⟨s0, s1, s2, s3⟩
        go_simp
        with_reducible rfl
      rotate_left
      · simp only [Act.put, List.setIfInBounds_toArray, List.set_cons_zero, List.set_cons_succ, i64_w, i32_w]
        rfl
      refine pure_ (i := 11) (N := some 15) (v := ?_) (a' := ?_) #[true, true, false, true, true, false, true, true, false, true, true, true, false, false, false] rfl rfl (any_of HT_.out (by kernel_rfl)) (fun _ _ _ h => h) (Or.inl ⟨by rfl, ?_⟩) ?_ ?_
      rotate_left
      · intro w'
        go_simp
        with_reducible rfl
      rotate_left
      · simp only [Act.put, List.setIfInBounds_toArray, List.set_cons_zero, List.set_cons_succ, i64_w, i32_w]
        rfl
      refine join_ (σ := Nat) 1 #[true, true, true, true, true, true, true, true, true, true, true, true, true, true, false] (fun s_ => [(6, .int .i64 (mn (mx i5 0) 1099511627776)), (9, .int .i64 (mn (mx i6 0) 1099511627776)), (12, .int .i64 (mn (mx i7 0) 1099511627776)), (3, .pointer (some ⟨s_, 0, none⟩)), (16, .agg #[.int .i64 (-1), .int .i64 (mn (mx i5 0) 1099511627776), .int .i64 (mn (mx i6 0) 1099511627776), .int .i64 (mn (mx i7 0) 1099511627776), .bool (!b10), .bool false, .bool false])]) (fun s_ w' => (w'.cell? ⟨gm, 5, none⟩ = some (.int .i64 i5) ∧ w'.cell? ⟨gm, 6, none⟩ = some (.int .i64 i6) ∧ w'.cell? ⟨gm, 7, none⟩ = some (.int .i64 i7) ∧ w'.cell? ⟨gm, 10, none⟩ = some (.bool b10)) ∧ (w'.heap[gm]? = some (.cells #[.string t0, .bool b1, .int .i64 i2, .int .i64 i3, .int .i64 i4, .int .i64 i5, .int .i64 i6, .int .i64 i7, (.slice A8 m8 c8), .string t9, .bool b10] 39 (0, 0))) ∧ (w'.heap[go]? = some (.cells #[.int .i64 0, .int .i64 0, .int .i64 0, .int .i64 0, .bool false, .bool false, .bool false] 27 (0, 0))) ∧ (w'.heap[s_]? = some (.cells #[.int .i64 0, .int .i64 0, .int .i64 0, .int .i64 0, .bool false, .bool false, .bool false] 27 (0, 0))) ∧ (w.heap.size ≤ s_) ∧ (gm ≠ s_) ∧ (s_ ≠ gm) ∧ (go ≠ s_) ∧ (s_ ≠ go) ∧ (Below w.heap.size w w')) ?_ ?_
      rotate_left
      · intro hCont
        refine two_ (i := 2) (j := 13) (Ni := some 6) (Nj := some 3) #[true, true, true, true, true, false, true, true, false, true, true, true, false, false, false] #[true, true, false, true, true, false, true, true, false, true, true, true, false, true, false] rfl rfl rfl rfl (two_of HT_.out (by kernel_rfl)) (by decide) (by decide) (fun K hK => ?_) (fun K hK => ?_)
        · skip
          refine goes_ Tryd.func34 (by kernel_rfl) rfl #[.int .i64 i5] (by rfl) rfl rfl (by (try simp only [List.map_toArray, List.map_cons, List.map_nil]); first | done | rfl) ?_
          with_reducible refine (control_held.calls i5 _ _ rfl).mono ?_
          rintro e w11 ⟨rfl, hb⟩
          refine ⟨_, rfl, ?_⟩
          replace BM := Aside0.mk (blk_below BM.out hb)
          replace BO := Aside0.mk (blk_below BO.out hb)
          replace HB := Aside0.mk (below_step HB.out hb)
          clear hb
          refine hK.out _ _ ⟨(blk_cell BM.out 5).trans rfl, (blk_cell BM.out 6).trans rfl, (blk_cell BM.out 7).trans rfl, (blk_cell BM.out 10).trans rfl⟩ (fun hHeld => ?_)
          clear hK K
          refine norm_ (a' := ?_) ?_ ?_
          rotate_left
          · show Act.put _ (some 6) _ = _
            simp only [Act.put, List.setIfInBounds_toArray, List.set_cons_zero, List.set_cons_succ, i64_w, i32_w]
            rfl
          refine two_ (i := 5) (j := 13) (Ni := some 9) (Nj := some 3) #[true, true, true, true, true, true, true, true, false, true, true, true, false, false, false] #[true, true, true, true, true, false, true, true, false, true, true, true, false, true, false] rfl rfl rfl rfl (two_of HT_.out (by kernel_rfl)) (by decide) (by decide) (fun K hK => ?_) (fun K hK => ?_)
          · skip
            refine goes_ Tryd.func34 (by kernel_rfl) rfl #[.int .i64 i6] (by rfl) rfl rfl (by (try simp only [List.map_toArray, List.map_cons, List.map_nil]); first | done | rfl) ?_
            with_reducible refine (control_held.calls i6 _ _ rfl).mono ?_
            rintro e w12 ⟨rfl, hb⟩
            refine ⟨_, rfl, ?_⟩
            replace BM := Aside0.mk (blk_below BM.out hb)
            replace BO := Aside0.mk (blk_below BO.out hb)
            replace HB := Aside0.mk (below_step HB.out hb)
            clear hb
            refine hK.out _ _ ⟨(blk_cell BM.out 5).trans rfl, (blk_cell BM.out 6).trans rfl, (blk_cell BM.out 7).trans rfl, (blk_cell BM.out 10).trans rfl⟩ (fun hHeld => ?_)
            clear hK K
            refine norm_ (a' := ?_) ?_ ?_
            rotate_left
            · show Act.put _ (some 9) _ = _
              simp only [Act.put, List.setIfInBounds_toArray, List.set_cons_zero, List.set_cons_succ, i64_w, i32_w]
              rfl
            refine two_ (i := 8) (j := 13) (Ni := some 12) (Nj := some 3) #[true, true, true, true, true, true, true, true, true, true, true, true, false, false, false] #[true, true, true, true, true, true, true, true, false, true, true, true, false, true, false] rfl rfl rfl rfl (two_of HT_.out (by kernel_rfl)) (by decide) (by decide) (fun K hK => ?_) (fun K hK => ?_)
            · skip
              refine goes_ Tryd.func34 (by kernel_rfl) rfl #[.int .i64 i7] (by rfl) rfl rfl (by (try simp only [List.map_toArray, List.map_cons, List.map_nil]); first | done | rfl) ?_
              with_reducible refine (control_held.calls i7 _ _ rfl).mono ?_
              rintro e w13 ⟨rfl, hb⟩
              refine ⟨_, rfl, ?_⟩
              replace BM := Aside0.mk (blk_below BM.out hb)
              replace BO := Aside0.mk (blk_below BO.out hb)
              replace HB := Aside0.mk (below_step HB.out hb)
              clear hb
              refine hK.out _ _ ⟨(blk_cell BM.out 5).trans rfl, (blk_cell BM.out 6).trans rfl, (blk_cell BM.out 7).trans rfl, (blk_cell BM.out 10).trans rfl⟩ (fun hHeld => ?_)
              clear hK K
              refine norm_ (a' := ?_) ?_ ?_
              rotate_left
              · show Act.put _ (some 12) _ = _
                simp only [Act.put, List.setIfInBounds_toArray, List.set_cons_zero, List.set_cons_succ, i64_w, i32_w]
                rfl
              refine pure_ (i := 12) (N := some 16) (v := ?_) (a' := ?_) #[true, true, true, true, true, true, true, true, true, true, true, true, true, false, false] rfl rfl (any_of HT_.out (by kernel_rfl)) (fun _ _ _ h => h) (Or.inl ⟨by rfl, ?_⟩) ?_ ?_
              rotate_left
              · intro w'
                go_simp
                with_reducible rfl
              rotate_left
              · simp only [Act.put, List.setIfInBounds_toArray, List.set_cons_zero, List.set_cons_succ, i64_w, i32_w]
                rfl
              refine one_ (i := 13) (N := some 3) #[true, true, true, true, true, true, true, true, true, true, true, true, true, true, false] rfl rfl (one_of HT_.out (by kernel_rfl)) (by decide) (fun K hK => ?_)
              refine box_step ?hg (N := 3) ?hd (cs := #[.int .i64 0, .int .i64 0, .int .i64 0, .int .i64 0, .bool false, .bool false, .bool false]) (t := 27) ?hr ?_; (case hd => rfl); (case hg => rfl); (case hr => first | (go_simp; done) | (go_simp; rfl))
              intro gs hg w14 hbox hb
              have GS := Aside0.mk (show w.heap.size ≤ gs by rw [hg]; exact below_size HB.out)
              have NMS := Aside0.mk (show gm ≠ gs by rw [hg]; exact Nat.ne_of_lt (blk_lt BM.out))
              have NSM := Aside0.mk (show gs ≠ gm by rw [hg]; exact Nat.ne_of_gt (blk_lt BM.out))
              have NOS := Aside0.mk (show go ≠ gs by rw [hg]; exact Nat.ne_of_lt (blk_lt BO.out))
              have NSO := Aside0.mk (show gs ≠ go by rw [hg]; exact Nat.ne_of_gt (blk_lt BO.out))
              have BS := Aside0.mk hbox
              replace BM := Aside0.mk (blk_below BM.out hb)
              replace BO := Aside0.mk (blk_below BO.out hb)
              replace HB := Aside0.mk (below_step HB.out hb)
              clear hbox hb hg
              refine hK.out _ _ ⟨(blk_cell BM.out 5).trans rfl, (blk_cell BM.out 6).trans rfl, (blk_cell BM.out 7).trans rfl, (blk_cell BM.out 10).trans rfl⟩ (fun hHeld => ?_)
              clear hK K
              refine norm_ (a' := ?_) ?_ ?_
              rotate_left
              · show Act.put _ (some 3) _ = _
                simp only [Act.put, List.setIfInBounds_toArray, List.set_cons_zero, List.set_cons_succ, i64_w, i32_w]
                rfl
              exact norm_ (by simp only [putAll, Act.put, List.setIfInBounds_toArray, List.set_cons_zero, List.set_cons_succ]) (hCont gs _ ⟨hHeld, BM.out, BO.out, BS.out, GS.out, NMS.out, NSM.out, NOS.out, NSO.out, HB.out⟩)
            · skip
              refine box_step ?hg (N := 3) ?hd (cs := #[.int .i64 0, .int .i64 0, .int .i64 0, .int .i64 0, .bool false, .bool false, .bool false]) (t := 27) ?hr ?_; (case hd => rfl); (case hg => rfl); (case hr => first | (go_simp; done) | (go_simp; rfl))
              intro gs hg w15 hbox hb
              have GS := Aside0.mk (show w.heap.size ≤ gs by rw [hg]; exact below_size HB.out)
              have NMS := Aside0.mk (show gm ≠ gs by rw [hg]; exact Nat.ne_of_lt (blk_lt BM.out))
              have NSM := Aside0.mk (show gs ≠ gm by rw [hg]; exact Nat.ne_of_gt (blk_lt BM.out))
              have NOS := Aside0.mk (show go ≠ gs by rw [hg]; exact Nat.ne_of_lt (blk_lt BO.out))
              have NSO := Aside0.mk (show gs ≠ go by rw [hg]; exact Nat.ne_of_gt (blk_lt BO.out))
              have BS := Aside0.mk hbox
              replace BM := Aside0.mk (blk_below BM.out hb)
              replace BO := Aside0.mk (blk_below BO.out hb)
              replace HB := Aside0.mk (below_step HB.out hb)
              clear hbox hb hg
              refine hK.out _ _ ⟨(blk_cell BM.out 5).trans rfl, (blk_cell BM.out 6).trans rfl, (blk_cell BM.out 7).trans rfl, (blk_cell BM.out 10).trans rfl⟩ (fun hHeld => ?_)
              clear hK K
              refine norm_ (a' := ?_) ?_ ?_
              rotate_left
              · show Act.put _ (some 3) _ = _
                simp only [Act.put, List.setIfInBounds_toArray, List.set_cons_zero, List.set_cons_succ, i64_w, i32_w]
                rfl
              refine one_ (i := 8) (N := some 12) #[true, true, true, true, true, true, true, true, true, true, true, true, false, true, false] rfl rfl (one_of HT_.out (by kernel_rfl)) (by decide) (fun K hK => ?_)
              refine goes_ Tryd.func34 (by kernel_rfl) rfl #[.int .i64 i7] (by rfl) rfl rfl (by (try simp only [List.map_toArray, List.map_cons, List.map_nil]); first | done | rfl) ?_
              with_reducible refine (control_held.calls i7 _ _ rfl).mono ?_
              rintro e w16 ⟨rfl, hb⟩
              refine ⟨_, rfl, ?_⟩
              replace BM := Aside0.mk (blk_below BM.out hb)
              replace BO := Aside0.mk (blk_below BO.out hb)
              replace HB := Aside0.mk (below_step HB.out hb)
              replace BS := Aside0.mk (blk_below BS.out hb)
              clear hb
              refine hK.out _ _ ⟨(blk_cell BM.out 5).trans rfl, (blk_cell BM.out 6).trans rfl, (blk_cell BM.out 7).trans rfl, (blk_cell BM.out 10).trans rfl⟩ (fun hHeld => ?_)
              clear hK K
              refine norm_ (a' := ?_) ?_ ?_
              rotate_left
              · show Act.put _ (some 12) _ = _
                simp only [Act.put, List.setIfInBounds_toArray, List.set_cons_zero, List.set_cons_succ, i64_w, i32_w]
                rfl
              refine pure_ (i := 12) (N := some 16) (v := ?_) (a' := ?_) #[true, true, true, true, true, true, true, true, true, true, true, true, true, true, false] rfl rfl (any_of HT_.out (by kernel_rfl)) (fun _ _ _ h => h) (Or.inl ⟨by rfl, ?_⟩) ?_ ?_
              rotate_left
              · intro w'
                go_simp
                with_reducible rfl
              rotate_left
              · simp only [Act.put, List.setIfInBounds_toArray, List.set_cons_zero, List.set_cons_succ, i64_w, i32_w]
                rfl
              exact norm_ (by simp only [putAll, Act.put, List.setIfInBounds_toArray, List.set_cons_zero, List.set_cons_succ]) (hCont gs _ ⟨hHeld, BM.out, BO.out, BS.out, GS.out, NMS.out, NSM.out, NOS.out, NSO.out, HB.out⟩)
          · skip
            refine box_step ?hg (N := 3) ?hd (cs := #[.int .i64 0, .int .i64 0, .int .i64 0, .int .i64 0, .bool false, .bool false, .bool false]) (t := 27) ?hr ?_; (case hd => rfl); (case hg => rfl); (case hr => first | (go_simp; done) | (go_simp; rfl))
            intro gs hg w17 hbox hb
            have GS := Aside0.mk (show w.heap.size ≤ gs by rw [hg]; exact below_size HB.out)
            have NMS := Aside0.mk (show gm ≠ gs by rw [hg]; exact Nat.ne_of_lt (blk_lt BM.out))
            have NSM := Aside0.mk (show gs ≠ gm by rw [hg]; exact Nat.ne_of_gt (blk_lt BM.out))
            have NOS := Aside0.mk (show go ≠ gs by rw [hg]; exact Nat.ne_of_lt (blk_lt BO.out))
            have NSO := Aside0.mk (show gs ≠ go by rw [hg]; exact Nat.ne_of_gt (blk_lt BO.out))
            have BS := Aside0.mk hbox
            replace BM := Aside0.mk (blk_below BM.out hb)
            replace BO := Aside0.mk (blk_below BO.out hb)
            replace HB := Aside0.mk (below_step HB.out hb)
            clear hbox hb hg
            refine hK.out _ _ ⟨(blk_cell BM.out 5).trans rfl, (blk_cell BM.out 6).trans rfl, (blk_cell BM.out 7).trans rfl, (blk_cell BM.out 10).trans rfl⟩ (fun hHeld => ?_)
            clear hK K
            refine norm_ (a' := ?_) ?_ ?_
            rotate_left
            · show Act.put _ (some 3) _ = _
              simp only [Act.put, List.setIfInBounds_toArray, List.set_cons_zero, List.set_cons_succ, i64_w, i32_w]
              rfl
            refine one_ (i := 5) (N := some 9) #[true, true, true, true, true, true, true, true, false, true, true, true, false, true, false] rfl rfl (one_of HT_.out (by kernel_rfl)) (by decide) (fun K hK => ?_)
            refine goes_ Tryd.func34 (by kernel_rfl) rfl #[.int .i64 i6] (by rfl) rfl rfl (by (try simp only [List.map_toArray, List.map_cons, List.map_nil]); first | done | rfl) ?_
            with_reducible refine (control_held.calls i6 _ _ rfl).mono ?_
            rintro e w18 ⟨rfl, hb⟩
            refine ⟨_, rfl, ?_⟩
            replace BM := Aside0.mk (blk_below BM.out hb)
            replace BO := Aside0.mk (blk_below BO.out hb)
            replace HB := Aside0.mk (below_step HB.out hb)
            replace BS := Aside0.mk (blk_below BS.out hb)
            clear hb
            refine hK.out _ _ ⟨(blk_cell BM.out 5).trans rfl, (blk_cell BM.out 6).trans rfl, (blk_cell BM.out 7).trans rfl, (blk_cell BM.out 10).trans rfl⟩ (fun hHeld => ?_)
            clear hK K
            refine norm_ (a' := ?_) ?_ ?_
            rotate_left
            · show Act.put _ (some 9) _ = _
              simp only [Act.put, List.setIfInBounds_toArray, List.set_cons_zero, List.set_cons_succ, i64_w, i32_w]
              rfl
            refine one_ (i := 8) (N := some 12) #[true, true, true, true, true, true, true, true, true, true, true, true, false, true, false] rfl rfl (one_of HT_.out (by kernel_rfl)) (by decide) (fun K hK => ?_)
            refine goes_ Tryd.func34 (by kernel_rfl) rfl #[.int .i64 i7] (by rfl) rfl rfl (by (try simp only [List.map_toArray, List.map_cons, List.map_nil]); first | done | rfl) ?_
            with_reducible refine (control_held.calls i7 _ _ rfl).mono ?_
            rintro e w19 ⟨rfl, hb⟩
            refine ⟨_, rfl, ?_⟩
            replace BM := Aside0.mk (blk_below BM.out hb)
            replace BO := Aside0.mk (blk_below BO.out hb)
            replace HB := Aside0.mk (below_step HB.out hb)
            replace BS := Aside0.mk (blk_below BS.out hb)
            clear hb
            refine hK.out _ _ ⟨(blk_cell BM.out 5).trans rfl, (blk_cell BM.out 6).trans rfl, (blk_cell BM.out 7).trans rfl, (blk_cell BM.out 10).trans rfl⟩ (fun hHeld => ?_)
            clear hK K
            refine norm_ (a' := ?_) ?_ ?_
            rotate_left
            · show Act.put _ (some 12) _ = _
              simp only [Act.put, List.setIfInBounds_toArray, List.set_cons_zero, List.set_cons_succ, i64_w, i32_w]
              rfl
            refine pure_ (i := 12) (N := some 16) (v := ?_) (a' := ?_) #[true, true, true, true, true, true, true, true, true, true, true, true, true, true, false] rfl rfl (any_of HT_.out (by kernel_rfl)) (fun _ _ _ h => h) (Or.inl ⟨by rfl, ?_⟩) ?_ ?_
            rotate_left
            · intro w'
              go_simp
              with_reducible rfl
            rotate_left
            · simp only [Act.put, List.setIfInBounds_toArray, List.set_cons_zero, List.set_cons_succ, i64_w, i32_w]
              rfl
            exact norm_ (by simp only [putAll, Act.put, List.setIfInBounds_toArray, List.set_cons_zero, List.set_cons_succ]) (hCont gs _ ⟨hHeld, BM.out, BO.out, BS.out, GS.out, NMS.out, NSM.out, NOS.out, NSO.out, HB.out⟩)
        · skip
          refine box_step ?hg (N := 3) ?hd (cs := #[.int .i64 0, .int .i64 0, .int .i64 0, .int .i64 0, .bool false, .bool false, .bool false]) (t := 27) ?hr ?_; (case hd => rfl); (case hg => rfl); (case hr => first | (go_simp; done) | (go_simp; rfl))
          intro gs hg w20 hbox hb
          have GS := Aside0.mk (show w.heap.size ≤ gs by rw [hg]; exact below_size HB.out)
          have NMS := Aside0.mk (show gm ≠ gs by rw [hg]; exact Nat.ne_of_lt (blk_lt BM.out))
          have NSM := Aside0.mk (show gs ≠ gm by rw [hg]; exact Nat.ne_of_gt (blk_lt BM.out))
          have NOS := Aside0.mk (show go ≠ gs by rw [hg]; exact Nat.ne_of_lt (blk_lt BO.out))
          have NSO := Aside0.mk (show gs ≠ go by rw [hg]; exact Nat.ne_of_gt (blk_lt BO.out))
          have BS := Aside0.mk hbox
          replace BM := Aside0.mk (blk_below BM.out hb)
          replace BO := Aside0.mk (blk_below BO.out hb)
          replace HB := Aside0.mk (below_step HB.out hb)
          clear hbox hb hg
          refine hK.out _ _ ⟨(blk_cell BM.out 5).trans rfl, (blk_cell BM.out 6).trans rfl, (blk_cell BM.out 7).trans rfl, (blk_cell BM.out 10).trans rfl⟩ (fun hHeld => ?_)
          clear hK K
          refine norm_ (a' := ?_) ?_ ?_
          rotate_left
          · show Act.put _ (some 3) _ = _
            simp only [Act.put, List.setIfInBounds_toArray, List.set_cons_zero, List.set_cons_succ, i64_w, i32_w]
            rfl
          refine one_ (i := 2) (N := some 6) #[true, true, true, true, true, false, true, true, false, true, true, true, false, true, false] rfl rfl (one_of HT_.out (by kernel_rfl)) (by decide) (fun K hK => ?_)
          refine goes_ Tryd.func34 (by kernel_rfl) rfl #[.int .i64 i5] (by rfl) rfl rfl (by (try simp only [List.map_toArray, List.map_cons, List.map_nil]); first | done | rfl) ?_
          with_reducible refine (control_held.calls i5 _ _ rfl).mono ?_
          rintro e w21 ⟨rfl, hb⟩
          refine ⟨_, rfl, ?_⟩
          replace BM := Aside0.mk (blk_below BM.out hb)
          replace BO := Aside0.mk (blk_below BO.out hb)
          replace HB := Aside0.mk (below_step HB.out hb)
          replace BS := Aside0.mk (blk_below BS.out hb)
          clear hb
          refine hK.out _ _ ⟨(blk_cell BM.out 5).trans rfl, (blk_cell BM.out 6).trans rfl, (blk_cell BM.out 7).trans rfl, (blk_cell BM.out 10).trans rfl⟩ (fun hHeld => ?_)
          clear hK K
          refine norm_ (a' := ?_) ?_ ?_
          rotate_left
          · show Act.put _ (some 6) _ = _
            simp only [Act.put, List.setIfInBounds_toArray, List.set_cons_zero, List.set_cons_succ, i64_w, i32_w]
            rfl
          refine one_ (i := 5) (N := some 9) #[true, true, true, true, true, true, true, true, false, true, true, true, false, true, false] rfl rfl (one_of HT_.out (by kernel_rfl)) (by decide) (fun K hK => ?_)
          refine goes_ Tryd.func34 (by kernel_rfl) rfl #[.int .i64 i6] (by rfl) rfl rfl (by (try simp only [List.map_toArray, List.map_cons, List.map_nil]); first | done | rfl) ?_
          with_reducible refine (control_held.calls i6 _ _ rfl).mono ?_
          rintro e w22 ⟨rfl, hb⟩
          refine ⟨_, rfl, ?_⟩
          replace BM := Aside0.mk (blk_below BM.out hb)
          replace BO := Aside0.mk (blk_below BO.out hb)
          replace HB := Aside0.mk (below_step HB.out hb)
          replace BS := Aside0.mk (blk_below BS.out hb)
          clear hb
          refine hK.out _ _ ⟨(blk_cell BM.out 5).trans rfl, (blk_cell BM.out 6).trans rfl, (blk_cell BM.out 7).trans rfl, (blk_cell BM.out 10).trans rfl⟩ (fun hHeld => ?_)
          clear hK K
          refine norm_ (a' := ?_) ?_ ?_
          rotate_left
          · show Act.put _ (some 9) _ = _
            simp only [Act.put, List.setIfInBounds_toArray, List.set_cons_zero, List.set_cons_succ, i64_w, i32_w]
            rfl
          refine one_ (i := 8) (N := some 12) #[true, true, true, true, true, true, true, true, true, true, true, true, false, true, false] rfl rfl (one_of HT_.out (by kernel_rfl)) (by decide) (fun K hK => ?_)
          refine goes_ Tryd.func34 (by kernel_rfl) rfl #[.int .i64 i7] (by rfl) rfl rfl (by (try simp only [List.map_toArray, List.map_cons, List.map_nil]); first | done | rfl) ?_
          with_reducible refine (control_held.calls i7 _ _ rfl).mono ?_
          rintro e w23 ⟨rfl, hb⟩
          refine ⟨_, rfl, ?_⟩
          replace BM := Aside0.mk (blk_below BM.out hb)
          replace BO := Aside0.mk (blk_below BO.out hb)
          replace HB := Aside0.mk (below_step HB.out hb)
          replace BS := Aside0.mk (blk_below BS.out hb)
          clear hb
          refine hK.out _ _ ⟨(blk_cell BM.out 5).trans rfl, (blk_cell BM.out 6).trans rfl, (blk_cell BM.out 7).trans rfl, (blk_cell BM.out 10).trans rfl⟩ (fun hHeld => ?_)
          clear hK K
          refine norm_ (a' := ?_) ?_ ?_
          rotate_left
          · show Act.put _ (some 12) _ = _
            simp only [Act.put, List.setIfInBounds_toArray, List.set_cons_zero, List.set_cons_succ, i64_w, i32_w]
            rfl
          refine pure_ (i := 12) (N := some 16) (v := ?_) (a' := ?_) #[true, true, true, true, true, true, true, true, true, true, true, true, true, true, false] rfl rfl (any_of HT_.out (by kernel_rfl)) (fun _ _ _ h => h) (Or.inl ⟨by rfl, ?_⟩) ?_ ?_
          rotate_left
          · intro w'
            go_simp
            with_reducible rfl
          rotate_left
          · simp only [Act.put, List.setIfInBounds_toArray, List.set_cons_zero, List.set_cons_succ, i64_w, i32_w]
            rfl
          exact norm_ (by simp only [putAll, Act.put, List.setIfInBounds_toArray, List.set_cons_zero, List.set_cons_succ]) (hCont gs _ ⟨hHeld, BM.out, BO.out, BS.out, GS.out, NMS.out, NSM.out, NOS.out, NSO.out, HB.out⟩)
      intro gs wj ⟨hHeld, h0, h1, h2, h3, h4, h5, h6, h7, h8⟩
      have BM := Aside0.mk h0; have BO := Aside0.mk h1; have BS := Aside0.mk h2; have GS := Aside0.mk h3; have NMS := Aside0.mk h4; have NSM := Aside0.mk h5; have NOS := Aside0.mk h6; have NSO := Aside0.mk h7; have HB := Aside0.mk h8
      clear h0 h1 h2 h3 h4 h5 h6 h7 h8
      refine norm_ (a' := ?_) ?_ ?_
      rotate_left
      · simp only [putAll, Act.put, List.setIfInBounds_toArray, List.set_cons_zero, List.set_cons_succ]
        rfl
      refine one_ (i := 14) (N := none) #[true, true, true, true, true, true, true, true, true, true, true, true, true, true, true] rfl rfl (one_of HT_.out (by kernel_rfl)) (by decide) (fun K hK => ?_)
      have hs0 : wj.cell? ⟨gs, 0, none⟩ = some (.int .i64 0) := (blk_cell BS.out 0).trans rfl
      have hs1 : wj.cell? ⟨gs, 1, none⟩ = some (.int .i64 0) := (blk_cell BS.out 1).trans rfl
      have hs2 : wj.cell? ⟨gs, 2, none⟩ = some (.int .i64 0) := (blk_cell BS.out 2).trans rfl
      have hs3 : wj.cell? ⟨gs, 3, none⟩ = some (.int .i64 0) := (blk_cell BS.out 3).trans rfl
      have hs4 : wj.cell? ⟨gs, 4, none⟩ = some (.bool false) := (blk_cell BS.out 4).trans rfl
      have hs5 : wj.cell? ⟨gs, 5, none⟩ = some (.bool false) := (blk_cell BS.out 5).trans rfl
      have hs6 : wj.cell? ⟨gs, 6, none⟩ = some (.bool false) := (blk_cell BS.out 6).trans rfl
      have fs0 := blk_frozen BS.out 0
      have fs1 := blk_frozen BS.out 1
      have fs2 := blk_frozen BS.out 2
      have fs3 := blk_frozen BS.out 3
      have fs4 := blk_frozen BS.out 4
      have fs5 := blk_frozen BS.out 5
      have fs6 := blk_frozen BS.out 6
      refine skip_ (w1 := ?_) (by rfl) rfl ?_ ?_
      rotate_left
      · go_simp
        rfl
      refine hK.out _ _ ⟨(cell_far (p := ⟨gs, _, none⟩) NMS.out _).trans ((cell_far (p := ⟨gs, _, none⟩) NMS.out _).trans ((cell_far (p := ⟨gs, _, none⟩) NMS.out _).trans ((cell_far (p := ⟨gs, _, none⟩) NMS.out _).trans ((cell_far (p := ⟨gs, _, none⟩) NMS.out _).trans ((cell_far (p := ⟨gs, _, none⟩) NMS.out _).trans ((cell_far (p := ⟨gs, _, none⟩) NMS.out _).trans (hHeld.1))))))), (cell_far (p := ⟨gs, _, none⟩) NMS.out _).trans ((cell_far (p := ⟨gs, _, none⟩) NMS.out _).trans ((cell_far (p := ⟨gs, _, none⟩) NMS.out _).trans ((cell_far (p := ⟨gs, _, none⟩) NMS.out _).trans ((cell_far (p := ⟨gs, _, none⟩) NMS.out _).trans ((cell_far (p := ⟨gs, _, none⟩) NMS.out _).trans ((cell_far (p := ⟨gs, _, none⟩) NMS.out _).trans (hHeld.2.1))))))), (cell_far (p := ⟨gs, _, none⟩) NMS.out _).trans ((cell_far (p := ⟨gs, _, none⟩) NMS.out _).trans ((cell_far (p := ⟨gs, _, none⟩) NMS.out _).trans ((cell_far (p := ⟨gs, _, none⟩) NMS.out _).trans ((cell_far (p := ⟨gs, _, none⟩) NMS.out _).trans ((cell_far (p := ⟨gs, _, none⟩) NMS.out _).trans ((cell_far (p := ⟨gs, _, none⟩) NMS.out _).trans (hHeld.2.2.1))))))), (cell_far (p := ⟨gs, _, none⟩) NMS.out _).trans ((cell_far (p := ⟨gs, _, none⟩) NMS.out _).trans ((cell_far (p := ⟨gs, _, none⟩) NMS.out _).trans ((cell_far (p := ⟨gs, _, none⟩) NMS.out _).trans ((cell_far (p := ⟨gs, _, none⟩) NMS.out _).trans ((cell_far (p := ⟨gs, _, none⟩) NMS.out _).trans ((cell_far (p := ⟨gs, _, none⟩) NMS.out _).trans (hHeld.2.2.2)))))))⟩ (fun hHeld => ?_)
      clear hK K
      refine done_ (done_of HT_.out (by kernel_rfl)) ?_
      go_wp2
      go_meet
      case rel => exact ⟨gs, rfl, ⟨(blk_far (blk_far (blk_far (blk_far (blk_far (blk_far (blk_far BO.out NOS.out _) NOS.out _) NOS.out _) NOS.out _) NOS.out _) NOS.out _) NOS.out _)⟩, ⟨(blk_put (cs' := #[.int .i64 (-1), .int .i64 (mn (mx i5 0) 1099511627776), .int .i64 (mn (mx i6 0) 1099511627776), .int .i64 (mn (mx i7 0) 1099511627776), .bool (!b10), .bool false, .bool false]) (blk_put (cs' := #[.int .i64 (-1), .int .i64 (mn (mx i5 0) 1099511627776), .int .i64 (mn (mx i6 0) 1099511627776), .int .i64 (mn (mx i7 0) 1099511627776), .bool (!b10), .bool false, .bool false]) (blk_put (cs' := #[.int .i64 (-1), .int .i64 (mn (mx i5 0) 1099511627776), .int .i64 (mn (mx i6 0) 1099511627776), .int .i64 (mn (mx i7 0) 1099511627776), .bool (!b10), .bool false, .bool false]) (blk_put (cs' := #[.int .i64 (-1), .int .i64 (mn (mx i5 0) 1099511627776), .int .i64 (mn (mx i6 0) 1099511627776), .int .i64 (mn (mx i7 0) 1099511627776), .bool false, .bool false, .bool false]) (blk_put (cs' := #[.int .i64 (-1), .int .i64 (mn (mx i5 0) 1099511627776), .int .i64 (mn (mx i6 0) 1099511627776), .int .i64 0, .bool false, .bool false, .bool false]) (blk_put (cs' := #[.int .i64 (-1), .int .i64 (mn (mx i5 0) 1099511627776), .int .i64 0, .int .i64 0, .bool false, .bool false, .bool false]) (blk_put (cs' := #[.int .i64 (-1), .int .i64 0, .int .i64 0, .int .i64 0, .bool false, .bool false, .bool false]) BS.out 0 _ rfl) 1 _ rfl) 2 _ rfl) 3 _ rfl) 4 _ rfl) 5 _ rfl) 6 _ rfl)⟩, GS, NOS, NSO, ⟨(below_set (below_set (below_set (below_set (below_set (below_set (below_set HB.out GS.out) GS.out) GS.out) GS.out) GS.out) GS.out) GS.out)⟩⟩
    case rest =>
      clear BM BO HB
      obtain ⟨gs, rfl, BO, BS, GS, NOS, NSO, HB⟩ := hcut
      have hs2 : wc.cell? ⟨gs, 2, none⟩ = some (.int .i64 h6) := (blk_cell BS.out 2).trans rfl
      go_upto_if 19 with (fail)
      go_cut [] (fun wc => Aside0 (wc.heap[go]? = some (.cells #[.int .i64 0, .int .i64 0, .int .i64 0, .int .i64 0, .bool false, .bool false, .bool false] 27 (0, 0))) ∧ Aside0 (wc.heap[gs]? = some (.cells #[.int .i64 (-1), .int .i64 h5, .int .i64 (control_Of.sm h6), .int .i64 h7, .bool (!b10), .bool false, .bool false] 27 (0, 0))) ∧ Aside0 (w.heap.size ≤ gs) ∧ Aside0 (go ≠ gs) ∧ Aside0 (gs ≠ go) ∧ Aside0 (Below w.heap.size w wc))
      case first =>
        have fs2 := blk_frozen BS.out 2
        by_cases hz : h6 = 0
        · have h1 : decide (h6 = 0) = true := decide_eq_true hz
          have ez : control_Of.sm h6 = -1 := if_pos hz
          go_wp2
          go_meet
          case rel =>
            rw [ez]
            exact ⟨⟨blk_far BO.out NOS.out _⟩, ⟨(blk_put (cs' := #[.int .i64 (-1), .int .i64 h5, .int .i64 (-1), .int .i64 h7, .bool (!b10), .bool false, .bool false]) BS.out 2 _ rfl)⟩, GS, NOS, NSO, ⟨below_set HB.out GS.out⟩⟩
        · have h1 : decide (h6 = 0) = false := decide_eq_false hz
          have ez : control_Of.sm h6 = h6 := if_neg hz
          go_wp2
          go_meet
          case rel =>
            rw [ez]
            exact ⟨BO, BS, GS, NOS, NSO, HB⟩
      case rest =>
        clear BO BS GS NOS NSO HB hs2
        obtain ⟨BO, BS, GS, NOS, NSO, HB⟩ := hcut
        have hs3 : wc.cell? ⟨gs, 3, none⟩ = some (.int .i64 h7) := (blk_cell BS.out 3).trans rfl
        go_upto_if 23 with (fail)
        go_cut [] (fun wc => Aside0 (wc.heap[go]? = some (.cells #[.int .i64 0, .int .i64 0, .int .i64 0, .int .i64 0, .bool false, .bool false, .bool false] 27 (0, 0))) ∧ Aside0 (wc.heap[gs]? = some (.cells #[.int .i64 (-1), .int .i64 h5, .int .i64 (control_Of.sm h6), .int .i64 (control_Of.sm h7), .bool (!b10), .bool false, .bool false] 27 (0, 0))) ∧ Aside0 (w.heap.size ≤ gs) ∧ Aside0 (go ≠ gs) ∧ Aside0 (gs ≠ go) ∧ Aside0 (Below w.heap.size w wc))
        case first =>
          have fs3 := blk_frozen BS.out 3
          by_cases hz : h7 = 0
          · have h1 : decide (h7 = 0) = true := decide_eq_true hz
            have ez : control_Of.sm h7 = -1 := if_pos hz
            go_wp2
            go_meet
            case rel =>
              rw [ez]
              exact ⟨⟨blk_far BO.out NOS.out _⟩, ⟨(blk_put (cs' := #[.int .i64 (-1), .int .i64 h5, .int .i64 (control_Of.sm h6), .int .i64 (-1), .bool (!b10), .bool false, .bool false]) BS.out 3 _ rfl)⟩, GS, NOS, NSO, ⟨below_set HB.out GS.out⟩⟩
          · have h1 : decide (h7 = 0) = false := decide_eq_false hz
            have ez : control_Of.sm h7 = h7 := if_neg hz
            go_wp2
            go_meet
            case rel =>
              rw [ez]
              exact ⟨BO, BS, GS, NOS, NSO, HB⟩
        case rest =>
          clear BO BS GS NOS NSO HB hs3
          obtain ⟨BO, BS, GS, NOS, NSO, HB⟩ := hcut
          have hs0 : wc.cell? ⟨gs, 0, none⟩ = some (.int .i64 (-1)) := (blk_cell BS.out 0).trans rfl
          have hs1 : wc.cell? ⟨gs, 1, none⟩ = some (.int .i64 h5) := (blk_cell BS.out 1).trans rfl
          have hs2 : wc.cell? ⟨gs, 2, none⟩ = some (.int .i64 (control_Of.sm h6)) := (blk_cell BS.out 2).trans rfl
          have hs3 : wc.cell? ⟨gs, 3, none⟩ = some (.int .i64 (control_Of.sm h7)) := (blk_cell BS.out 3).trans rfl
          have hs4 : wc.cell? ⟨gs, 4, none⟩ = some (.bool (!b10)) := (blk_cell BS.out 4).trans rfl
          have hs5 : wc.cell? ⟨gs, 5, none⟩ = some (.bool false) := (blk_cell BS.out 5).trans rfl
          have hs6 : wc.cell? ⟨gs, 6, none⟩ = some (.bool false) := (blk_cell BS.out 6).trans rfl
          have fs0 := blk_frozen BS.out 0
          have fs1 := blk_frozen BS.out 1
          have fs2 := blk_frozen BS.out 2
          have fs3 := blk_frozen BS.out 3
          have fs4 := blk_frozen BS.out 4
          have fs5 := blk_frozen BS.out 5
          have fs6 := blk_frozen BS.out 6
          have ho0 : wc.cell? ⟨go, 0, none⟩ = some (.int .i64 0) := (blk_cell BO.out 0).trans rfl
          have ho1 : wc.cell? ⟨go, 1, none⟩ = some (.int .i64 0) := (blk_cell BO.out 1).trans rfl
          have ho2 : wc.cell? ⟨go, 2, none⟩ = some (.int .i64 0) := (blk_cell BO.out 2).trans rfl
          have ho3 : wc.cell? ⟨go, 3, none⟩ = some (.int .i64 0) := (blk_cell BO.out 3).trans rfl
          have ho4 : wc.cell? ⟨go, 4, none⟩ = some (.bool false) := (blk_cell BO.out 4).trans rfl
          have ho5 : wc.cell? ⟨go, 5, none⟩ = some (.bool false) := (blk_cell BO.out 5).trans rfl
          have ho6 : wc.cell? ⟨go, 6, none⟩ = some (.bool false) := (blk_cell BO.out 6).trans rfl
          have fo0 := blk_frozen BO.out 0
          have fo1 := blk_frozen BO.out 1
          have fo2 := blk_frozen BO.out 2
          have fo3 := blk_frozen BO.out 3
          have fo4 := blk_frozen BO.out 4
          have fo5 := blk_frozen BO.out 5
          have fo6 := blk_frozen BO.out 6
          have H1 := NOS.out
          have H2 := NSO.out
          go_wp2
          refine bodyPost_ret (results_cell_row rfl _ _ go 27 #[.int .i64 (-1), .int .i64 h5, .int .i64 (control_Of.sm h6), .int .i64 (control_Of.sm h7), .bool (!b10), .bool false, .bool false] (0, 0) _ rfl (by exact (blk_put (cs' := #[.int .i64 (-1), .int .i64 h5, .int .i64 (control_Of.sm h6), .int .i64 (control_Of.sm h7), .bool (!b10), .bool false, .bool false]) (blk_put (cs' := #[.int .i64 (-1), .int .i64 h5, .int .i64 (control_Of.sm h6), .int .i64 (control_Of.sm h7), .bool (!b10), .bool false, .bool false]) (blk_put (cs' := #[.int .i64 (-1), .int .i64 h5, .int .i64 (control_Of.sm h6), .int .i64 (control_Of.sm h7), .bool (!b10), .bool false, .bool false]) (blk_put (cs' := #[.int .i64 (-1), .int .i64 h5, .int .i64 (control_Of.sm h6), .int .i64 (control_Of.sm h7), .bool false, .bool false, .bool false]) (blk_put (cs' := #[.int .i64 (-1), .int .i64 h5, .int .i64 (control_Of.sm h6), .int .i64 0, .bool false, .bool false, .bool false]) (blk_put (cs' := #[.int .i64 (-1), .int .i64 h5, .int .i64 0, .int .i64 0, .bool false, .bool false, .bool false]) (blk_put (cs' := #[.int .i64 (-1), .int .i64 0, .int .i64 0, .int .i64 0, .bool false, .bool false, .bool false]) BO.out 0 _ rfl) 1 _ rfl) 2 _ rfl) 3 _ rfl) 4 _ rfl) 5 _ rfl) 6 _ rfl)) Tryd.underlying27 rfl (by kernel_rfl)) rfl ?_
          exact ⟨rfl, (below_set (below_set (below_set (below_set (below_set (below_set (below_set HB.out AGO.out) AGO.out) AGO.out) AGO.out) AGO.out) AGO.out) AGO.out)⟩
theorem control_Of.calls (a0_0 : ByteArray) (a0_1 : Bool) (a0_2 : Int) (a0_3 : Int) (a0_4 : Int) (a0_5 : Int) (a0_6 : Int) (a0_7 : Int) (A0_8 : Option Addr) (c0_8 : Nat) (l0_8 : List ByteArray) (a0_9 : ByteArray) (a0_10 : Bool) (r1 : Int) (r2 : Int) (r3 : Int) (r4 : Int) (r5 : Bool) (r6 : Bool) (r7 : Bool) (w : World) (hr0_8 : Kd.C Kd.string w A0_8 l0_8.length l0_8) (hc0_8 : l0_8.length ≤ c0_8) (h : control_Of.f a0_0 a0_1 a0_2 a0_3 a0_4 a0_5 a0_6 a0_7 l0_8 a0_9 a0_10 = some (r1, r2, r3, r4, r5, r6, r7)) :
    Calls Tryd.prog 22 #[.agg #[.string a0_0, .bool a0_1, .int .i64 a0_2, .int .i64 a0_3, .int .i64 a0_4, .int .i64 a0_5, .int .i64 a0_6, .int .i64 a0_7, .slice A0_8 l0_8.length c0_8, .string a0_9, .bool a0_10]] w fun e w' => e = .returned (.agg #[.int .i64 r1, .int .i64 r2, .int .i64 r3, .int .i64 r4, .bool r5, .bool r6, .bool r7]) ∧ Below w.heap.size w w' := by
  have h' := Option.some.inj h
  simp only [Prod.mk.injEq] at h'
  obtain ⟨rfl, rfl, rfl, rfl, rfl, rfl, rfl⟩ := h'
  exact control_Of.walk a0_0 a0_1 a0_2 a0_3 a0_4 a0_5 a0_6 a0_7 A0_8 l0_8.length c0_8 a0_9 a0_10 w


end Go.Proofs.YtmapdckelbobiaaDoor.X
