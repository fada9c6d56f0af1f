-- Printed by a program of this session (pp.py: the kit's print.py, run with contracts of its own) out of the translation. Not trusted: Lean checks it.
import Derived.Test.YtcdjeofhhhffcaaDoorX0
import Derived.Test.YtcdjeofhhhffcaaDoorX6
import Derived.Test.YtcdjeofhhhffcaaDoorX10
namespace Go.Proofs.YtcdjeofhhhffcaaDoor.X
open Go.RowKit Go.Proofs.YtcdjeofhhhffcaaDoorW.PrintWords Go.Proofs.YtcdjeofhhhffcaaDoorW.PrintLast Go.Proofs.YtcdjeofhhhffcaaDoorW.PrintMore
attribute [local go_sem] max2_int min2_int max_two min_two max_three min_three max_four min_four   -- for this text's walks alone
set_option linter.unusedVariables false
set_option linter.unusedSimpArgs false

/-! ### mandolineref07_field: function 45 -/
def mandolineref07_field.l0 : Nat → ByteArray → Int → Option (ByteArray × ByteArray × Bool)
  | 0, _, _ => none
  | k + 1, x0, x4 => if x4 < (x0.size : Int) then (if 0 ≤ x4 then (if (bt x0 x4) = 58 then (if x4 ≤ (x0.size : Int) then (if 0 ≤ (wrap64 (x4 + 1)) then (if (wrap64 (x4 + 1)) ≤ (x0.size : Int) then ((mandolineref07_Trim.f k (x0.extract ((wrap64 (x4 + 1)) : Int).toNat x0.size)).bind fun t176 => ((mandolineref07_Right.f k (x0.extract 0 (x4 : Int).toNat) t176).bind fun t178 => (some (x0.extract 0 (x4 : Int).toNat, t176, t178)))) else (none)) else (none)) else (none)) else (mandolineref07_field.l0 k x0 (wrap64 (x4 + 1)))) else (none)) else (some ((⟨#[]⟩ : ByteArray), (⟨#[]⟩ : ByteArray), false))
def mandolineref07_field.f (k : Nat) (a0 : ByteArray) : Option (ByteArray × ByteArray × Bool) := mandolineref07_field.l0 k a0 0
theorem mandolineref07_field.mono_l : ∀ k, (∀ y0 y1, LeO (mandolineref07_field.l0 k y0 y1) (mandolineref07_field.l0 (k + 1) y0 y1))
  | 0 => fun _ _ r h => by simp [mandolineref07_field.l0] at h
  | k + 1 => by
    have ih0 := mandolineref07_field.mono_l k
    · intro y0 y1
      unfold mandolineref07_field.l0
      repeat' first
      | (with_reducible exact ih0 _ _)
      | (with_reducible exact mandolineref07_Right.mono _ _ _)
      | (with_reducible exact mandolineref07_Trim.mono _ _)
      | (with_reducible exact LeO.refl _)
      | (with_reducible exact LeO.none _)
      | (with_reducible refine LeO.ite ?_ ?_)
      | (with_reducible refine LeO.bind ?_ (fun _ => ?_))
      | exact ih0 _ _
      | exact mandolineref07_Right.mono _ _ _
      | exact mandolineref07_Trim.mono _ _
      | exact LeO.none _
      | refine LeO.ite ?_ ?_
      | refine LeO.bind ?_ (fun _ => ?_)
theorem mandolineref07_field.mono : ∀ a0 k, LeO (mandolineref07_field.f k a0) (mandolineref07_field.f (k + 1) a0) := by
  intro a0 k
  have ih0 := mandolineref07_field.mono_l k
  unfold mandolineref07_field.f
  repeat' first
      | (with_reducible exact ih0 _ _)
      | (with_reducible exact mandolineref07_Right.mono _ _ _)
      | (with_reducible exact mandolineref07_Trim.mono _ _)
      | (with_reducible exact LeO.refl _)
      | (with_reducible exact LeO.none _)
      | (with_reducible refine LeO.ite ?_ ?_)
      | (with_reducible refine LeO.bind ?_ (fun _ => ?_))
      | exact ih0 _ _
      | exact mandolineref07_Right.mono _ _ _
      | exact mandolineref07_Trim.mono _ _
      | exact LeO.none _
      | refine LeO.ite ?_ ?_
      | refine LeO.bind ?_ (fun _ => ?_)
def mandolineref07_field.T5 : Bool × List (List Nat × List Nat) := (true, [([], []), ([], []), ([0, 1], [0, 1]), ([], []), ([], []), ([4], [4]), ([3, 5], [3, 5]), ([6], [6]), ([2, 7], [2, 7]), ([], []), ([9, 8, 7, 0, 1, 2, 3, 4, 5, 6, 7, 8, 9], [8, 9])])
def mandolineref07_field.B5 : List Nat := [0, 0, 3, 0, 0, 16, 56, 120, 255, 0, 1023]
theorem mandolineref07_field.tab5 : rtab .any (opsOf Tryd.f45 5) = mandolineref07_field.T5 := by kernel_rfl
theorem mandolineref07_field.bits5 : waitsOk mandolineref07_field.T5.2 mandolineref07_field.B5 = true := by kernel_rfl
set_option maxHeartbeats 8000000 in
set_option maxRecDepth 100000 in
theorem mandolineref07_field.calls (k : Nat) (a0 : ByteArray) (r1 : ByteArray) (r2 : ByteArray) (r3 : Bool) (w : World) (h : mandolineref07_field.f k a0 = some (r1, r2, r3)) :
    Calls Tryd.prog 45 #[.string a0] w fun e w' => e = .returned (.tuple #[.agg #[.string r1, .string r2], .bool r3]) ∧ Below w.heap.size w w' := by
  have hu33 := Tryd.underlying33
  have HB := Aside0.mk (Below.refl w.heap.size w)
  have H : (mandolineref07_field.l0 k a0 0) = some (r1, r2, r3) := h
  clear h
  have H' := Aside0.mk H
  clear H
  go_enter Tryd.func45, Tryd.ntmps45
  go_wp2_with (first | ((with_reducible refine gate_dst (N := 2) rfl ?_); refine box_event ?hg (N := 2) ?hd (cs := #[.string (⟨#[]⟩ : ByteArray), .string (⟨#[]⟩ : ByteArray)]) (t := 33) ?hr ?_; (case hd => rfl); (case hg => rfl); (case hr => first | (go_simp; done) | (go_simp; rfl)); intro gb175 hg w2 hbox hb; have n0_ := Aside0.mk (below_step (by repeat (first | (with_reducible first | exact HB.out | apply below_alloc | apply pw_below_drewN | apply below_drew1) | exact HB.out)) hb); have n1_ := Aside0.mk (hbox); have n2_ := Aside0.mk ((by rw [hg]; exact (below_size (by repeat (first | (with_reducible first | exact HB.out | apply below_alloc | apply pw_below_drewN | apply below_drew1) | exact HB.out))) : w.heap.size ≤ gb175)); have n3_ := Aside0.mk ((by rw [hg]; exact (below_size (by repeat (first | (with_reducible first | exact HB.out | apply below_alloc | apply pw_below_drewN | apply below_drew1) | exact HB.out))) : w.heap.size ≤ gb175)); clear HB; have HB := n0_; have BK175 := n1_; have GW175 := n2_; have GE175 := n3_; clear n0_ n1_ n2_ n3_; clear hb hbox hg))
  go_loopg [4] k (fun kq v4 w' => ∃ (x4_1 : Int) (x176000_1 : ByteArray) (x176001_1 : ByteArray), v4 = .int .i64 x4_1 ∧ Aside0 (mandolineref07_field.l0 kq a0 x4_1 = some (r1, r2, r3)) ∧ Aside0 (kq ≤ k) ∧ Aside0 (w'.heap[gb175]? = some (.cells #[.string x176000_1, .string x176001_1] 33 (0, 0))) ∧ Aside0 (Below w.heap.size w w'))
  case atStart => exact ⟨(0), ((⟨#[]⟩ : ByteArray)), ((⟨#[]⟩ : ByteArray)), (by first | rfl | (simp; done) | (simp [*]; done)), H', ⟨Nat.le_refl _⟩, ⟨by (with_reducible repeat (first | refine blk_drewN ?_ _ | refine blk_drew ?_ | refine blk_alloc ?_ _)); exact BK175.out⟩, ⟨by repeat (first | (with_reducible first | exact HB.out | apply below_alloc | apply pw_below_drewN | apply below_drew1 | refine below_set ?_ GE175.out) | exact HB.out)⟩⟩
  case round =>
    clear H'
    try clear p2
    obtain ⟨x4_1, x176000_1, x176001_1, rfl, HA, HK1, BK175, HB⟩ := hrel
    cases gk with
    | zero => exact absurd HA.out (by simp [mandolineref07_field.l0])
    | succ k1 =>
      have H := HA.out
      clear HA
      simp only [mandolineref07_field.l0] at H
      by_cases c3 : x4_1 < (a0.size : Int)
      · rw [if_pos c3] at H
        have c3b0 : decide (x4_1 < (a0.size : Int)) = true := decide_eq_true c3
        clear c3
        by_cases c4 : 0 ≤ x4_1
        · rw [if_pos c4] at H
          have c4b0 : decide (0 ≤ x4_1) = true := decide_eq_true c4
          clear c4
          by_cases c6 : (bt a0 x4_1) = 58
          · rw [if_pos c6] at H
            have c6b0 : ((bt a0 x4_1) == 58) = true := beq_iff_eq.mpr c6
            have c6b1 : ((bt a0 x4_1) != 58) = false := bne_eq_false_iff_eq.mpr c6
            clear c6
            have c7b0 := eq_true (of_decide_eq_true (by first | (with_reducible assumption) | assumption) : 0 ≤ x4_1)
            by_cases c8 : x4_1 ≤ (a0.size : Int)
            · rw [if_pos c8] at H
              have c8b0 := eq_true c8
              have c8b1 : decide (x4_1 ≤ (a0.size : Int)) = true := decide_eq_true c8
              clear c8
              obtain ⟨ji9, hji9⟩ : ∃ j_ : Int, (wrap64 (x4_1 + 1)) = j_ := ⟨_, rfl⟩
              replace H : (if 0 ≤ (ji9) then (if (ji9) ≤ (a0.size : Int) then ((mandolineref07_Trim.f k1 (a0.extract ((ji9) : Int).toNat a0.size)).bind fun t176 => ((mandolineref07_Right.f k1 (a0.extract 0 (x4_1 : Int).toNat) t176).bind fun t178 => (some (a0.extract 0 (x4_1 : Int).toNat, t176, t178)))) else (none)) else (none)) = some (r1, r2, r3) := by first | (rw [hji9] at H; exact H) | (simp only [hji9] at H ⊢; exact H)
              have hji9w : (IntKind.i64.wrap (x4_1 + 1)) = ji9 := (i64_w _).trans hji9
              by_cases c10 : 0 ≤ (ji9)
              · rw [if_pos c10] at H
                have c10b0 := eq_true c10
                have c10b1 : decide (0 ≤ (ji9)) = true := decide_eq_true c10
                clear c10
                by_cases c11 : (ji9) ≤ (a0.size : Int)
                · rw [if_pos c11] at H
                  have c11b0 := eq_true c11
                  have c11b1 : decide ((ji9) ≤ (a0.size : Int)) = true := decide_eq_true c11
                  clear c11
                  replace H := Option.bind_eq_some_iff.mp H
                  obtain ⟨t176, A120, H⟩ := H
                  replace H : ((mandolineref07_Right.f k1 (a0.extract 0 (x4_1 : Int).toNat) t176).bind fun t178 => (some (a0.extract 0 (x4_1 : Int).toNat, t176, t178))) = some (r1, r2, r3) := H
                  have A12 := Aside0.mk A120
                  clear A120
                  replace H := Option.bind_eq_some_iff.mp H
                  obtain ⟨t178, A130, H⟩ := H
                  replace H : (some (a0.extract 0 (x4_1 : Int).toNat, t176, t178)) = some (r1, r2, r3) := H
                  have A13 := Aside0.mk A130
                  clear A130
                  simp only [Option.some.injEq, Prod.mk.injEq] at H
                  obtain ⟨rfl, rfl, rfl⟩ := H
                  have p5 : 0 ≤ (x4_1 : Int) := of_decide_eq_true (by first | (with_reducible assumption) | assumption)
                  have q5 : x4_1 < (a0.size : Int) := of_decide_eq_true (by first | (with_reducible assumption) | assumption)
                  have hx5 := bt_at a0 x4_1
                  replace p5 := eq_true p5
                  replace q5 := eq_true q5
                  try go_wp2
                  have n0_ := Aside0.mk (blk_drew BK175.out)
                  have n1_ := Aside0.mk (below_drew1 HB.out)
                  clear BK175
                  clear HB
                  have BK175 := n0_
                  have HB := n1_
                  clear n0_ n1_
                  refine start_ (n := 11) (S := fun w' => True) (ds := []) #[false, false, false, false, false, false, false, false, false, false, false] (by kernel_rfl) rfl rfl trivial (fun hHeld => ?_); refine with_tabW mandolineref07_field.tab5 mandolineref07_field.bits5 (fun HT_ HW_ => ?_)
                  generalize wr.drew = w14 at BK175 HB hHeld ⊢
                  refine pure_ (i := 0) (N := some 16) (v := ?_) (a' := ?_) #[true, false, false, false, false, false, false, false, false, false, false] rfl rfl (any_of HT_.out (by kernel_rfl)) (fun _ _ _ h => h) (Or.inl ⟨by rfl, ?_⟩) ?_ ?_
                  rotate_left
                  · intro w'
                    go_simp
                    with_reducible rfl
                  rotate_left
                  · simp only [Act.put, List.setIfInBounds_toArray, List.set_cons_zero, List.set_cons_succ, i64_w, i32_w]
                    rfl
                  refine pure_ (i := 1) (N := some 17) (v := ?_) (a' := ?_) #[true, true, false, false, false, false, false, false, false, false, false] rfl rfl (any_of HT_.out (by kernel_rfl)) (fun _ _ _ h => h) (Or.inl ⟨by rfl, ?_⟩) ?_ ?_
                  rotate_left
                  · intro w'
                    go_simp
                    with_reducible rfl
                  rotate_left
                  · simp only [Act.put, List.setIfInBounds_toArray, List.set_cons_zero, List.set_cons_succ, i64_w, i32_w]
                    rfl
                  refine pure_ (i := 2) (N := some 18) (v := ?_) (a' := ?_) #[true, true, true, false, false, false, false, false, false, false, false] rfl rfl (any_of HT_.out (by kernel_rfl)) (fun _ _ _ h => h) (Or.inl ⟨by rfl, ?_⟩) ?_ ?_
                  rotate_left
                  · intro w'
                    go_simp
                    with_reducible rfl
                  rotate_left
                  · simp only [Act.put, List.setIfInBounds_toArray, List.set_cons_zero, List.set_cons_succ, i64_w, i32_w]
                    rfl
                  refine pure_ (i := 3) (N := some 19) (v := ?_) (a' := ?_) #[true, true, true, true, false, false, false, false, false, false, false] rfl rfl (any_of HT_.out (by kernel_rfl)) (fun _ _ _ h => h) (Or.inl ⟨by rfl, ?_⟩) ?_ ?_
                  rotate_left
                  · intro w'
                    go_simp
                    with_reducible rfl
                  rotate_left
                  · simp only [Act.put, List.setIfInBounds_toArray, List.set_cons_zero, List.set_cons_succ, i64_w, i32_w]
                    rfl
                  refine pure_ (i := 4) (N := some 20) (v := ?_) (a' := ?_) #[true, true, true, true, true, false, false, false, false, false, false] rfl rfl (any_of HT_.out (by kernel_rfl)) (fun _ _ _ h => h) (Or.inl ⟨by rfl, ?_⟩) ?_ ?_
                  rotate_left
                  · intro w'
                    go_simp
                    with_reducible rfl
                  rotate_left
                  · simp only [Act.put, List.setIfInBounds_toArray, List.set_cons_zero, List.set_cons_succ, i64_w, i32_w]
                    rfl
                  refine pure_ (i := 5) (N := some 21) (v := ?_) (a' := ?_) #[true, true, true, true, true, true, false, false, false, false, false] rfl rfl (any_of HT_.out (by kernel_rfl)) (fun _ _ _ h => h) (Or.inl ⟨by rfl, ?_⟩) ?_ ?_
                  rotate_left
                  · intro w'
                    go_simp
                    with_reducible rfl
                  rotate_left
                  · simp only [Act.put, List.setIfInBounds_toArray, List.set_cons_zero, List.set_cons_succ, i64_w, i32_w]
                    rfl
                  refine pure_ (i := 6) (N := some 22) (v := ?_) (a' := ?_) #[true, true, true, true, true, true, true, false, false, false, false] rfl rfl (any_of HT_.out (by kernel_rfl)) (fun _ _ _ h => h) (Or.inl ⟨by rfl, ?_⟩) ?_ ?_
                  rotate_left
                  · intro w'
                    go_simp
                    with_reducible rfl
                  rotate_left
                  · simp only [Act.put, List.setIfInBounds_toArray, List.set_cons_zero, List.set_cons_succ, i64_w, i32_w]
                    rfl
                  refine join_ (σ := Nat) 1 #[true, true, true, true, true, true, true, true, true, true, false] (fun s_ => [(23, .string t176), (5, .pointer (some ⟨s_, 0, none⟩)), (24, .agg #[.string (a0.extract 0 (x4_1 : Int).toNat), .string t176])]) (fun s_ w' => (w'.heap[gb175]? = some (.cells #[.string x176000_1, .string x176001_1] 33 (0, 0))) ∧ (w'.heap[s_]? = some (.cells #[.string (⟨#[]⟩ : ByteArray), .string (⟨#[]⟩ : ByteArray)] 33 (0, 0))) ∧ (w.heap.size ≤ s_) ∧ (w.heap.size ≤ s_) ∧ (gb175 ≠ s_) ∧ (s_ ≠ gb175) ∧ (Below w.heap.size w w')) ?_ ?_
                  rotate_left
                  · intro hCont
                    refine two_ (i := 7) (j := 9) (Ni := some 23) (Nj := some 5) #[true, true, true, true, true, true, true, true, false, false, false] #[true, true, true, true, true, true, true, false, false, true, false] rfl rfl rfl rfl (two_of HT_.out (by kernel_rfl)) (by decide) (by decide) (fun K hK => ?_) (fun K hK => ?_)
                    · skip
                      refine goes_ Tryd.func42 (by kernel_rfl) rfl #[.string (a0.extract ((ji9) : Int).toNat a0.size)] (by rfl) rfl rfl (by (try simp only [List.map_toArray, List.map_cons, List.map_nil]); first | done | (simp only [hji9]; rfl) | rfl | (simp only [List.length_drop, List.length_take]; rfl)) ?_
                      with_reducible refine (mandolineref07_Trim.calls k1 (a0.extract ((ji9) : Int).toNat a0.size) t176 _ A12.out).mono ?_
                      rintro e w' ⟨rfl, ⟨nd, rfl⟩⟩
                      refine ⟨_, rfl, ?_⟩
                      refine hK.out _ _ trivial (fun hHeld => ?_)
                      clear hK K
                      refine norm_ (a' := ?_) ?_ ?_
                      rotate_left
                      · show Act.put _ (some 23) _ = _
                        simp only [Act.put, List.setIfInBounds_toArray, List.set_cons_zero, List.set_cons_succ, i64_w, i32_w]
                        rfl
                      refine pure_ (i := 8) (N := some 24) (v := ?_) (a' := ?_) #[true, true, true, true, true, true, true, true, true, false, false] rfl rfl (any_of HT_.out (by kernel_rfl)) (fun _ _ _ h => h) (Or.inl ⟨by rfl, ?_⟩) ?_ ?_
                      rotate_left
                      · intro w'
                        go_simp
                        with_reducible rfl
                      rotate_left
                      · simp only [Act.put, List.setIfInBounds_toArray, List.set_cons_zero, List.set_cons_succ, i64_w, i32_w]
                        rfl
                      refine one_ (i := 9) (N := some 5) #[true, true, true, true, true, true, true, true, true, true, false] rfl rfl (one_of HT_.out (by kernel_rfl)) (by decide) (fun K hK => ?_)
                      refine box_step ?hg (N := 5) ?hd (cs := #[.string (⟨#[]⟩ : ByteArray), .string (⟨#[]⟩ : ByteArray)]) (t := 33) ?hr ?_; (case hd => rfl); (case hg => rfl); (case hr => first | (go_simp; done) | (go_simp; rfl))
                      intro gb177 hg w15 hbox hb
                      have n0_ := Aside0.mk (blk_below (g := gb175) (o := .cells #[.string x176000_1, .string x176001_1] 33 (0, 0)) (by (with_reducible repeat (first | refine blk_drewN ?_ _ | refine blk_drew ?_ | refine blk_alloc ?_ _)); exact BK175.out) hb)
                      have n1_ := Aside0.mk (below_step (by repeat (first | (with_reducible first | exact HB.out | apply below_alloc | apply pw_below_drewN | apply below_drew1 | refine below_set ?_ GE175.out) | exact HB.out)) hb)
                      have n2_ := Aside0.mk (hbox)
                      have n3_ := Aside0.mk ((by rw [hg]; exact (below_size (by repeat (first | (with_reducible first | exact HB.out | apply below_alloc | apply pw_below_drewN | apply below_drew1 | refine below_set ?_ GE175.out) | exact HB.out))) : w.heap.size ≤ gb177))
                      have n4_ := Aside0.mk ((by rw [hg]; exact (below_size (by repeat (first | (with_reducible first | exact HB.out | apply below_alloc | apply pw_below_drewN | apply below_drew1 | refine below_set ?_ GE175.out) | exact HB.out))) : w.heap.size ≤ gb177))
                      have n5_ := Aside0.mk ((by rw [hg]; exact Nat.ne_of_lt (blk_lt (g := gb175) (o := .cells #[.string x176000_1, .string x176001_1] 33 (0, 0)) (by (with_reducible repeat (first | refine blk_drewN ?_ _ | refine blk_drew ?_ | refine blk_alloc ?_ _)); exact BK175.out)) : gb175 ≠ gb177))
                      have n6_ := Aside0.mk ((by rw [hg]; exact Nat.ne_of_gt (blk_lt (g := gb175) (o := .cells #[.string x176000_1, .string x176001_1] 33 (0, 0)) (by (with_reducible repeat (first | refine blk_drewN ?_ _ | refine blk_drew ?_ | refine blk_alloc ?_ _)); exact BK175.out)) : gb177 ≠ gb175))
                      clear BK175
                      clear HB
                      have BK175 := n0_
                      have HB := n1_
                      have BK177 := n2_
                      have GW177 := n3_
                      have GE177 := n4_
                      have NB175_177 := n5_
                      have NB177_175 := n6_
                      clear n0_ n1_ n2_ n3_ n4_ n5_ n6_
                      clear hb hbox hg
                      refine hK.out _ _ trivial (fun hHeld => ?_)
                      clear hK K
                      refine norm_ (a' := ?_) ?_ ?_
                      rotate_left
                      · show Act.put _ (some 5) _ = _
                        simp only [Act.put, List.setIfInBounds_toArray, List.set_cons_zero, List.set_cons_succ, i64_w, i32_w]
                        rfl
                      exact norm_ (by simp only [putAll, Act.put, List.setIfInBounds_toArray, List.set_cons_zero, List.set_cons_succ]) (hCont (gb177) _ ⟨(by (with_reducible repeat (first | refine blk_drewN ?_ _ | refine blk_drew ?_ | refine blk_alloc ?_ _)); exact BK175.out), (by (with_reducible repeat (first | refine blk_drewN ?_ _ | refine blk_drew ?_ | refine blk_alloc ?_ _)); exact BK177.out), GW177.out, GE177.out, NB175_177.out, NB177_175.out, (by repeat (first | (with_reducible first | exact HB.out | apply below_alloc | apply pw_below_drewN | apply below_drew1 | refine below_set ?_ GE175.out | refine below_set ?_ GE177.out) | exact HB.out))⟩)
                    · skip
                      refine box_step ?hg (N := 5) ?hd (cs := #[.string (⟨#[]⟩ : ByteArray), .string (⟨#[]⟩ : ByteArray)]) (t := 33) ?hr ?_; (case hd => rfl); (case hg => rfl); (case hr => first | (go_simp; done) | (go_simp; rfl))
                      intro gb177 hg w15 hbox hb
                      have n0_ := Aside0.mk (blk_below (g := gb175) (o := .cells #[.string x176000_1, .string x176001_1] 33 (0, 0)) (by (with_reducible repeat (first | refine blk_drewN ?_ _ | refine blk_drew ?_ | refine blk_alloc ?_ _)); exact BK175.out) hb)
                      have n1_ := Aside0.mk (below_step (by repeat (first | (with_reducible first | exact HB.out | apply below_alloc | apply pw_below_drewN | apply below_drew1 | refine below_set ?_ GE175.out) | exact HB.out)) hb)
                      have n2_ := Aside0.mk (hbox)
                      have n3_ := Aside0.mk ((by rw [hg]; exact (below_size (by repeat (first | (with_reducible first | exact HB.out | apply below_alloc | apply pw_below_drewN | apply below_drew1 | refine below_set ?_ GE175.out) | exact HB.out))) : w.heap.size ≤ gb177))
                      have n4_ := Aside0.mk ((by rw [hg]; exact (below_size (by repeat (first | (with_reducible first | exact HB.out | apply below_alloc | apply pw_below_drewN | apply below_drew1 | refine below_set ?_ GE175.out) | exact HB.out))) : w.heap.size ≤ gb177))
                      have n5_ := Aside0.mk ((by rw [hg]; exact Nat.ne_of_lt (blk_lt (g := gb175) (o := .cells #[.string x176000_1, .string x176001_1] 33 (0, 0)) (by (with_reducible repeat (first | refine blk_drewN ?_ _ | refine blk_drew ?_ | refine blk_alloc ?_ _)); exact BK175.out)) : gb175 ≠ gb177))
                      have n6_ := Aside0.mk ((by rw [hg]; exact Nat.ne_of_gt (blk_lt (g := gb175) (o := .cells #[.string x176000_1, .string x176001_1] 33 (0, 0)) (by (with_reducible repeat (first | refine blk_drewN ?_ _ | refine blk_drew ?_ | refine blk_alloc ?_ _)); exact BK175.out)) : gb177 ≠ gb175))
                      clear BK175
                      clear HB
                      have BK175 := n0_
                      have HB := n1_
                      have BK177 := n2_
                      have GW177 := n3_
                      have GE177 := n4_
                      have NB175_177 := n5_
                      have NB177_175 := n6_
                      clear n0_ n1_ n2_ n3_ n4_ n5_ n6_
                      clear hb hbox hg
                      refine hK.out _ _ trivial (fun hHeld => ?_)
                      clear hK K
                      refine norm_ (a' := ?_) ?_ ?_
                      rotate_left
                      · show Act.put _ (some 5) _ = _
                        simp only [Act.put, List.setIfInBounds_toArray, List.set_cons_zero, List.set_cons_succ, i64_w, i32_w]
                        rfl
                      refine one_ (i := 7) (N := some 23) #[true, true, true, true, true, true, true, true, false, true, false] rfl rfl (one_of HT_.out (by kernel_rfl)) (by decide) (fun K hK => ?_)
                      refine goes_ Tryd.func42 (by kernel_rfl) rfl #[.string (a0.extract ((ji9) : Int).toNat a0.size)] (by rfl) rfl rfl (by (try simp only [List.map_toArray, List.map_cons, List.map_nil]); first | done | (simp only [hji9]; rfl) | rfl | (simp only [List.length_drop, List.length_take]; rfl)) ?_
                      with_reducible refine (mandolineref07_Trim.calls k1 (a0.extract ((ji9) : Int).toNat a0.size) t176 _ A12.out).mono ?_
                      rintro e w' ⟨rfl, ⟨nd, rfl⟩⟩
                      refine ⟨_, rfl, ?_⟩
                      refine hK.out _ _ trivial (fun hHeld => ?_)
                      clear hK K
                      refine norm_ (a' := ?_) ?_ ?_
                      rotate_left
                      · show Act.put _ (some 23) _ = _
                        simp only [Act.put, List.setIfInBounds_toArray, List.set_cons_zero, List.set_cons_succ, i64_w, i32_w]
                        rfl
                      refine pure_ (i := 8) (N := some 24) (v := ?_) (a' := ?_) #[true, true, true, true, true, true, true, true, true, true, false] rfl rfl (any_of HT_.out (by kernel_rfl)) (fun _ _ _ h => h) (Or.inl ⟨by rfl, ?_⟩) ?_ ?_
                      rotate_left
                      · intro w'
                        go_simp
                        with_reducible rfl
                      rotate_left
                      · simp only [Act.put, List.setIfInBounds_toArray, List.set_cons_zero, List.set_cons_succ, i64_w, i32_w]
                        rfl
                      exact norm_ (by simp only [putAll, Act.put, List.setIfInBounds_toArray, List.set_cons_zero, List.set_cons_succ]) (hCont (gb177) _ ⟨(by (with_reducible repeat (first | refine blk_drewN ?_ _ | refine blk_drew ?_ | refine blk_alloc ?_ _)); exact BK175.out), (by (with_reducible repeat (first | refine blk_drewN ?_ _ | refine blk_drew ?_ | refine blk_alloc ?_ _)); exact BK177.out), GW177.out, GE177.out, NB175_177.out, NB177_175.out, (by repeat (first | (with_reducible first | exact HB.out | apply below_alloc | apply pw_below_drewN | apply below_drew1 | refine below_set ?_ GE175.out | refine below_set ?_ GE177.out) | exact HB.out))⟩)
                  rintro gb177 w16 ⟨h0_, h1_, h2_, h3_, h4_, h5_, h6_⟩
                  have n0_ : Aside0 (w16.heap[gb175]? = some (.cells #[.string x176000_1, .string x176001_1] 33 (0, 0))) := ⟨h0_⟩
                  have n1_ : Aside0 (w16.heap[gb177]? = some (.cells #[.string (⟨#[]⟩ : ByteArray), .string (⟨#[]⟩ : ByteArray)] 33 (0, 0))) := ⟨h1_⟩
                  have n2_ : Aside0 (w.heap.size ≤ gb177) := ⟨h2_⟩
                  have n3_ : Aside0 (w.heap.size ≤ gb177) := ⟨h3_⟩
                  have n4_ : Aside0 (gb175 ≠ gb177) := ⟨h4_⟩
                  have n5_ : Aside0 (gb177 ≠ gb175) := ⟨h5_⟩
                  have n6_ : Aside0 (Below w.heap.size w w16) := ⟨h6_⟩
                  clear BK175
                  clear HB
                  clear h0_ h1_ h2_ h3_ h4_ h5_ h6_
                  have BK175 := n0_
                  have BK177 := n1_
                  have GW177 := n2_
                  have GE177 := n3_
                  have NB175_177 := n4_
                  have NB177_175 := n5_
                  have HB := n6_
                  clear n0_ n1_ n2_ n3_ n4_ n5_ n6_
                  have hHeld := trivial
                  refine norm_ (a' := ?_) ?_ ?_
                  rotate_left
                  · simp only [putAll, Act.put, List.setIfInBounds_toArray, List.set_cons_zero, List.set_cons_succ]
                    rfl
                  refine one_ (i := 10) (N := none) #[true, true, true, true, true, true, true, true, true, true, true] rfl rfl (one_of HT_.out (by kernel_rfl)) (by decide) (fun K hK => ?_)
                  have hs17 : w16.cell? ⟨gb177, 0, none⟩ = some (.string (⟨#[]⟩ : ByteArray)) := (blk_cell BK177.out 0).trans rfl
                  have hfs17 := blk_frozen BK177.out 0
                  have hns17_0 := NB175_177.out
                  have hms17_0 := NB177_175.out
                  have hs18 : w16.cell? ⟨gb177, 1, none⟩ = some (.string (⟨#[]⟩ : ByteArray)) := (blk_cell BK177.out 1).trans rfl
                  have hfs18 := blk_frozen BK177.out 1
                  have hns18_0 := NB175_177.out
                  have hms18_0 := NB177_175.out
                  refine skip_ (w1 := ?_) (by rfl) rfl ?_ ?_
                  rotate_left
                  · go_simp
                    rfl
                  refine hK.out _ _ trivial (fun hHeld => ?_)
                  clear hK K
                  refine done_ (done_of HT_.out (by kernel_rfl)) ?_
                  try go_wp2
                  have n0_ : Aside0 (((w16.setCell ⟨gb177, 0, none⟩ (.string (a0.extract 0 (x4_1 : Int).toNat))).setCell ⟨gb177, 1, none⟩ (.string t176)).heap[gb175]? = some (.cells #[.string x176000_1, .string x176001_1] 33 (0, 0))) := ⟨by (with_reducible repeat (first | refine blk_drewN ?_ _ | refine blk_drew ?_ | refine blk_alloc ?_ _)); refine blk_far ?_ NB175_177.out _; (with_reducible repeat (first | refine blk_drewN ?_ _ | refine blk_drew ?_ | refine blk_alloc ?_ _)); refine blk_far ?_ NB175_177.out _; (with_reducible repeat (first | refine blk_drewN ?_ _ | refine blk_drew ?_ | refine blk_alloc ?_ _)); exact BK175.out⟩
                  have n1_ : Aside0 (((w16.setCell ⟨gb177, 0, none⟩ (.string (a0.extract 0 (x4_1 : Int).toNat))).setCell ⟨gb177, 1, none⟩ (.string t176)).heap[gb177]? = some (.cells #[.string (a0.extract 0 (x4_1 : Int).toNat), .string t176] 33 (0, 0))) := ⟨by (with_reducible repeat (first | refine blk_drewN ?_ _ | refine blk_drew ?_ | refine blk_alloc ?_ _)); refine blk_put (cs := #[.string (a0.extract 0 (x4_1 : Int).toNat), .string (⟨#[]⟩ : ByteArray)]) ?_ 1 _ rfl; (with_reducible repeat (first | refine blk_drewN ?_ _ | refine blk_drew ?_ | refine blk_alloc ?_ _)); refine blk_put (cs := #[.string (⟨#[]⟩ : ByteArray), .string (⟨#[]⟩ : ByteArray)]) ?_ 0 _ rfl; (with_reducible repeat (first | refine blk_drewN ?_ _ | refine blk_drew ?_ | refine blk_alloc ?_ _)); exact BK177.out⟩
                  have n2_ : Aside0 (Below w.heap.size w ((w16.setCell ⟨gb177, 0, none⟩ (.string (a0.extract 0 (x4_1 : Int).toNat))).setCell ⟨gb177, 1, none⟩ (.string t176))) := ⟨by repeat (first | (with_reducible first | exact HB.out | apply below_alloc | apply pw_below_drewN | apply below_drew1 | refine below_set ?_ GE175.out | refine below_set ?_ GE177.out) | exact HB.out)⟩
                  (try clear BK175)
                  (try clear BK177)
                  (try clear HB)
                  generalize ((w16.setCell ⟨gb177, 0, none⟩ (.string (a0.extract 0 (x4_1 : Int).toNat))).setCell ⟨gb177, 1, none⟩ (.string t176)) = w19 at n0_ n1_ n2_ ⊢
                  have BK175 := n0_
                  have BK177 := n1_
                  have HB := n2_
                  clear n0_ n1_ n2_
                  have n0_ := Aside0.mk (blk_drew BK175.out)
                  have n1_ := Aside0.mk (blk_drew BK177.out)
                  have n2_ := Aside0.mk (below_drew1 HB.out)
                  clear BK175
                  clear BK177
                  clear HB
                  have BK175 := n0_
                  have BK177 := n1_
                  have HB := n2_
                  clear n0_ n1_ n2_
                  refine start_ (n := 5) (S := fun w' => w'.cell? ⟨gb177, 0, none⟩ = some (.string (a0.extract 0 (x4_1 : Int).toNat)) ∧ w'.cell? ⟨gb177, 1, none⟩ = some (.string t176)) (ds := []) #[false, false, false, false, false] (by kernel_rfl) rfl rfl ⟨(blk_cell BK177.out 0).trans rfl, (blk_cell BK177.out 1).trans rfl⟩ (fun hHeld => ?_)
                  generalize w19.drew = w20 at BK175 BK177 HB hHeld ⊢
                  refine take_ (i := 0) (N := some 25) (v := ?_) (a' := ?_) #[true, false, false, false, false] rfl rfl (by kernel_rfl) (fun _ _ _ h => h) (Or.inl ⟨by rfl, ?_⟩) hHeld ?_ ?_
                  rotate_left
                  · rintro w' ⟨s0, s1⟩
                    go_simp
                    with_reducible rfl
                  rotate_left
                  · simp only [Act.put, List.setIfInBounds_toArray, List.set_cons_zero, List.set_cons_succ, i64_w, i32_w]
                    rfl
                  refine take_ (i := 1) (N := some 26) (v := ?_) (a' := ?_) #[true, true, false, false, false] rfl rfl (by kernel_rfl) (fun _ _ _ h => h) (Or.inl ⟨by rfl, ?_⟩) hHeld ?_ ?_
                  rotate_left
                  · rintro w' ⟨s0, s1⟩
                    go_simp
                    with_reducible rfl
                  rotate_left
                  · simp only [Act.put, List.setIfInBounds_toArray, List.set_cons_zero, List.set_cons_succ, i64_w, i32_w]
                    rfl
                  refine one_ (i := 2) (N := some 27) #[true, true, true, false, false] rfl rfl (by kernel_rfl) (by decide) (fun K hK => ?_)
                  refine goes_ Tryd.func19 (by kernel_rfl) rfl #[.agg #[.string (a0.extract 0 (x4_1 : Int).toNat), .string t176]] (by rfl) rfl rfl (by (try simp only [List.map_toArray, List.map_cons, List.map_nil]); first | done | rfl | (simp only [List.length_drop, List.length_take]; rfl)) ?_
                  with_reducible refine (mandolineref07_Right.calls k1 (a0.extract 0 (x4_1 : Int).toNat) t176 t178 _ A13.out).mono ?_
                  rintro e w21 ⟨rfl, hb⟩
                  refine ⟨_, rfl, ?_⟩
                  have n0_ := Aside0.mk (blk_below (g := gb175) (o := .cells #[.string x176000_1, .string x176001_1] 33 (0, 0)) (by (with_reducible repeat (first | refine blk_drewN ?_ _ | refine blk_drew ?_ | refine blk_alloc ?_ _)); exact BK175.out) hb)
                  have n1_ := Aside0.mk (blk_below (g := gb177) (o := .cells #[.string (a0.extract 0 (x4_1 : Int).toNat), .string t176] 33 (0, 0)) (by (with_reducible repeat (first | refine blk_drewN ?_ _ | refine blk_drew ?_ | refine blk_alloc ?_ _)); exact BK177.out) hb)
                  have n2_ := Aside0.mk (below_step (by repeat (first | (with_reducible first | exact HB.out | apply below_alloc | apply pw_below_drewN | apply below_drew1 | refine below_set ?_ GE175.out | refine below_set ?_ GE177.out) | exact HB.out)) hb)
                  clear BK175
                  clear BK177
                  clear HB
                  have BK175 := n0_
                  have BK177 := n1_
                  have HB := n2_
                  clear n0_ n1_ n2_
                  (try clear hb)
                  (try clear hb2)
                  (try clear hk)
                  (try clear hi)
                  refine hK.out _ _ ⟨(blk_cell BK177.out 0).trans rfl, (blk_cell BK177.out 1).trans rfl⟩ (fun hHeld => ?_)
                  clear hK K
                  refine norm_ (a' := ?_) ?_ ?_
                  rotate_left
                  · show Act.put _ (some 27) _ = _
                    simp only [Act.put, List.setIfInBounds_toArray, List.set_cons_zero, List.set_cons_succ, i64_w, i32_w]
                    rfl
                  refine one_ (i := 3) (N := none) #[true, true, true, true, false] rfl rfl (by kernel_rfl) (by decide) (fun K hK => ?_)
                  have hs22 : w21.cell? ⟨gb175, 0, none⟩ = some (.string x176000_1) := (blk_cell BK175.out 0).trans rfl
                  have hfs22 := blk_frozen BK175.out 0
                  have hns22_1 := NB177_175.out
                  have hms22_1 := NB175_177.out
                  have hs23 : w21.cell? ⟨gb175, 1, none⟩ = some (.string x176001_1) := (blk_cell BK175.out 1).trans rfl
                  have hfs23 := blk_frozen BK175.out 1
                  have hns23_1 := NB177_175.out
                  have hms23_1 := NB175_177.out
                  refine skip_ (w1 := ?_) (by rfl) rfl ?_ ?_
                  rotate_left
                  · go_simp
                    rfl
                  refine hK.out _ _ ⟨((cell_far (p := ⟨gb175, _, none⟩) NB177_175.out _).trans (((cell_far (p := ⟨gb175, _, none⟩) NB177_175.out _).trans (hHeld.1)))), ((cell_far (p := ⟨gb175, _, none⟩) NB177_175.out _).trans (((cell_far (p := ⟨gb175, _, none⟩) NB177_175.out _).trans (hHeld.2))))⟩ (fun hHeld => ?_)
                  clear hK K
                  refine pure_ (i := 4) (N := some 3) (v := ?_) (a' := ?_) #[true, true, true, true, true] rfl rfl (by kernel_rfl) (fun _ _ _ h => h) (Or.inl ⟨by rfl, ?_⟩) ?_ ?_
                  rotate_left
                  · intro w'
                    go_simp
                    with_reducible rfl
                  rotate_left
                  · simp only [Act.put, List.setIfInBounds_toArray, List.set_cons_zero, List.set_cons_succ, i64_w, i32_w]
                    rfl
                  refine done_ (by kernel_rfl) ?_
                  try go_wp2
                  refine bodyPost_ret (results_ct rfl _ _ gb175 33 #[.string (a0.extract 0 (x4_1 : Int).toNat), .string t176] (0, 0) _ rfl (by (with_reducible repeat (first | refine blk_drewN ?_ _ | refine blk_drew ?_ | refine blk_alloc ?_ _)); refine blk_put (cs := #[.string (a0.extract 0 (x4_1 : Int).toNat), .string x176001_1]) ?_ 1 _ rfl; (with_reducible repeat (first | refine blk_drewN ?_ _ | refine blk_drew ?_ | refine blk_alloc ?_ _)); refine blk_put (cs := #[.string x176000_1, .string x176001_1]) ?_ 0 _ rfl; (with_reducible repeat (first | refine blk_drewN ?_ _ | refine blk_drew ?_ | refine blk_alloc ?_ _)); exact BK175.out) Tryd.underlying33 rfl (by kernel_rfl)) rfl ?_
                  exact ⟨by first | rfl | (simp [errW_none, errW_some] <;> rfl) | (simp only [← hji9]; first | rfl | (simp [errW_none, errW_some] <;> rfl)) | (simp [*, errW_none, errW_some] <;> rfl), by repeat (first | (with_reducible first | exact HB.out | apply below_alloc | apply pw_below_drewN | apply below_drew1 | refine below_set ?_ GE175.out | refine below_set ?_ GE177.out) | exact HB.out)⟩
                · rw [if_neg c11] at H
                  exact absurd H (by simp)
              · rw [if_neg c10] at H
                exact absurd H (by simp)
            · rw [if_neg c8] at H
              exact absurd H (by simp)
          · rw [if_neg c6] at H
            have c6b0 : ((bt a0 x4_1) == 58) = false := beq_eq_false_iff_ne.mpr c6
            have c6b1 : ((bt a0 x4_1) != 58) = true := bne_iff_ne.mpr c6
            have H' := Aside0.mk H
            clear H
            have p5 : 0 ≤ (x4_1 : Int) := of_decide_eq_true (by first | (with_reducible assumption) | assumption)
            have q5 : x4_1 < (a0.size : Int) := of_decide_eq_true (by first | (with_reducible assumption) | assumption)
            have hx5 := bt_at a0 x4_1
            replace p5 := eq_true p5
            replace q5 := eq_true q5
            go_wp2
            go_roundg k1
            case measure => have := HK1.out; omega
            case rel => exact ⟨(wrap64 (x4_1 + 1)), (x176000_1), (x176001_1), (by first | rfl | (simp; done) | (simp [*]; done)), H', ⟨by have := HK1.out; omega⟩, ⟨by (with_reducible repeat (first | refine blk_drewN ?_ _ | refine blk_drew ?_ | refine blk_alloc ?_ _)); exact BK175.out⟩, ⟨by repeat (first | (with_reducible first | exact HB.out | apply below_alloc | apply pw_below_drewN | apply below_drew1 | refine below_set ?_ GE175.out) | exact HB.out)⟩⟩
        · rw [if_neg c4] at H
          exact absurd H (by simp)
      · rw [if_neg c3] at H
        have c3b0 : decide (x4_1 < (a0.size : Int)) = false := decide_eq_false c3
        clear c3
        simp only [Option.some.injEq, Prod.mk.injEq] at H
        obtain ⟨rfl, rfl, rfl⟩ := H
        have hcz24_0 : wr.cell? ⟨gb175, 0, none⟩ = some (.string x176000_1) := (blk_cell BK175.out 0).trans rfl
        have hcz24_1 : wr.cell? ⟨gb175, 1, none⟩ = some (.string x176001_1) := (blk_cell BK175.out 1).trans rfl
        have hfz24_0 := blk_frozen BK175.out 0
        have hfz24_1 := blk_frozen BK175.out 1
        go_wp2
        refine bodyPost_ret (results_ct rfl _ _ gb175 33 #[.string (⟨#[]⟩ : ByteArray), .string (⟨#[]⟩ : ByteArray)] (0, 0) _ rfl (by (with_reducible repeat (first | refine blk_drewN ?_ _ | refine blk_drew ?_ | refine blk_alloc ?_ _)); refine blk_put (cs := #[.string (⟨#[]⟩ : ByteArray), .string x176001_1]) ?_ 1 _ rfl; (with_reducible repeat (first | refine blk_drewN ?_ _ | refine blk_drew ?_ | refine blk_alloc ?_ _)); refine blk_put (cs := #[.string x176000_1, .string x176001_1]) ?_ 0 _ rfl; (with_reducible repeat (first | refine blk_drewN ?_ _ | refine blk_drew ?_ | refine blk_alloc ?_ _)); exact BK175.out) Tryd.underlying33 rfl (by kernel_rfl)) rfl ?_
        exact ⟨by first | rfl | (simp [errW_none, errW_some] <;> rfl) | (simp [*, errW_none, errW_some] <;> rfl), by repeat (first | (with_reducible first | exact HB.out | apply below_alloc | apply pw_below_drewN | apply below_drew1 | refine below_set ?_ GE175.out) | exact HB.out)⟩

end Go.Proofs.YtcdjeofhhhffcaaDoor.X
