-- Printed by a program of this session (pp.py: the kit's print.py, run with contracts of its own) out of the translation. Not trusted: Lean checks it.
import Derived.Test.YtcdjeofhhhffcaaDoorX0
import Derived.Test.YtcdjeofhhhffcaaDoorX2
import Derived.Test.YtcdjeofhhhffcaaDoorX3
import Derived.Test.YtcdjeofhhhffcaaDoorX5
import Derived.Test.YtcdjeofhhhffcaaDoorX6
import Derived.Test.YtcdjeofhhhffcaaDoorX7
namespace Go.Proofs.YtcdjeofhhhffcaaDoor.X
open Go.RowKit Go.Proofs.YtcdjeofhhhffcaaDoorW.PrintWords Go.Proofs.YtcdjeofhhhffcaaDoorW.PrintLast Go.Proofs.YtcdjeofhhhffcaaDoorW.PrintMore
attribute [local go_sem] max2_int min2_int max_two min_two max_three min_three max_four min_four   -- for this text's walks alone
set_option linter.unusedVariables false
set_option linter.unusedSimpArgs false

/-! ### mandolineref07_Items: function 13 -/
mutual
def mandolineref07_Items.l0 : Nat → List ByteArray → List ByteArray → Int → Int → Option (List ByteArray)
  | 0, _, _, _, _ => none
  | k + 1, x3, x8, x9, x10 => if x10 < x9 then (if 0 ≤ x10 then (if x10 < (x8.length : Int) then ((mandolineref07_items.f k (rdOf ByteArray.empty x8 x10)).bind fun t157 => (mandolineref07_Items.l1 k x3 x8 x9 x10 t157 (t157.length : Int) 0)) else (none)) else (none)) else (some x3)
def mandolineref07_Items.l1 : Nat → List ByteArray → List ByteArray → Int → Int → List ByteArray → Int → Int → Option (List ByteArray)
  | 0, _, _, _, _, _, _, _ => none
  | k + 1, x3, x8, x9, x10, x15, x16, x17 => if x17 < x16 then (if 0 ≤ x17 then (if x17 < (x15.length : Int) then (if (rdOf ByteArray.empty x15 x17).toList = ([] : List UInt8) then (mandolineref07_Items.l1 k x3 x8 x9 x10 x15 x16 (wrap64 (x17 + 1))) else (if x3.length < 8796093022208 then (mandolineref07_Items.l1 k (x3 ++ [rdOf ByteArray.empty x15 x17]) x8 x9 x10 x15 x16 (wrap64 (x17 + 1))) else (none))) else (none)) else (none)) else (mandolineref07_Items.l0 k x3 x8 x9 (wrap64 (x10 + 1)))
end
def mandolineref07_Items.f (k : Nat) (l0 : List ByteArray) : Option (List ByteArray) := mandolineref07_Items.l0 k ([] : List ByteArray) l0 (l0.length : Int) 0
theorem mandolineref07_Items.mono_l : ∀ k, (∀ y0 y1 y2 y3, LeO (mandolineref07_Items.l0 k y0 y1 y2 y3) (mandolineref07_Items.l0 (k + 1) y0 y1 y2 y3)) ∧ (∀ y0 y1 y2 y3 y4 y5 y6, LeO (mandolineref07_Items.l1 k y0 y1 y2 y3 y4 y5 y6) (mandolineref07_Items.l1 (k + 1) y0 y1 y2 y3 y4 y5 y6))
  | 0 => ⟨fun _ _ _ _ r h => by simp [mandolineref07_Items.l0] at h, fun _ _ _ _ _ _ _ r h => by simp [mandolineref07_Items.l1] at h⟩
  | k + 1 => by
    obtain ⟨ih0, ih1⟩ := mandolineref07_Items.mono_l k
    refine ⟨?_, ?_⟩
    · intro y0 y1 y2 y3
      unfold mandolineref07_Items.l0
      repeat' first
      | (with_reducible exact ih0 _ _ _ _)
      | (with_reducible exact ih1 _ _ _ _ _ _ _)
      | (with_reducible exact mandolineref07_items.mono _ _)
      | (with_reducible exact LeO.refl _)
      | (with_reducible exact LeO.none _)
      | (with_reducible refine LeO.ite ?_ ?_)
      | (with_reducible refine LeO.bind ?_ (fun _ => ?_))
      | exact ih0 _ _ _ _
      | exact ih1 _ _ _ _ _ _ _
      | exact mandolineref07_items.mono _ _
      | exact LeO.none _
      | refine LeO.ite ?_ ?_
      | refine LeO.bind ?_ (fun _ => ?_)
    · intro y0 y1 y2 y3 y4 y5 y6
      unfold mandolineref07_Items.l1
      repeat' first
      | (with_reducible exact ih0 _ _ _ _)
      | (with_reducible exact ih1 _ _ _ _ _ _ _)
      | (with_reducible exact mandolineref07_items.mono _ _)
      | (with_reducible exact LeO.refl _)
      | (with_reducible exact LeO.none _)
      | (with_reducible refine LeO.ite ?_ ?_)
      | (with_reducible refine LeO.bind ?_ (fun _ => ?_))
      | exact ih0 _ _ _ _
      | exact ih1 _ _ _ _ _ _ _
      | exact mandolineref07_items.mono _ _
      | exact LeO.none _
      | refine LeO.ite ?_ ?_
      | refine LeO.bind ?_ (fun _ => ?_)
theorem mandolineref07_Items.mono : ∀ a0 k, LeO (mandolineref07_Items.f k a0) (mandolineref07_Items.f (k + 1) a0) := by
  intro a0 k
  obtain ⟨ih0, ih1⟩ := mandolineref07_Items.mono_l k
  unfold mandolineref07_Items.f
  repeat' first
      | (with_reducible exact ih0 _ _ _ _)
      | (with_reducible exact ih1 _ _ _ _ _ _ _)
      | (with_reducible exact mandolineref07_items.mono _ _)
      | (with_reducible exact LeO.refl _)
      | (with_reducible exact LeO.none _)
      | (with_reducible refine LeO.ite ?_ ?_)
      | (with_reducible refine LeO.bind ?_ (fun _ => ?_))
      | exact ih0 _ _ _ _
      | exact ih1 _ _ _ _ _ _ _
      | exact mandolineref07_items.mono _ _
      | exact LeO.none _
      | refine LeO.ite ?_ ?_
      | refine LeO.bind ?_ (fun _ => ?_)
set_option maxHeartbeats 8000000 in
set_option maxRecDepth 100000 in
theorem mandolineref07_Items.calls (k : Nat) (A0 : Option Addr) (c0 : Nat) (l0 : List ByteArray) (r : List ByteArray) (w : World) (hr0 : Kd.C Kd.string w A0 l0.length l0) (hc0 : l0.length ≤ c0) (h : mandolineref07_Items.f k l0 = some r) :
    Calls Tryd.prog 13 #[.slice A0 l0.length c0] w fun e w' => ∃ v0_ : Value, e = .returned (v0_) ∧ Kd.R Kd.string 9 w' w.heap.size (fun _ => True) v0_ r ∧ Below w.heap.size w w' := by
  have HR0 := Aside0.mk hr0
  have HC0 := Aside0.mk hc0
  clear hr0 hc0
  have HB := Aside0.mk (Below.refl w.heap.size w)
  have H : (mandolineref07_Items.l0 k ([] : List ByteArray) l0 (l0.length : Int) 0) = some r := h
  clear h
  have H' := Aside0.mk H
  clear H
  go_enter Tryd.func13, Tryd.ntmps13
  go_wp2
  go_loopg [3, 10] k (fun kq v3 v10 w' => ∃ (x3_1 : List ByteArray) (x10_1 : Int), v10 = .int .i64 x10_1 ∧ Aside0 (mandolineref07_Items.l0 kq x3_1 l0 (l0.length : Int) x10_1 = some r) ∧ Aside0 (kq ≤ k) ∧ Aside0 (Kd.R Kd.string 9 w' w.heap.size (fun _ => True) v3 x3_1) ∧ Aside0 (Below w.heap.size w w'))
  case atStart => exact ⟨(([] : List ByteArray)), (0), (by first | rfl | (simp; done) | (simp [*]; done)), H', ⟨Nat.le_refl _⟩, ⟨by first | exact Kd.R_nil _ _ _ _ _ | exact Kd.N_nil _ _ _ _ _ | exact Kd.V_nil _ _ _ _ _ | exact Kd.Q_nil _ _ _ _ _ | exact Kd.S_nil _ _ _ _ _⟩, ⟨by repeat (first | (with_reducible first | exact HB.out | apply below_alloc | apply pw_below_drewN | apply below_drew1) | exact HB.out)⟩⟩
  case round =>
    clear H'
    try clear c1
    obtain ⟨x3_1, x10_1, rfl, HA, HK1, HO_3, HB⟩ := hrel
    cases gk with
    | zero => exact absurd HA.out (by simp [mandolineref07_Items.l0])
    | succ k1 =>
      have H := HA.out
      clear HA
      simp only [mandolineref07_Items.l0] at H
      by_cases c2 : x10_1 < (l0.length : Int)
      · rw [if_pos c2] at H
        have c2b0 : decide (x10_1 < (l0.length : Int)) = true := decide_eq_true c2
        clear c2
        by_cases c3 : 0 ≤ x10_1
        · rw [if_pos c3] at H
          have c3b0 : decide (0 ≤ x10_1) = true := decide_eq_true c3
          clear c3
          by_cases c4 : x10_1 < (l0.length : Int)
          · rw [if_pos c4] at H
            have c4b0 : decide (x10_1 < (l0.length : Int)) = true := decide_eq_true c4
            clear c4
            replace H := Option.bind_eq_some_iff.mp H
            obtain ⟨t157, A50, H⟩ := H
            replace H : (mandolineref07_Items.l1 k1 x3_1 l0 (l0.length : Int) x10_1 t157 (t157.length : Int) 0) = some r := H
            have A5 := Aside0.mk A50
            clear A50
            have H' := Aside0.mk H
            clear H
            have p156 : 0 ≤ (x10_1 : Int) := of_decide_eq_true (by first | (with_reducible assumption) | assumption)
            have q156 : x10_1 < (l0.length : Int) := of_decide_eq_true (by first | (with_reducible assumption) | assumption)
            obtain ⟨ad156, e156, hx156_0⟩ := Kd.at_string HR0.out x10_1 p156 q156
            cases e156
            replace hx156_0 := (HB.out.cell (World.block_lt_of_cell? w _ hx156_0)).trans hx156_0
            replace p156 := eq_true p156
            replace q156 := eq_true q156
            go_wp2_with (first | ((with_reducible refine gate_callee (f := 35) rfl ?_); refine goesL_ (some 15) rfl rfl Tryd.func35 (by kernel_rfl) rfl #[.string (rdOf ByteArray.empty l0 x10_1)] rfl (by (try simp only [List.map_toArray, List.map_cons, List.map_nil]); first | done | rfl | (simp only [List.length_drop, List.length_take]; rfl)) ?_; (with_reducible refine (mandolineref07_items.calls k1 (rdOf ByteArray.empty l0 x10_1) t157 _ A5.out).mono ?_); rintro e w6 ⟨v158, rfl, ho0, hb⟩; refine ⟨_, rfl, ?_⟩; have n0_ := Aside0.mk (Kd.R_elder' (by (with_reducible repeat (first | apply Kd.R_alloc | apply Kd.R_drewN | apply Kd.R_drew)); exact HO_3.out) (Kd.R_base ho0) hb); have n1_ := Aside0.mk (Kd.R_lower (Kd.R_new' ho0 (Kd.R_lt (by (with_reducible repeat (first | apply Kd.R_alloc | apply Kd.R_drewN | apply Kd.R_drew)); exact HO_3.out))) (below_size (by repeat (first | (with_reducible first | exact HB.out | apply below_alloc | apply pw_below_drewN | apply below_drew1) | exact HB.out)))); have n2_ := Aside0.mk (below_step (by repeat (first | (with_reducible first | exact HB.out | apply below_alloc | apply pw_below_drewN | apply below_drew1) | exact HB.out)) hb); clear HO_3; clear HB; have HO_3 := n0_; have HO159 := n1_; have HB := n2_; clear n0_ n1_ n2_; (try clear hb); (try clear hb2); (try clear hk); (try clear hi); (try clear ho0); obtain ⟨Ao7, co7, eo7⟩ := Kd.R_slice HO159.out; subst eo7))
            go_loopg [3, 17] k1 (fun kq v3 v17 w' => ∃ (x3_2 : List ByteArray) (x17_2 : Int), v17 = .int .i64 x17_2 ∧ Aside0 (mandolineref07_Items.l1 kq x3_2 l0 (l0.length : Int) x10_1 t157 (t157.length : Int) x17_2 = some r) ∧ Aside0 (kq ≤ k1) ∧ Aside0 (Kd.R Kd.string 9 w' w.heap.size (fun k_ => some k_ ≠ ((.slice Ao7 t157.length co7) : Value).ownBlock) v3 x3_2) ∧ Aside0 (Kd.R Kd.string 9 w' w.heap.size (fun k_ => some k_ ≠ (v3 : Value).ownBlock) (.slice Ao7 t157.length co7) t157) ∧ Aside0 (Below w.heap.size w w'))
            case atStart => exact ⟨(x3_1), (0), (by first | rfl | (simp; done) | (simp [*]; done)), H', ⟨Nat.le_refl _⟩, ⟨by (with_reducible repeat (first | apply Kd.R_alloc | apply Kd.R_drewN | apply Kd.R_drew)); exact Kd.R_mono HO_3.out (fun _ hk => hk.2)⟩, ⟨by (with_reducible repeat (first | apply Kd.R_alloc | apply Kd.R_drewN | apply Kd.R_drew)); exact Kd.R_mono HO159.out (fun _ hk => hk.2)⟩, ⟨by repeat (first | (with_reducible first | exact HB.out | apply below_alloc | apply pw_below_drewN | apply below_drew1) | exact HB.out)⟩⟩
            case round =>
              clear H'
              try clear c1
              try clear p1
              try clear q1
              try clear hx1
              try clear c2
              try clear c2b0
              try clear p2
              try clear c3
              try clear c3b0
              try clear c4
              try clear c4b0
              try clear hx156_0
              try clear p156
              try clear q156
              obtain ⟨x3_2, x17_2, rfl, HA, HK2, HO_3, HO_15, HB⟩ := hrel
              cases gk with
              | zero => exact absurd HA.out (by simp [mandolineref07_Items.l1])
              | succ k2 =>
                have H := HA.out
                clear HA
                simp only [mandolineref07_Items.l1] at H
                by_cases c8 : x17_2 < (t157.length : Int)
                · rw [if_pos c8] at H
                  have c8b0 : decide (x17_2 < (t157.length : Int)) = true := decide_eq_true c8
                  clear c8
                  by_cases c9 : 0 ≤ x17_2
                  · rw [if_pos c9] at H
                    have c9b0 : decide (0 ≤ x17_2) = true := decide_eq_true c9
                    clear c9
                    by_cases c10 : x17_2 < (t157.length : Int)
                    · rw [if_pos c10] at H
                      have c10b0 : decide (x17_2 < (t157.length : Int)) = true := decide_eq_true c10
                      clear c10
                      by_cases c11 : (rdOf ByteArray.empty t157 x17_2).toList = ([] : List UInt8)
                      · rw [if_pos c11] at H
                        have c11b0 : ((rdOf ByteArray.empty t157 x17_2).toList == ([] : List UInt8)) = true := beq_iff_eq.mpr c11
                        have c11b1 : ((rdOf ByteArray.empty t157 x17_2).toList != ([] : List UInt8)) = false := bne_eq_false_iff_eq.mpr c11
                        clear c11
                        have H' := Aside0.mk H
                        clear H
                        have p160 : 0 ≤ (x17_2 : Int) := of_decide_eq_true (by first | (with_reducible assumption) | assumption)
                        have q160 : x17_2 < (t157.length : Int) := of_decide_eq_true (by first | (with_reducible assumption) | assumption)
                        obtain ⟨ad160, e160, hx160_0⟩ := Kd.at_string (Kd.R_reads' HO_15.out).2.2 x17_2 p160 q160
                        cases e160
                        replace p160 := eq_true p160
                        replace q160 := eq_true q160
                        go_wp2
                        go_roundg k2
                        case measure => have := HK1.out; have := HK2.out; omega
                        case rel => exact ⟨(x3_2), (wrap64 (x17_2 + 1)), (by first | rfl | (simp; done) | (simp [*]; done)), H', ⟨by have := HK1.out; have := HK2.out; omega⟩, ⟨by (with_reducible repeat (first | apply Kd.R_alloc | apply Kd.R_drewN | apply Kd.R_drew)); exact HO_3.out⟩, ⟨by (with_reducible repeat (first | apply Kd.R_alloc | apply Kd.R_drewN | apply Kd.R_drew)); exact HO_15.out⟩, ⟨by repeat (first | (with_reducible first | exact HB.out | apply below_alloc | apply pw_below_drewN | apply below_drew1) | exact HB.out)⟩⟩
                      · rw [if_neg c11] at H
                        have c11b0 : ((rdOf ByteArray.empty t157 x17_2).toList == ([] : List UInt8)) = false := beq_eq_false_iff_ne.mpr c11
                        have c11b1 : ((rdOf ByteArray.empty t157 x17_2).toList != ([] : List UInt8)) = true := bne_iff_ne.mpr c11
                        by_cases c12 : x3_2.length < 8796093022208
                        · rw [if_pos c12] at H
                          have LMc12 := Aside0.mk c12
                          clear c12
                          obtain ⟨y161, hy161⟩ : ∃ y_ : List ByteArray, y_ = (x3_2 ++ [rdOf ByteArray.empty t157 x17_2]) := ⟨_, rfl⟩
                          replace H : (mandolineref07_Items.l1 k2 y161 l0 (l0.length : Int) x10_1 t157 (t157.length : Int) (wrap64 (x17_2 + 1))) = some r := by first | (rw [hy161]; with_reducible exact H) | (have H2_ := (Option.bind_some _ _).symm.trans H; rw [hy161]; with_reducible exact H2_) | (have H2_ := (Option.bind_some _ _).symm.trans H; with_reducible exact H2_) | with_reducible exact H | (rw [hy161]; exact H) | exact H
                          have Ny161 := Aside0.mk hy161
                          clear hy161
                          have H' := Aside0.mk H
                          clear H
                          have p160 : 0 ≤ (x17_2 : Int) := of_decide_eq_true (by first | (with_reducible assumption) | assumption)
                          have q160 : x17_2 < (t157.length : Int) := of_decide_eq_true (by first | (with_reducible assumption) | assumption)
                          obtain ⟨ad160, e160, hx160_0⟩ := Kd.at_string (Kd.R_reads' HO_15.out).2.2 x17_2 p160 q160
                          cases e160
                          replace p160 := eq_true p160
                          replace q160 := eq_true q160
                          go_wp2_with (first | ((with_reducible refine gate_builtin (b := .append) (xs := #[.tmp 23, .tmp 25]) rfl ?_); at_builtin; refine Kd.R_append Kd.string (w0 := w) w.heap.size rfl (.tmp 23) (.tmp 25) 22 9 (.string ⟨#[]⟩) 16 rfl Tryd.underlying22 info9 rfl (by decide) (by omega) u3 x3_2 (rdOf ByteArray.empty t157 x17_2) [.string (rdOf ByteArray.empty t157 x17_2)] (fun k_ => some k_ ≠ (.slice (some ad160) t157.length co7 : Value).ownBlock) (fun _ => False) rfl rfl ?aP (fun _ hk => hk.elim) ?aF ?aO ?aB ?aS ?aL ?_; (case aP => exact rfl); (case aB => exact (by repeat (first | (with_reducible first | exact HB.out | apply below_alloc | apply pw_below_drewN | apply below_drew1) | exact HB.out))); (case aF => exact (fun k_ hk => Kd.fresh' (Kd.R_lt (by (with_reducible repeat (first | apply Kd.R_alloc | apply Kd.R_drewN | apply Kd.R_drew)); exact HO_15.out)) k_ hk)); (case aO => exact (by (with_reducible repeat (first | apply Kd.R_alloc | apply Kd.R_drewN | apply Kd.R_drew)); exact HO_3.out)); (case aS => exact (below_size (by repeat (first | (with_reducible first | exact HB.out | apply below_alloc | apply pw_below_drewN | apply below_drew1) | exact HB.out)))); (case aL => have := LMc12.out; omega); intro v162 w13 ho hb hg hat; rw [← Ny161.out] at ho; have n0_ := Aside0.mk (Kd.R_after (ok := (fun _ => True)) (by (with_reducible repeat (first | apply Kd.R_alloc | apply Kd.R_drewN | apply Kd.R_drew)); exact Kd.R_mono HO_15.out (fun _ hk => ⟨trivial, hk⟩)) hg hat); have n1_ := Aside0.mk (hb); have n2_ := Aside0.mk (ho); clear HO_15; clear HB; clear HO_3; have HO_15 := n0_; have HB := n1_; have HO163 := n2_; clear n0_ n1_ n2_; clear ho hb hg hat))
                          go_roundg k2
                          case measure => have := HK1.out; have := HK2.out; omega
                          case rel => exact ⟨(y161), (wrap64 (x17_2 + 1)), (by first | rfl | (simp; done) | (simp [*]; done)), H', ⟨by have := HK1.out; have := HK2.out; omega⟩, ⟨by (with_reducible repeat (first | apply Kd.R_alloc | apply Kd.R_drewN | apply Kd.R_drew)); exact HO163.out⟩, ⟨by (with_reducible repeat (first | apply Kd.R_alloc | apply Kd.R_drewN | apply Kd.R_drew)); exact Kd.R_mono HO_15.out (fun _ hk => hk.2)⟩, ⟨by repeat (first | (with_reducible first | exact HB.out | apply below_alloc | apply pw_below_drewN | apply below_drew1) | exact HB.out)⟩⟩
                        · rw [if_neg c12] at H
                          exact absurd H (by simp)
                    · rw [if_neg c10] at H
                      exact absurd H (by simp)
                  · rw [if_neg c9] at H
                    exact absurd H (by simp)
                · rw [if_neg c8] at H
                  have c8b0 : decide (x17_2 < (t157.length : Int)) = false := decide_eq_false c8
                  clear c8
                  have H' := Aside0.mk H
                  clear H
                  go_wp2
                  go_roundg k2
                  case measure => have := HK1.out; have := HK2.out; omega
                  case rel => exact ⟨(x3_2), (wrap64 (x10_1 + 1)), (by first | rfl | (simp; done) | (simp [*]; done)), H', ⟨by have := HK1.out; have := HK2.out; omega⟩, ⟨by (with_reducible repeat (first | apply Kd.R_alloc | apply Kd.R_drewN | apply Kd.R_drew)); exact Kd.R_mono HO_3.out (fun _ hk => trivial)⟩, ⟨by repeat (first | (with_reducible first | exact HB.out | apply below_alloc | apply pw_below_drewN | apply below_drew1) | exact HB.out)⟩⟩
          · rw [if_neg c4] at H
            exact absurd H (by simp)
        · rw [if_neg c3] at H
          exact absurd H (by simp)
      · rw [if_neg c2] at H
        have c2b0 : decide (x10_1 < (l0.length : Int)) = false := decide_eq_false c2
        clear c2
        obtain rfl := Option.some.inj H
        go_wp2
        go_ret
        exact ⟨_, by first | rfl | (simp [errW_none, errW_some] <;> rfl) | (simp [*, errW_none, errW_some] <;> rfl), by (with_reducible repeat (first | apply Kd.R_alloc | apply Kd.R_drewN | apply Kd.R_drew)); exact HO_3.out, by repeat (first | (with_reducible first | exact HB.out | apply below_alloc | apply pw_below_drewN | apply below_drew1) | exact HB.out)⟩

/-! ### mandolinelaw07_FieldItems: function 3 -/
/-- FieldItems' closure: how often it was asked. -/
def mandolinelaw07_FieldItems.At (w0 : World) (ba bs : Nat) (sm n : Int) (w : World) : Prop := w.heap[ba]? = some (.cells #[.int .i64 n] 3 (0, 0)) ∧ w.heap[bs]? = some (.cells #[.int .i64 sm] 3 (0, 0)) ∧ w0.heap.size ≤ ba ∧ ba ≠ bs ∧ Below w0.heap.size w0 w
theorem mandolinelaw07_FieldItems.At.below {w0 w w' : World} {ba bs : Nat} {sm n : Int} (h : mandolinelaw07_FieldItems.At w0 ba bs sm n w) (hb : Below w.heap.size w w') : mandolinelaw07_FieldItems.At w0 ba bs sm n w' := by
  obtain ⟨h1, h2, h3, h4, h5⟩ := h
  exact ⟨(hb.block ba (blk_lt h1)).trans h1, (hb.block bs (blk_lt h2)).trans h2, h3, h4, below_step h5 hb⟩
theorem mandolinelaw07_FieldItems.At.drawn {w0 w w' : World} {ba bs : Nat} {sm n : Int} (h : mandolinelaw07_FieldItems.At w0 ba bs sm n w) (hd : Drawn0 w w') : mandolinelaw07_FieldItems.At w0 ba bs sm n w' := by
  obtain ⟨⟨m, rfl⟩⟩ := hd
  exact h.below (pw_below_drewN (Below.refl _ _) m)
theorem mandolinelaw07_FieldItems.At.bel {w0 w : World} {ba bs : Nat} {sm n : Int} (h : mandolinelaw07_FieldItems.At w0 ba bs sm n w) : Below w0.heap.size w0 w := h.2.2.2.2
def mandolinelaw07_FieldItems.st (sm : Int) (n : Int) (x : ByteArray) : Option (Int × Bool) := if 0 ≤ n ∧ n ≤ 140737488351232 then some (n + 1, decide (n + 1 < sm)) else none
set_option maxHeartbeats 4000000 in
set_option maxRecDepth 100000 in
theorem mandolinelaw07_FieldItems.yields (w0 : World) (ba bs : Nat) (sm n : Int) (x : ByteArray) (r : Int × Bool) (w : World) (hat : mandolinelaw07_FieldItems.At w0 ba bs sm n w) (h : mandolinelaw07_FieldItems.st sm n x = some r) :
    Calls Tryd.prog 17 #[.string x, .pointer (some ⟨ba, 0, none⟩), .pointer (some ⟨bs, 0, none⟩)] w fun e w' => e = .returned (.bool r.2) ∧ mandolinelaw07_FieldItems.At w0 ba bs sm r.1 w' := by
  unfold mandolinelaw07_FieldItems.st at h
  split at h
  rotate_left
  · exact absurd h (by simp)
  rename_i hl
  obtain rfl := Option.some.inj h
  clear h
  obtain ⟨hn0, hn1⟩ := hl
  obtain ⟨h1, h2, h3, h4, h5⟩ := hat
  have c1 : w.cell? ⟨ba, 0, none⟩ = some (.int .i64 n) := blk_cell h1 0
  have f1 : w.frozen? ⟨ba, 0, none⟩ = false := blk_frozen h1 0
  have c2 : w.cell? ⟨bs, 0, none⟩ = some (.int .i64 sm) := blk_cell h2 0
  have hne : ¬ (bs = ba) := fun e => h4 e.symm
  have H1 := Aside0.mk h1
  have H2 := Aside0.mk h2
  have H3 := Aside0.mk h3
  have H4 := Aside0.mk h4
  have H5 := Aside0.mk h5
  clear h1 h2 h3 h4 h5
  go_enter Tryd.func17, Tryd.ntmps17
  go_wp2
  go_ret
  exact ⟨rfl, blk_put H1.out 0 _ rfl, blk_far H2.out hne _, H3.out, H4.out, H5.out.setCell H3.out _⟩
set_option maxHeartbeats 8000000 in
set_option maxRecDepth 100000 in
theorem mandolinelaw07_FieldItems.seq (k : Nat) (A : Option Addr) (c : Nat) (l : List ByteArray) (bv ba bs : Nat) (sm : Int) (y y' : Int) (w0 w : World) (hr : Kd.C Kd.string w0 A l.length l) (hv : w.cell? ⟨bv, 0, none⟩ = some (.slice A l.length c)) (hat : mandolinelaw07_FieldItems.At w0 ba bs sm y w) (h : field_Items.l0 (mandolinelaw07_FieldItems.st sm) k l y = some y') :
    Calls Tryd.prog 37 #[.func (.func 17) #[] #[.pointer (some ⟨ba, 0, none⟩), .pointer (some ⟨bs, 0, none⟩)], .pointer (some ⟨bv, 0, none⟩)] w fun e w' => e = .returned (.tuple #[]) ∧ mandolinelaw07_FieldItems.At w0 ba bs sm y' w' := by
  have HR := Aside0.mk hr
  have HA := Aside0.mk hat
  have HF := Aside0.mk h
  have hlen : (l.length : Int) ≤ 9223372036854775807 := by have := hr.2.1; omega
  have hl0 : (0 : Int) ≤ (l.length : Int) := by omega
  clear hr hat h
  go_enter Tryd.func37, Tryd.ntmps37
  go_wp2
  go_loopg [9] k (fun kq v9 w' => ∃ (j : Nat) (yj : Int), v9 = .int .i64 j ∧ j ≤ l.length ∧ Aside0 (field_Items.l0 (mandolinelaw07_FieldItems.st sm) kq (l.drop j) yj = some y') ∧ Aside0 (mandolinelaw07_FieldItems.At w0 ba bs sm yj w') ∧ Aside0 (kq ≤ k))
  case atStart => exact ⟨0, y, rfl, Nat.zero_le _, by simpa using HF, HA, ⟨Nat.le_refl _⟩⟩
  case round =>
    obtain ⟨j, yj, rfl, hj, HF, HA, HK1⟩ := hrel
    cases gk with
    | zero => exact absurd HF.out (by simp [field_Items.l0])
    | succ k1 =>
      by_cases hlt : j < l.length
      · have H := HF.out
        rw [List.drop_eq_getElem_cons hlt, field_Items.l0] at H
        have HF' := Aside0.mk H
        clear H HF
        obtain ⟨ad, e, hx⟩ := Kd.at_string HR.out (j : Int) (by omega) (by omega)
        cases e
        have hbel := HA.out.bel
        replace hx := (hbel.cell (World.block_lt_of_cell? _ _ hx)).trans hx
        clear hbel
        rw [show rdOf ByteArray.empty l (j : Int) = l[j] by simp [rdOf, List.getD, hlt], Int.toNat_natCast] at hx
        generalize l[j] = s at hx HF'
        have hlt' : ((j : Int) < (l.length : Int)) := by omega
        have hj0 : (0 : Int) ≤ (j : Int) := by omega
        go_wp2
        go_loopg [4] k1 (fun kq v4 w' => ∃ (s1 : ByteArray) (yi : Int), v4 = .string s1 ∧ Aside0 (field_Items.l1 (mandolinelaw07_FieldItems.st sm) kq s1 (l.drop (j + 1)) yi = some y') ∧ Aside0 (mandolinelaw07_FieldItems.At w0 ba bs sm yi w') ∧ Aside0 (kq ≤ k1))
        case atStart => exact ⟨s, yj, rfl, HF', HA, ⟨Nat.le_refl _⟩⟩
        case round =>
          clear HF' HA hx
          obtain ⟨s1, yi, rfl, HF, HA, HK2⟩ := hrel
          cases gk with
          | zero => exact absurd HF.out (by simp [field_Items.l1])
          | succ k2 =>
            have H := HF.out
            clear HF
            rw [field_Items.l1] at H
            by_cases ce : s1.toList = ([] : List UInt8)
            · rw [if_pos ce] at H
              have ce0 : (s1.toList == ([] : List UInt8)) = true := beq_iff_eq.mpr ce
              have ce1 : (s1.toList != ([] : List UInt8)) = false := bne_eq_false_iff_eq.mpr ce
              have HF := Aside0.mk H
              clear H ce
              go_wp2
              go_roundg k2
              case measure => have := HK1.out; have := HK2.out; omega
              case rel => exact ⟨j + 1, yi, by go_num, by omega, HF, HA, ⟨by have := HK1.out; have := HK2.out; omega⟩⟩
            · rw [if_neg ce] at H
              have ce0 : (s1.toList == ([] : List UInt8)) = false := beq_eq_false_iff_ne.mpr ce
              have ce1 : (s1.toList != ([] : List UInt8)) = true := bne_iff_ne.mpr ce
              clear ce
              obtain ⟨n, hn, H⟩ := Option.bind_eq_some_iff.mp H
              have HN := Aside0.mk hn
              clear hn
              by_cases hn01 : 0 ≤ n ∧ n ≤ (s1.size : Int) ∧ (s1.size : Int) ≤ 140737488351232
              · rw [if_pos hn01] at H
                obtain ⟨hn0, hn1, hn2⟩ := hn01
                obtain ⟨item, hi, H⟩ := Option.bind_eq_some_iff.mp H
                have HI := Aside0.mk hi
                clear hi
                by_cases ci : item.toList = ([] : List UInt8)
                · rw [if_pos ci] at H
                  have ci0 : (item.toList == ([] : List UInt8)) = true := beq_iff_eq.mpr ci
                  have ci1 : (item.toList != ([] : List UInt8)) = false := bne_eq_false_iff_eq.mpr ci
                  by_cases hm : n + 1 ≤ (s1.size : Int)
                  · rw [field_Items.rest_some hm] at H
                    have HF := Aside0.mk H
                    clear H ci
                    go_wp2_with (first | (go_at_call 38; (with_reducible refine (field_comma.calls k2 s1 n _ HN.out).mono ?_); rintro e wc ⟨rfl, hd⟩; have HA1 := Aside0.mk (HA.out.drawn hd); clear HA hd) | (go_at_call 39; (with_reducible refine (strings_Trim.calls _ _ item _ HI.out).mono ?_); rintro e wt ⟨rfl, hb⟩; have HA2 := Aside0.mk (HA1.out.below hb); clear HA1 hb))
                    go_roundg k2
                    case measure => have := HK2.out; omega
                    case rel => exact ⟨_, yi, rfl, HF, HA2, ⟨by have := HK2.out; omega⟩⟩
                  · rw [field_Items.rest_none hm] at H
                    have HF := Aside0.mk H
                    clear H ci
                    go_wp2_with (first | (go_at_call 38; (with_reducible refine (field_comma.calls k2 s1 n _ HN.out).mono ?_); rintro e wc ⟨rfl, hd⟩; have HA1 := Aside0.mk (HA.out.drawn hd); clear HA hd) | (go_at_call 39; (with_reducible refine (strings_Trim.calls _ _ item _ HI.out).mono ?_); rintro e wt ⟨rfl, hb⟩; have HA2 := Aside0.mk (HA1.out.below hb); clear HA1 hb))
                    go_roundg k2
                    case measure => have := HK2.out; omega
                    case rel => exact ⟨_, yi, rfl, HF, HA2, ⟨by have := HK2.out; omega⟩⟩
                · rw [if_neg ci] at H
                  have ci0 : (item.toList == ([] : List UInt8)) = false := beq_eq_false_iff_ne.mpr ci
                  have ci1 : (item.toList != ([] : List UInt8)) = true := bne_iff_ne.mpr ci
                  obtain ⟨⟨y1, more⟩, hs, H⟩ := Option.bind_eq_some_iff.mp H
                  have HS := Aside0.mk hs
                  clear hs ci
                  cases more with
                  | true =>
                    rw [if_pos rfl] at H
                    by_cases hm : n + 1 ≤ (s1.size : Int)
                    · rw [field_Items.rest_some hm] at H
                      have HF := Aside0.mk H
                      clear H
                      go_wp2_with (first | (go_at_call 38; (with_reducible refine (field_comma.calls k2 s1 n _ HN.out).mono ?_); rintro e wc ⟨rfl, hd⟩; have HA1 := Aside0.mk (HA.out.drawn hd); clear HA hd) | (go_at_call 39; (with_reducible refine (strings_Trim.calls _ _ item _ HI.out).mono ?_); rintro e wt ⟨rfl, hb⟩; have HA2 := Aside0.mk (HA1.out.below hb); clear HA1 hb) | (go_at_call 17; (with_reducible refine (mandolinelaw07_FieldItems.yields w0 ba bs sm yi item _ _ HA2.out HS.out).mono ?_); rintro e wy ⟨rfl, hy⟩; have HA3 := Aside0.mk hy; clear HA2 hy))
                      go_roundg k2
                      case measure => have := HK2.out; omega
                      case rel => exact ⟨_, y1, rfl, HF, HA3, ⟨by have := HK2.out; omega⟩⟩
                    · rw [field_Items.rest_none hm] at H
                      have HF := Aside0.mk H
                      clear H
                      go_wp2_with (first | (go_at_call 38; (with_reducible refine (field_comma.calls k2 s1 n _ HN.out).mono ?_); rintro e wc ⟨rfl, hd⟩; have HA1 := Aside0.mk (HA.out.drawn hd); clear HA hd) | (go_at_call 39; (with_reducible refine (strings_Trim.calls _ _ item _ HI.out).mono ?_); rintro e wt ⟨rfl, hb⟩; have HA2 := Aside0.mk (HA1.out.below hb); clear HA1 hb) | (go_at_call 17; (with_reducible refine (mandolinelaw07_FieldItems.yields w0 ba bs sm yi item _ _ HA2.out HS.out).mono ?_); rintro e wy ⟨rfl, hy⟩; have HA3 := Aside0.mk hy; clear HA2 hy))
                      go_roundg k2
                      case measure => have := HK2.out; omega
                      case rel => exact ⟨_, y1, rfl, HF, HA3, ⟨by have := HK2.out; omega⟩⟩
                  | false =>
                    rw [if_neg (by simp)] at H
                    obtain rfl := Option.some.inj H
                    clear H
                    by_cases hm : n + 1 ≤ (s1.size : Int)
                    · go_wp2_with (first | (go_at_call 38; (with_reducible refine (field_comma.calls k2 s1 n _ HN.out).mono ?_); rintro e wc ⟨rfl, hd⟩; have HA1 := Aside0.mk (HA.out.drawn hd); clear HA hd) | (go_at_call 39; (with_reducible refine (strings_Trim.calls _ _ item _ HI.out).mono ?_); rintro e wt ⟨rfl, hb⟩; have HA2 := Aside0.mk (HA1.out.below hb); clear HA1 hb) | (go_at_call 17; (with_reducible refine (mandolinelaw07_FieldItems.yields w0 ba bs sm yi item _ _ HA2.out HS.out).mono ?_); rintro e wy ⟨rfl, hy⟩; have HA3 := Aside0.mk hy; clear HA2 hy))
                      refine bodyPost_ret (results_none rfl _ _ _) rfl ?_
                      exact ⟨rfl, HA3.out⟩
                    · go_wp2_with (first | (go_at_call 38; (with_reducible refine (field_comma.calls k2 s1 n _ HN.out).mono ?_); rintro e wc ⟨rfl, hd⟩; have HA1 := Aside0.mk (HA.out.drawn hd); clear HA hd) | (go_at_call 39; (with_reducible refine (strings_Trim.calls _ _ item _ HI.out).mono ?_); rintro e wt ⟨rfl, hb⟩; have HA2 := Aside0.mk (HA1.out.below hb); clear HA1 hb) | (go_at_call 17; (with_reducible refine (mandolinelaw07_FieldItems.yields w0 ba bs sm yi item _ _ HA2.out HS.out).mono ?_); rintro e wy ⟨rfl, hy⟩; have HA3 := Aside0.mk hy; clear HA2 hy))
                      refine bodyPost_ret (results_none rfl _ _ _) rfl ?_
                      exact ⟨rfl, HA3.out⟩
              · rw [if_neg hn01] at H
                exact absurd H (by simp)
      · have hj' : j = l.length := by omega
        have hlt' : ¬ ((j : Int) < (l.length : Int)) := by omega
        have H := HF.out
        rw [hj', List.drop_of_length_le (Nat.le_refl _), field_Items.l0] at H
        obtain rfl := Option.some.inj H
        clear H HF hj'
        go_wp2
        go_end0
        exact ⟨rfl, HA.out⟩
theorem mandolinelaw07_FieldItems.bel {w w' : World} (hd : Drawn0 w w') : Below w.heap.size w w' := by obtain ⟨⟨m, rfl⟩⟩ := hd; exact pw_below_drewN (Below.refl _ _) m
def mandolinelaw07_FieldItems.some_ (a1 : Int) (want : List ByteArray) : Int := wrap64 (1 + a1 % (want.length : Int))
theorem mandolinelaw07_FieldItems.start (w : World) (sm : Int) (v : Value) : mandolinelaw07_FieldItems.At w (w.heap.size + 1) w.heap.size sm 0 (((w.alloc (.cells #[.int .i64 sm] 3)).alloc (.cells #[.int .i64 0] 3)).alloc (.cells #[v] 22)) :=
  ⟨by simp [World.alloc, -World.alloc_eq, Array.getElem?_push, Array.getElem_push], by simp [World.alloc, -World.alloc_eq, Array.getElem?_push, Array.getElem_push]; omega, by omega, by omega, below_alloc (below_alloc (below_alloc (Below.refl _ _) _) _) _⟩
theorem mandolinelaw07_FieldItems.hv (w : World) (o1 o2 : Obj) (v : Value) : (((w.alloc o1).alloc o2).alloc (.cells #[v] 22)).cell? ⟨w.heap.size + 2, 0, none⟩ = some v := by
  have h : (((w.alloc o1).alloc o2).alloc (.cells #[v] 22)).heap[w.heap.size + 2]? = some (.cells #[v] 22 (0, 0)) := by simp [World.alloc, -World.alloc_eq, Array.getElem?_push, Array.getElem_push]
  exact blk_cell h 0
def mandolinelaw07_FieldItems.f (k : Nat) (l0 : List ByteArray) (a1 : Int) : Option (Bool) := (mandolinelaw07_alive.f k).bind fun b => if b = true then (mandolinelaw07_great.f k l0).bind fun g => if g = true then some true else
    (mandolineref07_Items.f k l0).bind fun want => (mandolinelaw07_items.f k l0).bind fun its => (mandolineref07_Texts.f k its want).bind fun t => if t = true then
      (if (want.length : Int) = 0 then some true else if 0 ≤ a1 ∧ a1 ≤ 255 then (field_Items.l0 (mandolinelaw07_FieldItems.st (mandolinelaw07_FieldItems.some_ a1 want)) k l0 0).bind fun n => some (n == mandolinelaw07_FieldItems.some_ a1 want) else none) else some false
  else some false
theorem mandolinelaw07_FieldItems.mono : ∀ a0 a1 k, LeO (mandolinelaw07_FieldItems.f k a0 a1) (mandolinelaw07_FieldItems.f (k + 1) a0 a1) := by
  intro a0 a1 k
  unfold mandolinelaw07_FieldItems.f
  refine LeO.bind (mandolinelaw07_alive.mono k) (fun b => LeO.ite (LeO.bind (mandolinelaw07_great.mono _ k) (fun g => LeO.ite (LeO.refl _) (LeO.bind (mandolineref07_Items.mono _ k) (fun want => LeO.bind (mandolinelaw07_items.mono _ k) (fun its => LeO.bind (mandolineref07_Texts.mono _ _ k) (fun t => LeO.ite (LeO.ite (LeO.refl _) (LeO.ite (LeO.bind ((field_Items.mono_l _ k).1 _ _) (fun n => LeO.refl _)) (LeO.refl _))) (LeO.refl _))))))) (LeO.refl _))
set_option maxHeartbeats 8000000 in
set_option maxRecDepth 100000 in
theorem mandolinelaw07_FieldItems.calls (k : Nat) (A0 : Option Addr) (c0 : Nat) (l0 : List ByteArray) (a1 : Int) (r : Bool) (w : World) (hG : Glob w) (hr0 : Kd.C Kd.string w A0 l0.length l0) (hc0 : l0.length ≤ c0) (h : mandolinelaw07_FieldItems.f k l0 a1 = some r) :
    Calls Tryd.prog 3 #[.slice A0 l0.length c0, .int .u8 a1] w fun e w' => e = .returned (.bool r) ∧ Below w.heap.size w w' := by
  unfold mandolinelaw07_FieldItems.f at h
  have HG := Aside0.mk hG
  have HR := Aside0.mk hr0
  have HC := Aside0.mk hc0
  clear hG hr0 hc0
  obtain ⟨b, hb, h⟩ := Option.bind_eq_some_iff.mp h
  have HA := Aside0.mk hb
  clear hb
  cases b with
  | false =>
    obtain rfl := Option.some.inj ((if_neg (by simp)).symm.trans h)
    clear h
    go_enter Tryd.func3, Tryd.ntmps3
    go_wp2_with (go_at_call 11; refine (mandolinelaw07_alive.calls k _ _ HG.out HA.out).mono ?_; rintro e w1 ⟨rfl, hb⟩; have HB1 := Aside0.mk hb; clear hb)
    go_ret
    exact ⟨rfl, HB1.out⟩
  | true =>
    replace h := (if_pos rfl).symm.trans h
    obtain ⟨g, hg, h⟩ := Option.bind_eq_some_iff.mp h
    have HGR := Aside0.mk hg
    clear hg
    cases g with
    | true =>
      obtain rfl := Option.some.inj ((if_pos rfl).symm.trans h)
      clear h
      go_enter Tryd.func3, Tryd.ntmps3
      go_wp2_with (first | (go_at_call 11; refine (mandolinelaw07_alive.calls k _ _ HG.out HA.out).mono ?_; rintro e w1 ⟨rfl, hb⟩; have HB1 := Aside0.mk hb; clear hb) | (go_at_call 12; refine (mandolinelaw07_great.calls k A0 c0 l0 _ _ (Kd.C_below HR.out HB1.out) HC.out HGR.out).mono ?_; rintro e w2 ⟨rfl, hd⟩; have HB2 := Aside0.mk (below_step HB1.out (mandolinelaw07_FieldItems.bel hd)); clear hd))
      go_ret
      exact ⟨rfl, HB2.out⟩
    | false =>
      replace h := (if_neg (by simp)).symm.trans h
      obtain ⟨want, hw, h⟩ := Option.bind_eq_some_iff.mp h
      obtain ⟨its, hi, h⟩ := Option.bind_eq_some_iff.mp h
      obtain ⟨t, ht, h⟩ := Option.bind_eq_some_iff.mp h
      have HW := Aside0.mk hw
      have HI := Aside0.mk hi
      have HT := Aside0.mk ht
      clear hw hi ht
      cases t with
      | false =>
        obtain rfl := Option.some.inj ((if_neg (by simp)).symm.trans h)
        clear h
        go_enter Tryd.func3, Tryd.ntmps3
        go_wp2_with (first | (go_at_call 11; refine (mandolinelaw07_alive.calls k _ _ HG.out HA.out).mono ?_; rintro e w1 ⟨rfl, hb⟩; have HB1 := Aside0.mk hb; clear hb) | (go_at_call 12; refine (mandolinelaw07_great.calls k A0 c0 l0 _ _ (Kd.C_below HR.out HB1.out) HC.out HGR.out).mono ?_; rintro e w2 ⟨rfl, hd⟩; have HB2 := Aside0.mk (below_step HB1.out (mandolinelaw07_FieldItems.bel hd)); clear hd) | (go_at_call 13; refine (mandolineref07_Items.calls k A0 c0 l0 _ _ (Kd.C_below HR.out HB2.out) HC.out HW.out).mono ?_; rintro e w3 ⟨v3, rfl, ho, hb⟩; obtain ⟨A3, c3, e3, h3, _⟩ := Kd.R_reads ho; subst e3; have HB3 := Aside0.mk (below_step HB2.out hb); have HO3 := Aside0.mk (Kd.R_lower ho HB2.out.size); have HC3 := Aside0.mk h3; clear ho hb h3) | (go_at_call 15; refine (mandolinelaw07_items.calls k A0 c0 l0 _ _ (Kd.C_below HR.out HB3.out) HC.out HI.out).mono ?_; rintro e w4 ⟨v4, rfl, ho, hb⟩; obtain ⟨A4, c4, e4, h4, hr4⟩ := Kd.R_reads ho; subst e4; have HB4 := Aside0.mk (below_step HB3.out hb); have HR3 := Aside0.mk (Kd.C_below (Kd.R_reads' HO3.out).2.2 hb); have HR4 := Aside0.mk hr4; have HC4 := Aside0.mk h4; clear ho hb h4 hr4) | (go_at_call 14; refine (mandolineref07_Texts.calls k A4 c4 its A3 c3 want _ _ HR4.out HC4.out HR3.out HC3.out HT.out).mono ?_; rintro e w5 ⟨rfl, hd⟩; have HB5 := Aside0.mk (below_step HB4.out (mandolinelaw07_FieldItems.bel hd)); clear hd))
        go_ret
        exact ⟨rfl, HB5.out⟩
      | true =>
        replace h := (if_pos rfl).symm.trans h
        by_cases h0 : (want.length : Int) = 0
        · obtain rfl := Option.some.inj ((if_pos h0).symm.trans h)
          clear h
          have h00 : ((want.length : Int) == 0) = true := beq_iff_eq.mpr h0
          clear h0
          go_enter Tryd.func3, Tryd.ntmps3
          go_wp2_with (first | (go_at_call 11; refine (mandolinelaw07_alive.calls k _ _ HG.out HA.out).mono ?_; rintro e w1 ⟨rfl, hb⟩; have HB1 := Aside0.mk hb; clear hb) | (go_at_call 12; refine (mandolinelaw07_great.calls k A0 c0 l0 _ _ (Kd.C_below HR.out HB1.out) HC.out HGR.out).mono ?_; rintro e w2 ⟨rfl, hd⟩; have HB2 := Aside0.mk (below_step HB1.out (mandolinelaw07_FieldItems.bel hd)); clear hd) | (go_at_call 13; refine (mandolineref07_Items.calls k A0 c0 l0 _ _ (Kd.C_below HR.out HB2.out) HC.out HW.out).mono ?_; rintro e w3 ⟨v3, rfl, ho, hb⟩; obtain ⟨A3, c3, e3, h3, _⟩ := Kd.R_reads ho; subst e3; have HB3 := Aside0.mk (below_step HB2.out hb); have HO3 := Aside0.mk (Kd.R_lower ho HB2.out.size); have HC3 := Aside0.mk h3; clear ho hb h3) | (go_at_call 15; refine (mandolinelaw07_items.calls k A0 c0 l0 _ _ (Kd.C_below HR.out HB3.out) HC.out HI.out).mono ?_; rintro e w4 ⟨v4, rfl, ho, hb⟩; obtain ⟨A4, c4, e4, h4, hr4⟩ := Kd.R_reads ho; subst e4; have HB4 := Aside0.mk (below_step HB3.out hb); have HR3 := Aside0.mk (Kd.C_below (Kd.R_reads' HO3.out).2.2 hb); have HR4 := Aside0.mk hr4; have HC4 := Aside0.mk h4; clear ho hb h4 hr4) | (go_at_call 14; refine (mandolineref07_Texts.calls k A4 c4 its A3 c3 want _ _ HR4.out HC4.out HR3.out HC3.out HT.out).mono ?_; rintro e w5 ⟨rfl, hd⟩; have HB5 := Aside0.mk (below_step HB4.out (mandolinelaw07_FieldItems.bel hd)); clear hd))
          go_ret
          exact ⟨rfl, HB5.out⟩
        · replace h := (if_neg h0).symm.trans h
          by_cases ha : 0 ≤ a1 ∧ a1 ≤ 255
          · replace h := (if_pos ha).symm.trans h
            obtain ⟨n, hn, h⟩ := Option.bind_eq_some_iff.mp h
            have hr := Option.some.inj h
            have HN := Aside0.mk hn
            have HRR := Aside0.mk hr
            clear h hn hr
            have h00 : ((want.length : Int) == 0) = false := beq_eq_false_iff_ne.mpr h0
            obtain ⟨ha0, ha1⟩ := ha
            have hw0 : (0 : Int) < (want.length : Int) := by omega
            clear h0
            go_enter Tryd.func3, Tryd.ntmps3
            go_wp2_with (first | (go_at_call 11; refine (mandolinelaw07_alive.calls k _ _ HG.out HA.out).mono ?_; rintro e w1 ⟨rfl, hb⟩; have HB1 := Aside0.mk hb; clear hb) | (go_at_call 12; refine (mandolinelaw07_great.calls k A0 c0 l0 _ _ (Kd.C_below HR.out HB1.out) HC.out HGR.out).mono ?_; rintro e w2 ⟨rfl, hd⟩; have HB2 := Aside0.mk (below_step HB1.out (mandolinelaw07_FieldItems.bel hd)); clear hd) | (go_at_call 13; refine (mandolineref07_Items.calls k A0 c0 l0 _ _ (Kd.C_below HR.out HB2.out) HC.out HW.out).mono ?_; rintro e w3 ⟨v3, rfl, ho, hb⟩; obtain ⟨A3, c3, e3, h3, _⟩ := Kd.R_reads ho; subst e3; have HB3 := Aside0.mk (below_step HB2.out hb); have HO3 := Aside0.mk (Kd.R_lower ho HB2.out.size); have HC3 := Aside0.mk h3; clear ho hb h3) | (go_at_call 15; refine (mandolinelaw07_items.calls k A0 c0 l0 _ _ (Kd.C_below HR.out HB3.out) HC.out HI.out).mono ?_; rintro e w4 ⟨v4, rfl, ho, hb⟩; obtain ⟨A4, c4, e4, h4, hr4⟩ := Kd.R_reads ho; subst e4; have HB4 := Aside0.mk (below_step HB3.out hb); have HR3 := Aside0.mk (Kd.C_below (Kd.R_reads' HO3.out).2.2 hb); have HR4 := Aside0.mk hr4; have HC4 := Aside0.mk h4; clear ho hb h4 hr4) | (go_at_call 14; refine (mandolineref07_Texts.calls k A4 c4 its A3 c3 want _ _ HR4.out HC4.out HR3.out HC3.out HT.out).mono ?_; rintro e w5 ⟨rfl, hd⟩; have HB5 := Aside0.mk (below_step HB4.out (mandolinelaw07_FieldItems.bel hd)); clear hd) | (go_at_call 16; (with_reducible refine (field_Items.mk A0 l0.length c0 _).mono ?_); rintro e wx ⟨rfl, rfl⟩) | (go_at_call 37; refine (mandolinelaw07_FieldItems.seq k A0 c0 l0 (w5.heap.size + 2) (w5.heap.size + 1) w5.heap.size (mandolinelaw07_FieldItems.some_ a1 want) 0 n w5 _ (Kd.C_below HR.out HB5.out) (mandolinelaw07_FieldItems.hv _ _ _ _) (mandolinelaw07_FieldItems.start _ _ _) HN.out).mono ?_; rintro e w6 ⟨rfl, hat⟩; have k1 := blk_cell hat.1 0; have k2 := blk_cell hat.2.1 0; replace k1 : w6.cell? ⟨w5.heap.size + 1, 0, none⟩ = some (.int .i64 n) := k1; replace k2 : w6.cell? ⟨w5.heap.size, 0, none⟩ = some (.int .i64 (mandolinelaw07_FieldItems.some_ a1 want)) := k2; have HB6 := Aside0.mk (below_step HB5.out hat.bel); clear hat))
            go_ret
            exact ⟨by rw [← HRR.out]; rfl, HB6.out⟩
          · exact absurd ((if_neg ha).symm.trans h) (by simp)


end Go.Proofs.YtcdjeofhhhffcaaDoor.X
