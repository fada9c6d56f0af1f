-- Printed by a program of this session (pp.py: the kit's print.py, run with contracts of its own) out of the translation. Not trusted: Lean checks it.
import Derived.Test.YtmapdckelbobiaaDoorX0
namespace Go.Proofs.YtmapdckelbobiaaDoor.X
open Go.RowKit Go.Proofs.YtmapdckelbobiaaDoorW.PrintWords Go.Proofs.YtmapdckelbobiaaDoorW.PrintLast Go.Proofs.YtmapdckelbobiaaDoorW.PrintMore
attribute [local go_sem] max2_int min2_int max_two min_two max_three min_three max_four min_four   -- for this text's walks alone
set_option linter.unusedVariables false
set_option linter.unusedSimpArgs false

/-! ### strings_Trim: function 38 -/
def strings_Trim.f (a0 : ByteArray) (a1 : ByteArray) : Option (ByteArray) := if a0.size ≤ 9223372036854775807 ∧ a1.size < 4294967281 ∧ a1.data.toList.all (fun b => decide (b.toNat < 128)) = true then some ⟨(Lib.trimS a0.data.toList a1.data.toList).toArray⟩ else none
theorem strings_Trim.calls (a0 : ByteArray) (a1 : ByteArray) (r : ByteArray) (w : World) (h : strings_Trim.f a0 a1 = some r) :
    Calls Tryd.prog 38 #[.string a0, .string a1] w fun e w' => e = .returned (.string r) ∧ Below w.heap.size w w' := by
  unfold strings_Trim.f at h
  split at h
  · rename_i hc
    obtain rfl := Option.some.inj h
    exact Any.strings_Trim_laid Tryd.lays160 (by kernel_rfl) a0 a1 w hc.1 hc.2.1 (ascii_of_all hc.2.2)
  · exact absurd h (by simp)

/-! ### control_directives: function 26 -/
def control_directives.l0 : Nat → ByteArray → List ByteArray → Int → Bool → Int → Int → Option (List ByteArray)
  | 0, _, _, _, _, _, _ => none
  | k + 1, x0, x3, x4, x5, x8, x9 => if x9 < x8 then (if 0 ≤ x9 then (if x9 < (x0.size : Int) then (if (bt x0 x9) = 34 then (control_directives.l0 k x0 x3 x4 (!x5) x8 (wrap64 (x9 + 1))) else (if (bt x0 x9) = 44 then (if x5 = true then (control_directives.l0 k x0 x3 x4 x5 x8 (wrap64 (x9 + 1))) else (if 0 ≤ x4 then (if x4 ≤ x9 then (if x9 ≤ (x0.size : Int) then ((strings_Trim.f (x0.extract (x4 : Int).toNat (x9 : Int).toNat) (⟨#[32, 9]⟩ : ByteArray)).bind fun t105 => (if x3.length < 8796093022208 then (control_directives.l0 k x0 (x3 ++ [t105]) (wrap64 (x9 + 1)) x5 x8 (wrap64 (x9 + 1))) else (none))) else (none)) else (none)) else (none))) else (control_directives.l0 k x0 x3 x4 x5 x8 (wrap64 (x9 + 1))))) else (none)) else (none)) else (if 0 ≤ x4 then (if x4 ≤ (x0.size : Int) then ((strings_Trim.f (x0.extract (x4 : Int).toNat x0.size) (⟨#[32, 9]⟩ : ByteArray)).bind fun t101 => (if x3.length < 8796093022208 then (some (x3 ++ [t101])) else (none))) else (none)) else (none))
def control_directives.f (k : Nat) (a0 : ByteArray) : Option (List ByteArray) := control_directives.l0 k a0 ([] : List ByteArray) 0 false (a0.size : Int) 0
theorem control_directives.mono_l : ∀ k, (∀ y0 y1 y2 y3 y4 y5, LeO (control_directives.l0 k y0 y1 y2 y3 y4 y5) (control_directives.l0 (k + 1) y0 y1 y2 y3 y4 y5))
  | 0 => fun _ _ _ _ _ _ r h => by simp [control_directives.l0] at h
  | k + 1 => by
    have ih0 := control_directives.mono_l k
    · intro y0 y1 y2 y3 y4 y5
      unfold control_directives.l0
      repeat' first
      | (with_reducible exact ih0 _ _ _ _ _ _)
      | (with_reducible exact LeO.refl _)
      | (with_reducible exact LeO.none _)
      | (with_reducible refine LeO.ite ?_ ?_)
      | (with_reducible refine LeO.bind ?_ (fun _ => ?_))
      | exact ih0 _ _ _ _ _ _
      | exact LeO.none _
      | refine LeO.ite ?_ ?_
      | refine LeO.bind ?_ (fun _ => ?_)
theorem control_directives.mono : ∀ a0 k, LeO (control_directives.f k a0) (control_directives.f (k + 1) a0) := by
  intro a0 k
  have ih0 := control_directives.mono_l k
  unfold control_directives.f
  repeat' first
      | (with_reducible exact ih0 _ _ _ _ _ _)
      | (with_reducible exact LeO.refl _)
      | (with_reducible exact LeO.none _)
      | (with_reducible refine LeO.ite ?_ ?_)
      | (with_reducible refine LeO.bind ?_ (fun _ => ?_))
      | exact ih0 _ _ _ _ _ _
      | exact LeO.none _
      | refine LeO.ite ?_ ?_
      | refine LeO.bind ?_ (fun _ => ?_)
set_option maxHeartbeats 8000000 in
set_option maxRecDepth 100000 in
theorem control_directives.calls (k : Nat) (a0 : ByteArray) (r : List ByteArray) (w : World) (h : control_directives.f k a0 = some r) :
    Calls Tryd.prog 26 #[.string a0] w fun e w' => ∃ v0_ : Value, e = .returned (v0_) ∧ Kd.R Kd.string 9 w' w.heap.size (fun _ => True) v0_ r ∧ Below w.heap.size w w' := by
  have HB := Aside0.mk (Below.refl w.heap.size w)
  have H : (control_directives.l0 k a0 ([] : List ByteArray) 0 false (a0.size : Int) 0) = some r := h
  clear h
  have H' := Aside0.mk H
  clear H
  go_enter Tryd.func26, Tryd.ntmps26
  go_wp2
  go_loopg [3, 4, 5, 9] k (fun kq v3 v4 v5 v9 w' => ∃ (x3_1 : List ByteArray) (x4_1 : Int) (x5_1 : Bool) (x9_1 : Int), v4 = .int .i64 x4_1 ∧ v5 = .bool x5_1 ∧ v9 = .int .i64 x9_1 ∧ Aside0 (control_directives.l0 kq a0 x3_1 x4_1 x5_1 (a0.size : Int) x9_1 = some r) ∧ Aside0 (kq ≤ k) ∧ Aside0 (Kd.R Kd.string 9 w' w.heap.size (fun _ => True) v3 x3_1) ∧ Aside0 (Below w.heap.size w w'))
  case atStart => exact ⟨(([] : List ByteArray)), (0), (false), (0), (by first | rfl | (simp; done) | (simp [*]; done)), (by first | rfl | (simp; done) | (simp [*]; done)), (by first | rfl | (simp; done) | (simp [*]; done)), H', ⟨Nat.le_refl _⟩, ⟨by first | exact Kd.R_nil _ _ _ _ _ | exact Kd.N_nil _ _ _ _ _ | exact Kd.V_nil _ _ _ _ _ | exact Kd.Q_nil _ _ _ _ _ | exact Kd.S_nil _ _ _ _ _⟩, ⟨by repeat (first | (with_reducible first | exact HB.out | apply below_alloc | apply pw_below_drewN | apply below_drew1) | exact HB.out)⟩⟩
  case round =>
    clear H'
    obtain ⟨x3_1, x4_1, x5_1, x9_1, rfl, rfl, rfl, HA, HK1, HO_3, HB⟩ := hrel
    cases gk with
    | zero => exact absurd HA.out (by simp [control_directives.l0])
    | succ k1 =>
      have H := HA.out
      clear HA
      simp only [control_directives.l0] at H
      by_cases c2 : x9_1 < (a0.size : Int)
      · rw [if_pos c2] at H
        have c2b0 : decide (x9_1 < (a0.size : Int)) = true := decide_eq_true c2
        clear c2
        by_cases c3 : 0 ≤ x9_1
        · rw [if_pos c3] at H
          have c3b0 : decide (0 ≤ x9_1) = true := decide_eq_true c3
          clear c3
          by_cases c4 : x9_1 < (a0.size : Int)
          · rw [if_pos c4] at H
            have c4b0 : decide (x9_1 < (a0.size : Int)) = true := decide_eq_true c4
            clear c4
            by_cases c6 : (bt a0 x9_1) = 34
            · rw [if_pos c6] at H
              have c6b0 : ((bt a0 x9_1) == 34) = true := beq_iff_eq.mpr c6
              have c6b1 : ((bt a0 x9_1) != 34) = false := bne_eq_false_iff_eq.mpr c6
              clear c6
              have H' := Aside0.mk H
              clear H
              have p5 : 0 ≤ (x9_1 : Int) := of_decide_eq_true (by first | (with_reducible assumption) | assumption)
              have q5 : x9_1 < (a0.size : Int) := of_decide_eq_true (by first | (with_reducible assumption) | assumption)
              have hx5 := bt_at a0 x9_1
              replace p5 := eq_true p5
              replace q5 := eq_true q5
              go_wp2
              go_roundg k1
              case measure => have := HK1.out; omega
              case rel => exact ⟨(x3_1), (x4_1), (!x5_1), (wrap64 (x9_1 + 1)), (by first | rfl | (simp; done) | (simp [*]; done)), (by first | rfl | (simp; done) | (simp [*]; done)), (by first | rfl | (simp; done) | (simp [*]; done)), H', ⟨by have := HK1.out; omega⟩, ⟨by (with_reducible repeat (first | apply Kd.R_alloc | apply Kd.R_drewN | apply Kd.R_drew)); exact HO_3.out⟩, ⟨by repeat (first | (with_reducible first | exact HB.out | apply below_alloc | apply pw_below_drewN | apply below_drew1) | exact HB.out)⟩⟩
            · rw [if_neg c6] at H
              have c6b0 : ((bt a0 x9_1) == 34) = false := beq_eq_false_iff_ne.mpr c6
              have c6b1 : ((bt a0 x9_1) != 34) = true := bne_iff_ne.mpr c6
              by_cases c8 : (bt a0 x9_1) = 44
              · rw [if_pos c8] at H
                have c8b0 : ((bt a0 x9_1) == 44) = true := beq_iff_eq.mpr c8
                have c8b1 : ((bt a0 x9_1) != 44) = false := bne_eq_false_iff_eq.mpr c8
                clear c8
                by_cases c9 : x5_1 = true
                · subst c9
                  have H1 : (control_directives.l0 k1 a0 x3_1 x4_1 true (a0.size : Int) (wrap64 (x9_1 + 1))) = some r := by rw [if_pos rfl] at H; exact H
                  clear H
                  have H := H1
                  clear H1
                  have H' := Aside0.mk H
                  clear H
                  have p5 : 0 ≤ (x9_1 : Int) := of_decide_eq_true (by first | (with_reducible assumption) | assumption)
                  have q5 : x9_1 < (a0.size : Int) := of_decide_eq_true (by first | (with_reducible assumption) | assumption)
                  have hx5 := bt_at a0 x9_1
                  replace p5 := eq_true p5
                  replace q5 := eq_true q5
                  have p7 : 0 ≤ (x9_1 : Int) := of_decide_eq_true (by first | (with_reducible assumption) | assumption)
                  have q7 : x9_1 < (a0.size : Int) := of_decide_eq_true (by first | (with_reducible assumption) | assumption)
                  have hx7 := bt_at a0 x9_1
                  replace p7 := eq_true p7
                  replace q7 := eq_true q7
                  go_wp2
                  go_roundg k1
                  case measure => have := HK1.out; omega
                  case rel => exact ⟨(x3_1), (x4_1), (true), (wrap64 (x9_1 + 1)), (by first | rfl | (simp; done) | (simp [*]; done)), (by first | rfl | (simp; done) | (simp [*]; done)), (by first | rfl | (simp; done) | (simp [*]; done)), H', ⟨by have := HK1.out; omega⟩, ⟨by (with_reducible repeat (first | apply Kd.R_alloc | apply Kd.R_drewN | apply Kd.R_drew)); exact HO_3.out⟩, ⟨by repeat (first | (with_reducible first | exact HB.out | apply below_alloc | apply pw_below_drewN | apply below_drew1) | exact HB.out)⟩⟩
                · replace c9 := Bool.eq_false_iff.mpr c9
                  subst c9
                  have H1 : (if 0 ≤ x4_1 then (if x4_1 ≤ x9_1 then (if x9_1 ≤ (a0.size : Int) then ((strings_Trim.f (a0.extract (x4_1 : Int).toNat (x9_1 : Int).toNat) (⟨#[32, 9]⟩ : ByteArray)).bind fun t105 => (if x3_1.length < 8796093022208 then (control_directives.l0 k1 a0 (x3_1 ++ [t105]) (wrap64 (x9_1 + 1)) false (a0.size : Int) (wrap64 (x9_1 + 1))) else (none))) else (none)) else (none)) else (none)) = some r := by rw [if_neg (show ¬ (false = true) by decide)] at H; exact H
                  clear H
                  have H := H1
                  clear H1
                  by_cases c10 : 0 ≤ x4_1
                  · rw [if_pos c10] at H
                    have c10b0 := eq_true c10
                    have c10b1 : decide (0 ≤ x4_1) = true := decide_eq_true c10
                    clear c10
                    by_cases c11 : x4_1 ≤ x9_1
                    · rw [if_pos c11] at H
                      have c11b0 := eq_true c11
                      have c11b1 : decide (x4_1 ≤ x9_1) = true := decide_eq_true c11
                      clear c11
                      by_cases c12 : x9_1 ≤ (a0.size : Int)
                      · rw [if_pos c12] at H
                        have c12b0 := eq_true c12
                        have c12b1 : decide (x9_1 ≤ (a0.size : Int)) = true := decide_eq_true c12
                        clear c12
                        replace H := Option.bind_eq_some_iff.mp H
                        obtain ⟨t105, A130, H⟩ := H
                        replace H : (if x3_1.length < 8796093022208 then (control_directives.l0 k1 a0 (x3_1 ++ [t105]) (wrap64 (x9_1 + 1)) false (a0.size : Int) (wrap64 (x9_1 + 1))) else (none)) = some r := H
                        have A13 := Aside0.mk A130
                        clear A130
                        by_cases c14 : x3_1.length < 8796093022208
                        · rw [if_pos c14] at H
                          have LMc14 := Aside0.mk c14
                          clear c14
                          obtain ⟨y106, hy106⟩ : ∃ y_ : List ByteArray, y_ = (x3_1 ++ [t105]) := ⟨_, rfl⟩
                          replace H : (control_directives.l0 k1 a0 y106 (wrap64 (x9_1 + 1)) false (a0.size : Int) (wrap64 (x9_1 + 1))) = some r := by first | (rw [hy106]; with_reducible exact H) | (have H2_ := (Option.bind_some _ _).symm.trans H; rw [hy106]; with_reducible exact H2_) | (have H2_ := (Option.bind_some _ _).symm.trans H; with_reducible exact H2_) | with_reducible exact H | (rw [hy106]; exact H) | exact H
                          have Ny106 := Aside0.mk hy106
                          clear hy106
                          have H' := Aside0.mk H
                          clear H
                          have p5 : 0 ≤ (x9_1 : Int) := of_decide_eq_true (by first | (with_reducible assumption) | assumption)
                          have q5 : x9_1 < (a0.size : Int) := of_decide_eq_true (by first | (with_reducible assumption) | assumption)
                          have hx5 := bt_at a0 x9_1
                          replace p5 := eq_true p5
                          replace q5 := eq_true q5
                          have p7 : 0 ≤ (x9_1 : Int) := of_decide_eq_true (by first | (with_reducible assumption) | assumption)
                          have q7 : x9_1 < (a0.size : Int) := of_decide_eq_true (by first | (with_reducible assumption) | assumption)
                          have hx7 := bt_at a0 x9_1
                          replace p7 := eq_true p7
                          replace q7 := eq_true q7
                          go_wp2_with (first | ((with_reducible refine gate_callee (f := 38) rfl ?_); refine goesL_ (some 33) rfl rfl Tryd.func38 (by kernel_rfl) rfl #[.string (a0.extract (x4_1 : Int).toNat (x9_1 : Int).toNat), .string (⟨#[32, 9]⟩ : ByteArray)] rfl (by (try simp only [List.map_toArray, List.map_cons, List.map_nil]); first | done | rfl | (simp only [List.length_drop, List.length_take]; rfl)) ?_; (with_reducible refine (strings_Trim.calls (a0.extract (x4_1 : Int).toNat (x9_1 : Int).toNat) (⟨#[32, 9]⟩ : ByteArray) t105 _ A13.out).mono ?_); rintro e w15 ⟨rfl, hb⟩; refine ⟨_, rfl, ?_⟩; have n0_ := Aside0.mk (Kd.R_below (by (with_reducible repeat (first | apply Kd.R_alloc | apply Kd.R_drewN | apply Kd.R_drew)); exact HO_3.out) hb); have n1_ := Aside0.mk (below_step (by repeat (first | (with_reducible first | exact HB.out | apply below_alloc | apply pw_below_drewN | apply below_drew1) | exact HB.out)) hb); clear HO_3; clear HB; have HO_3 := n0_; have HB := n1_; clear n0_ n1_; (try clear hb); (try clear hb2); (try clear hk); (try clear hi)) | ((with_reducible refine gate_builtin (b := .append) (xs := #[.tmp 28, .tmp 34]) rfl ?_); at_builtin; refine Kd.R_append Kd.string (w0 := w) w.heap.size rfl (.tmp 28) (.tmp 34) 22 9 (.string ⟨#[]⟩) 16 rfl Tryd.underlying22 info9 rfl (by decide) (by omega) u3 x3_1 t105 [.string t105] (fun _ => True) (fun _ => False) rfl rfl ?aP (fun _ hk => hk.elim) ?aF ?aO ?aB ?aS ?aL ?_; (case aP => exact rfl); (case aB => exact (by repeat (first | (with_reducible first | exact HB.out | apply below_alloc | apply pw_below_drewN | apply below_drew1) | exact HB.out))); (case aF => exact (fun _ _ => trivial)); (case aO => exact (by (with_reducible repeat (first | apply Kd.R_alloc | apply Kd.R_drewN | apply Kd.R_drew)); exact HO_3.out)); (case aS => exact (below_size (by repeat (first | (with_reducible first | exact HB.out | apply below_alloc | apply pw_below_drewN | apply below_drew1) | exact HB.out)))); (case aL => have := LMc14.out; omega); intro v107 w16 ho hb hg hat; rw [← Ny106.out] at ho; have n0_ := Aside0.mk (hb); have n1_ := Aside0.mk (ho); clear HB; clear HO_3; have HB := n0_; have HO108 := n1_; clear n0_ n1_; clear ho hb hg hat))
                          go_roundg k1
                          case measure => have := HK1.out; omega
                          case rel => exact ⟨(y106), (wrap64 (x9_1 + 1)), (false), (wrap64 (x9_1 + 1)), (by first | rfl | (simp; done) | (simp [*]; done)), (by first | rfl | (simp; done) | (simp [*]; done)), (by first | rfl | (simp; done) | (simp [*]; done)), H', ⟨by have := HK1.out; omega⟩, ⟨by (with_reducible repeat (first | apply Kd.R_alloc | apply Kd.R_drewN | apply Kd.R_drew)); exact HO108.out⟩, ⟨by repeat (first | (with_reducible first | exact HB.out | apply below_alloc | apply pw_below_drewN | apply below_drew1) | exact HB.out)⟩⟩
                        · rw [if_neg c14] at H
                          exact absurd H (by simp)
                      · rw [if_neg c12] at H
                        exact absurd H (by simp)
                    · rw [if_neg c11] at H
                      exact absurd H (by simp)
                  · rw [if_neg c10] at H
                    exact absurd H (by simp)
              · rw [if_neg c8] at H
                have c8b0 : ((bt a0 x9_1) == 44) = false := beq_eq_false_iff_ne.mpr c8
                have c8b1 : ((bt a0 x9_1) != 44) = true := bne_iff_ne.mpr c8
                have H' := Aside0.mk H
                clear H
                have p5 : 0 ≤ (x9_1 : Int) := of_decide_eq_true (by first | (with_reducible assumption) | assumption)
                have q5 : x9_1 < (a0.size : Int) := of_decide_eq_true (by first | (with_reducible assumption) | assumption)
                have hx5 := bt_at a0 x9_1
                replace p5 := eq_true p5
                replace q5 := eq_true q5
                have p7 : 0 ≤ (x9_1 : Int) := of_decide_eq_true (by first | (with_reducible assumption) | assumption)
                have q7 : x9_1 < (a0.size : Int) := of_decide_eq_true (by first | (with_reducible assumption) | assumption)
                have hx7 := bt_at a0 x9_1
                replace p7 := eq_true p7
                replace q7 := eq_true q7
                go_wp2
                go_roundg k1
                case measure => have := HK1.out; omega
                case rel => exact ⟨(x3_1), (x4_1), (x5_1), (wrap64 (x9_1 + 1)), (by first | rfl | (simp; done) | (simp [*]; done)), (by first | rfl | (simp; done) | (simp [*]; done)), (by first | rfl | (simp; done) | (simp [*]; done)), H', ⟨by have := HK1.out; omega⟩, ⟨by (with_reducible repeat (first | apply Kd.R_alloc | apply Kd.R_drewN | apply Kd.R_drew)); exact HO_3.out⟩, ⟨by repeat (first | (with_reducible first | exact HB.out | apply below_alloc | apply pw_below_drewN | apply below_drew1) | exact HB.out)⟩⟩
          · rw [if_neg c4] at H
            exact absurd H (by simp)
        · rw [if_neg c3] at H
          exact absurd H (by simp)
      · rw [if_neg c2] at H
        have c2b0 : decide (x9_1 < (a0.size : Int)) = false := decide_eq_false c2
        clear c2
        by_cases c17 : 0 ≤ x4_1
        · rw [if_pos c17] at H
          have c17b0 := eq_true c17
          have c17b1 : decide (0 ≤ x4_1) = true := decide_eq_true c17
          clear c17
          by_cases c18 : x4_1 ≤ (a0.size : Int)
          · rw [if_pos c18] at H
            have c18b0 := eq_true c18
            have c18b1 : decide (x4_1 ≤ (a0.size : Int)) = true := decide_eq_true c18
            clear c18
            replace H := Option.bind_eq_some_iff.mp H
            obtain ⟨t101, A190, H⟩ := H
            replace H : (if x3_1.length < 8796093022208 then (some (x3_1 ++ [t101])) else (none)) = some r := H
            have A19 := Aside0.mk A190
            clear A190
            by_cases c20 : x3_1.length < 8796093022208
            · rw [if_pos c20] at H
              have LMc20 := Aside0.mk c20
              clear c20
              obtain ⟨y102, hy102⟩ : ∃ y_ : List ByteArray, y_ = (x3_1 ++ [t101]) := ⟨_, rfl⟩
              replace H : (some y102) = some r := by first | (rw [hy102]; with_reducible exact H) | (have H2_ := (Option.bind_some _ _).symm.trans H; rw [hy102]; with_reducible exact H2_) | (have H2_ := (Option.bind_some _ _).symm.trans H; with_reducible exact H2_) | with_reducible exact H | (rw [hy102]; exact H) | exact H
              have Ny102 := Aside0.mk hy102
              clear hy102
              obtain rfl := Option.some.inj H
              go_wp2_with (first | ((with_reducible refine gate_callee (f := 38) rfl ?_); refine goesL_ (some 43) rfl rfl Tryd.func38 (by kernel_rfl) rfl #[.string (a0.extract (x4_1 : Int).toNat a0.size), .string (⟨#[32, 9]⟩ : ByteArray)] rfl (by (try simp only [List.map_toArray, List.map_cons, List.map_nil]); first | done | rfl | (simp only [List.length_drop, List.length_take]; rfl)) ?_; (with_reducible refine (strings_Trim.calls (a0.extract (x4_1 : Int).toNat a0.size) (⟨#[32, 9]⟩ : ByteArray) t101 _ A19.out).mono ?_); rintro e w21 ⟨rfl, hb⟩; refine ⟨_, rfl, ?_⟩; have n0_ := Aside0.mk (Kd.R_below (by (with_reducible repeat (first | apply Kd.R_alloc | apply Kd.R_drewN | apply Kd.R_drew)); exact HO_3.out) hb); have n1_ := Aside0.mk (below_step (by repeat (first | (with_reducible first | exact HB.out | apply below_alloc | apply pw_below_drewN | apply below_drew1) | exact HB.out)) hb); clear HO_3; clear HB; have HO_3 := n0_; have HB := n1_; clear n0_ n1_; (try clear hb); (try clear hb2); (try clear hk); (try clear hi)) | ((with_reducible refine gate_builtin (b := .append) (xs := #[.tmp 39, .tmp 44]) rfl ?_); at_builtin; refine Kd.R_append Kd.string (w0 := w) w.heap.size rfl (.tmp 39) (.tmp 44) 22 9 (.string ⟨#[]⟩) 16 rfl Tryd.underlying22 info9 rfl (by decide) (by omega) u3 x3_1 t101 [.string t101] (fun _ => True) (fun _ => False) rfl rfl ?aP (fun _ hk => hk.elim) ?aF ?aO ?aB ?aS ?aL ?_; (case aP => exact rfl); (case aB => exact (by repeat (first | (with_reducible first | exact HB.out | apply below_alloc | apply pw_below_drewN | apply below_drew1) | exact HB.out))); (case aF => exact (fun _ _ => trivial)); (case aO => exact (by (with_reducible repeat (first | apply Kd.R_alloc | apply Kd.R_drewN | apply Kd.R_drew)); exact HO_3.out)); (case aS => exact (below_size (by repeat (first | (with_reducible first | exact HB.out | apply below_alloc | apply pw_below_drewN | apply below_drew1) | exact HB.out)))); (case aL => have := LMc20.out; omega); intro v103 w22 ho hb hg hat; rw [← Ny102.out] at ho; have n0_ := Aside0.mk (hb); have n1_ := Aside0.mk (ho); clear HB; clear HO_3; have HB := n0_; have HO104 := n1_; clear n0_ n1_; clear ho hb hg hat))
              go_ret
              exact ⟨_, by first | rfl | (simp [errW_none, errW_some] <;> rfl) | (simp [*, errW_none, errW_some] <;> rfl), by (with_reducible repeat (first | apply Kd.R_alloc | apply Kd.R_drewN | apply Kd.R_drew)); exact HO104.out, by repeat (first | (with_reducible first | exact HB.out | apply below_alloc | apply pw_below_drewN | apply below_drew1) | exact HB.out)⟩
            · rw [if_neg c20] at H
              exact absurd H (by simp)
          · rw [if_neg c18] at H
            exact absurd H (by simp)
        · rw [if_neg c17] at H
          exact absurd H (by simp)

/-! ### control_number: function 37 -/
def control_number.l0 : Nat → ByteArray → Int → Int → Int → Option (Int × Bool)
  | 0, _, _, _, _ => none
  | k + 1, x0, x4, x7, x8 => if x8 < x7 then (if 0 ≤ x8 then (if x8 < (x0.size : Int) then (if (bt x0 x8) < 48 then (some (0, false)) else (if (bt x0 x8) > 57 then (some (0, false)) else (control_number.l0 k x0 (mn (wrap64 ((wrap64 (10 * x4)) + (((bt x0 x8) - 48) % 256))) 1099511627776) x7 (wrap64 (x8 + 1))))) else (none)) else (none)) else (some (x4, (x0.toList != ([] : List UInt8))))
def control_number.f (k : Nat) (a0 : ByteArray) : Option (Int × Bool) := control_number.l0 k a0 0 (a0.size : Int) 0
theorem control_number.mono_l : ∀ k, (∀ y0 y1 y2 y3, LeO (control_number.l0 k y0 y1 y2 y3) (control_number.l0 (k + 1) y0 y1 y2 y3))
  | 0 => fun _ _ _ _ r h => by simp [control_number.l0] at h
  | k + 1 => by
    have ih0 := control_number.mono_l k
    · intro y0 y1 y2 y3
      unfold control_number.l0
      repeat' first
      | (with_reducible exact ih0 _ _ _ _)
      | (with_reducible exact LeO.refl _)
      | (with_reducible exact LeO.none _)
      | (with_reducible refine LeO.ite ?_ ?_)
      | (with_reducible refine LeO.bind ?_ (fun _ => ?_))
      | exact ih0 _ _ _ _
      | exact LeO.none _
      | refine LeO.ite ?_ ?_
      | refine LeO.bind ?_ (fun _ => ?_)
theorem control_number.mono : ∀ a0 k, LeO (control_number.f k a0) (control_number.f (k + 1) a0) := by
  intro a0 k
  have ih0 := control_number.mono_l k
  unfold control_number.f
  repeat' first
      | (with_reducible exact ih0 _ _ _ _)
      | (with_reducible exact LeO.refl _)
      | (with_reducible exact LeO.none _)
      | (with_reducible refine LeO.ite ?_ ?_)
      | (with_reducible refine LeO.bind ?_ (fun _ => ?_))
      | exact ih0 _ _ _ _
      | exact LeO.none _
      | refine LeO.ite ?_ ?_
      | refine LeO.bind ?_ (fun _ => ?_)
set_option maxHeartbeats 8000000 in
set_option maxRecDepth 100000 in
theorem control_number.calls (k : Nat) (a0 : ByteArray) (r1 : Int) (r2 : Bool) (w : World) (h : control_number.f k a0 = some (r1, r2)) :
    Calls Tryd.prog 37 #[.string a0] w fun e w' => e = .returned (.tuple #[.int .i64 r1, .bool r2]) ∧ Below w.heap.size w w' := by
  have HB := Aside0.mk (Below.refl w.heap.size w)
  have H : (control_number.l0 k a0 0 (a0.size : Int) 0) = some (r1, r2) := h
  clear h
  have H' := Aside0.mk H
  clear H
  go_enter Tryd.func37, Tryd.ntmps37
  go_wp2
  go_loopg [4, 8] k (fun kq v4 v8 w' => ∃ (x4_1 : Int) (x8_1 : Int), v4 = .int .i64 x4_1 ∧ v8 = .int .i64 x8_1 ∧ Aside0 (control_number.l0 kq a0 x4_1 (a0.size : Int) x8_1 = some (r1, r2)) ∧ Aside0 (kq ≤ k) ∧ Aside0 (Below w.heap.size w w'))
  case atStart => exact ⟨(0), (0), (by first | rfl | (simp; done) | (simp [*]; done)), (by first | rfl | (simp; done) | (simp [*]; done)), H', ⟨Nat.le_refl _⟩, ⟨by repeat (first | (with_reducible first | exact HB.out | apply below_alloc | apply pw_below_drewN | apply below_drew1) | exact HB.out)⟩⟩
  case round =>
    clear H'
    obtain ⟨x4_1, x8_1, rfl, rfl, HA, HK1, HB⟩ := hrel
    cases gk with
    | zero => exact absurd HA.out (by simp [control_number.l0])
    | succ k1 =>
      have H := HA.out
      clear HA
      simp only [control_number.l0] at H
      by_cases c2 : x8_1 < (a0.size : Int)
      · rw [if_pos c2] at H
        have c2b0 : decide (x8_1 < (a0.size : Int)) = true := decide_eq_true c2
        clear c2
        by_cases c3 : 0 ≤ x8_1
        · rw [if_pos c3] at H
          have c3b0 : decide (0 ≤ x8_1) = true := decide_eq_true c3
          clear c3
          by_cases c4 : x8_1 < (a0.size : Int)
          · rw [if_pos c4] at H
            have c4b0 : decide (x8_1 < (a0.size : Int)) = true := decide_eq_true c4
            clear c4
            by_cases c6 : (bt a0 x8_1) < 48
            · rw [if_pos c6] at H
              have c6b0 : decide ((bt a0 x8_1) < 48) = true := decide_eq_true c6
              clear c6
              simp only [Option.some.injEq, Prod.mk.injEq] at H
              obtain ⟨rfl, rfl⟩ := H
              have p5 : 0 ≤ (x8_1 : Int) := of_decide_eq_true (by first | (with_reducible assumption) | assumption)
              have q5 : x8_1 < (a0.size : Int) := of_decide_eq_true (by first | (with_reducible assumption) | assumption)
              have hx5 := bt_at a0 x8_1
              replace p5 := eq_true p5
              replace q5 := eq_true q5
              go_wp2
              go_ret2
              exact ⟨by first | rfl | (rw [show (a0.toList != ([] : List UInt8)) = !a0.toList.isEmpty from by (cases a0.toList <;> simp)]; rfl) | (simp [errW_none, errW_some] <;> rfl) | (simp [*, errW_none, errW_some] <;> rfl), by repeat (first | (with_reducible first | exact HB.out | apply below_alloc | apply pw_below_drewN | apply below_drew1) | exact HB.out)⟩
            · rw [if_neg c6] at H
              have c6b0 : decide ((bt a0 x8_1) < 48) = false := decide_eq_false c6
              clear c6
              by_cases c8 : (bt a0 x8_1) > 57
              · rw [if_pos c8] at H
                have c8b0 : decide (57 < (bt a0 x8_1)) = true := decide_eq_true c8
                clear c8
                simp only [Option.some.injEq, Prod.mk.injEq] at H
                obtain ⟨rfl, rfl⟩ := H
                have p5 : 0 ≤ (x8_1 : Int) := of_decide_eq_true (by first | (with_reducible assumption) | assumption)
                have q5 : x8_1 < (a0.size : Int) := of_decide_eq_true (by first | (with_reducible assumption) | assumption)
                have hx5 := bt_at a0 x8_1
                replace p5 := eq_true p5
                replace q5 := eq_true q5
                have p7 : 0 ≤ (x8_1 : Int) := of_decide_eq_true (by first | (with_reducible assumption) | assumption)
                have q7 : x8_1 < (a0.size : Int) := of_decide_eq_true (by first | (with_reducible assumption) | assumption)
                have hx7 := bt_at a0 x8_1
                replace p7 := eq_true p7
                replace q7 := eq_true q7
                go_wp2
                go_ret2
                exact ⟨by first | rfl | (rw [show (a0.toList != ([] : List UInt8)) = !a0.toList.isEmpty from by (cases a0.toList <;> simp)]; rfl) | (simp [errW_none, errW_some] <;> rfl) | (simp [*, errW_none, errW_some] <;> rfl), by repeat (first | (with_reducible first | exact HB.out | apply below_alloc | apply pw_below_drewN | apply below_drew1) | exact HB.out)⟩
              · rw [if_neg c8] at H
                have c8b0 : decide (57 < (bt a0 x8_1)) = false := decide_eq_false c8
                clear c8
                obtain ⟨ji10, hji10⟩ : ∃ j_ : Int, (mn (wrap64 ((wrap64 (10 * x4_1)) + (((bt a0 x8_1) - 48) % 256))) 1099511627776) = j_ := ⟨_, rfl⟩
                replace H : (control_number.l0 k1 a0 ji10 (a0.size : Int) (wrap64 (x8_1 + 1))) = some (r1, r2) := by first | (rw [hji10] at H; exact H) | (simp only [hji10] at H ⊢; exact H)
                have hji10_ : (if 1099511627776 < (wrap64 ((wrap64 (10 * x4_1)) + (((bt a0 x8_1) - 48) % 256))) then 1099511627776 else (wrap64 ((wrap64 (10 * x4_1)) + (((bt a0 x8_1) - 48) % 256)))) = ji10 := hji10
                have H' := Aside0.mk H
                clear H
                have p5 : 0 ≤ (x8_1 : Int) := of_decide_eq_true (by first | (with_reducible assumption) | assumption)
                have q5 : x8_1 < (a0.size : Int) := of_decide_eq_true (by first | (with_reducible assumption) | assumption)
                have hx5 := bt_at a0 x8_1
                replace p5 := eq_true p5
                replace q5 := eq_true q5
                have p7 : 0 ≤ (x8_1 : Int) := of_decide_eq_true (by first | (with_reducible assumption) | assumption)
                have q7 : x8_1 < (a0.size : Int) := of_decide_eq_true (by first | (with_reducible assumption) | assumption)
                have hx7 := bt_at a0 x8_1
                replace p7 := eq_true p7
                replace q7 := eq_true q7
                have p9 : 0 ≤ (x8_1 : Int) := of_decide_eq_true (by first | (with_reducible assumption) | assumption)
                have q9 : x8_1 < (a0.size : Int) := of_decide_eq_true (by first | (with_reducible assumption) | assumption)
                have hx9 := bt_at a0 x8_1
                replace p9 := eq_true p9
                replace q9 := eq_true q9
                go_wp2
                go_roundg k1
                case measure => have := HK1.out; omega
                case rel => exact ⟨(ji10), (wrap64 (x8_1 + 1)), (by first | rfl | (simp; done) | (simp only [← hji10] <;> (first | rfl | simp)) | (simp [*]; done)), (by first | rfl | (simp; done) | (simp [*]; done)), H', ⟨by have := HK1.out; omega⟩, ⟨by repeat (first | (with_reducible first | exact HB.out | apply below_alloc | apply pw_below_drewN | apply below_drew1) | exact HB.out)⟩⟩
          · rw [if_neg c4] at H
            exact absurd H (by simp)
        · rw [if_neg c3] at H
          exact absurd H (by simp)
      · rw [if_neg c2] at H
        have c2b0 : decide (x8_1 < (a0.size : Int)) = false := decide_eq_false c2
        clear c2
        simp only [Option.some.injEq, Prod.mk.injEq] at H
        obtain ⟨rfl, rfl⟩ := H
        go_wp2
        go_ret2
        exact ⟨by first | rfl | (rw [show (a0.toList != ([] : List UInt8)) = !a0.toList.isEmpty from by (cases a0.toList <;> simp)]; rfl) | (simp [errW_none, errW_some] <;> rfl) | (simp [*, errW_none, errW_some] <;> rfl), by repeat (first | (with_reducible first | exact HB.out | apply below_alloc | apply pw_below_drewN | apply below_drew1) | exact HB.out)⟩

/-! ### strings_Cut: function 41 -/
def strings_Cut.f (a0 : ByteArray) (a1 : ByteArray) : Option (ByteArray × ByteArray × Bool) := if a0.size < 4294967281 then some (⟨(Lib.cut a0.data.toList a1.data.toList).1.toArray⟩, ⟨(Lib.cut a0.data.toList a1.data.toList).2.1.toArray⟩, (Lib.cut a0.data.toList a1.data.toList).2.2) else none
theorem strings_Cut.calls (a0 : ByteArray) (a1 : ByteArray) (r1 : ByteArray) (r2 : ByteArray) (r3 : Bool) (w : World) (hG : Glob w) (h : strings_Cut.f a0 a1 = some (r1, r2, r3)) :
    Calls Tryd.prog 41 #[.string a0, .string a1] w fun e w' => e = .returned (.tuple #[.string r1, .string r2, .bool r3]) ∧ Below w.heap.size w w' := by
  unfold strings_Cut.f at h
  split at h
  · rename_i hc
    obtain ⟨h1, h2⟩ := Prod.mk.inj (Option.some.inj h)
    obtain ⟨h2, h3⟩ := Prod.mk.inj h2
    subst h1 h2 h3
    obtain ⟨m, hm⟩ := hG.maxLen
    exact (Tryd.strings_Cut a0 a1 m w hc hm).mono fun e w' ⟨he, n, hw⟩ => ⟨he, hw ▸ pw_below_drewN (Below.refl _ _) n⟩
  · exact absurd h (by simp)

/-! ### control_low: function 42 -/
def control_low.b (b : UInt8) : UInt8 := if 65 ≤ b.toNat ∧ b.toNat ≤ 90 then b + 32 else b
/-- A row that '[]byte(s)' made: its bytes. -/
def control_low.At (w : World) (g : Nat) (l : List UInt8) : Prop := ∃ (C : Array Value) (m : Nat), w.heap[g]? = some (.cells C 5 (m, m + 1)) ∧ C.size = m ∧ l.length ≤ m ∧ ∀ (j : Nat) (hj : j < l.length), C[j]? = some (.int .u8 (l[j].toNat : Int))
theorem control_low.At.cell {w : World} {g : Nat} {l : List UInt8} (h : control_low.At w g l) (j : Nat) (hj : j < l.length) : w.cell? ⟨g, j, none⟩ = some (.int .u8 (l[j].toNat : Int)) ∧ w.frozen? ⟨g, j, none⟩ = false := by
  obtain ⟨C, m, h1, h2, h3, h4⟩ := h
  exact ⟨(cell_of_row w g j C 5 (m, m + 1) h1).trans (h4 j hj), by simp [World.frozen?, h1]; omega⟩
theorem control_low.At.below {w w' : World} {g : Nat} {l : List UInt8} (h : control_low.At w g l) (hb : Below w.heap.size w w') : control_low.At w' g l := by
  obtain ⟨C, m, h1, h2, h3, h4⟩ := h
  exact ⟨C, m, (hb.block g (blk_lt h1)).trans h1, h2, h3, h4⟩
theorem control_low.At.set {w : World} {g : Nat} {l : List UInt8} (h : control_low.At w g l) (j : Nat) (b : UInt8) : control_low.At (w.setCell ⟨g, j, none⟩ (.int .u8 (b.toNat : Int))) g (l.set j b) := by
  obtain ⟨C, m, h1, h2, h3, h4⟩ := h
  refine ⟨C.setIfInBounds j (.int .u8 (b.toNat : Int)), m, ?_, by simpa using h2, by simpa using h3, ?_⟩
  · simp [World.setCell, Array.getElem?_modify, h1]
  · intro i hi
    rw [List.length_set] at hi
    rw [Array.getElem?_setIfInBounds, List.getElem_set]
    by_cases hij : j = i
    · subst hij
      have : j < C.size := by omega
      simp [this]
    · simp [hij, h4 i hi]
/-- The letters up to j are small, those from j on as they were. -/
def control_low.mid (l : List UInt8) (j : Nat) : List UInt8 := (l.take j).map control_low.b ++ l.drop j
theorem control_low.mid_len (l : List UInt8) (j : Nat) : (control_low.mid l j).length = l.length := by simp [control_low.mid]; omega
theorem control_low.mid_at (l : List UInt8) (j : Nat) (hj : j < l.length) : (control_low.mid l j)[j]'(by rw [control_low.mid_len]; exact hj) = l[j] := by
  unfold control_low.mid
  rw [List.getElem_append_right (by simp; omega)]
  simp [Nat.min_eq_left (Nat.le_of_lt hj)]
theorem control_low.mid_set (l : List UInt8) (j : Nat) (hj : j < l.length) : (control_low.mid l j).set j (control_low.b l[j]) = control_low.mid l (j + 1) := by
  unfold control_low.mid
  have e1 : ((l.take j).map control_low.b).length = j := by simp; omega
  rw [List.set_append_right _ _ (by omega), e1, Nat.sub_self, List.take_succ_eq_append_getElem hj, List.map_append, List.drop_eq_getElem_cons hj, List.set_cons_zero, List.append_assoc]
  rfl
theorem control_low.mid_same (l : List UInt8) (j : Nat) (hj : j < l.length) (h : control_low.b l[j] = l[j]) : control_low.mid l j = control_low.mid l (j + 1) := by
  rw [← control_low.mid_set l j hj, h]
  exact (List.ext_getElem (by simp) (fun i h1 h2 => by
    rw [List.getElem_set]
    by_cases hij : j = i
    · subst hij; simp [control_low.mid_at l j hj]
    · simp [hij]))
def control_low.f (a0 : ByteArray) : Option (ByteArray) := if a0.size ≤ 140737488351232 then some ⟨(a0.data.toList.map control_low.b).toArray⟩ else none
set_option maxHeartbeats 4000000 in
set_option maxRecDepth 100000 in
theorem control_low.calls (a0 : ByteArray) (r : ByteArray) (w : World) (h : control_low.f a0 = some r) :
    Calls Tryd.prog 42 #[.string a0] w fun e w' => e = .returned (.string r) ∧ Below w.heap.size w w' := by
  unfold control_low.f at h
  split at h
  rotate_left
  · exact absurd h (by simp)
  rename_i hs0
  have hr := Option.some.inj h
  have HR := Aside0.mk hr
  clear h hr
  have hs : (a0.size : Int) ≤ 140737488351232 := by omega
  have hs1 : (0 : Int) ≤ (a0.size : Int) := by omega
  have hlen : a0.data.toList.length = a0.size := by simp
  have HLEN := Aside0.mk hlen
  obtain ⟨c, C, hC, hC1, hC2, hconv⟩ : ∃ (c : Nat) (C : Array Value), a0.size ≤ C.size ∧ (∀ (j : Nat) (hj : j < a0.data.toList.length), C[j]? = some (.int .u8 (a0.data.toList[j].toNat : Int))) ∧ True ∧ (convert 9 78 (.string a0)).run Tryd.prog w = .ok (.slice (some ⟨w.heap.size, 0, none⟩) a0.size c) (w.drew.alloc (.cells C 5 (C.size, C.size + 1))) :=
    ⟨_, _, by simp [bytesRow], by intro j hj; have := hj; simp only [hlen] at this; simp [bytesRow, Array.getElem?_append, this], trivial, run_bytes_of_string w 9 78 5 a0 Tryd.underlying9 Tryd.underlying78 Tryd.underlying5⟩
  have HAT := Aside0.mk (show control_low.At (w.alloc (.cells C 5 (C.size, C.size + 1))).drew w.heap.size a0.data.toList from ⟨C, C.size, by simp [World.alloc, World.drew, -World.alloc_eq, -World.drew_eq], rfl, by omega, hC1⟩)
  clear hC hC1 hC2 hs0 hlen
  go_enter Tryd.func42, Tryd.ntmps42
  go_wp2
  go_loopw [10] (fun v9 w' => ∃ j : Nat, v9 = .int .i64 j ∧ j ≤ a0.size ∧ Aside0 (control_low.At w' w.heap.size (control_low.mid a0.data.toList j)) ∧ Aside0 (Below w.heap.size w w')) (fun v9 _ => a0.size - (intOf v9).toNat)
  case atStart => exact ⟨0, rfl, Nat.zero_le _, ⟨by simpa [control_low.mid] using HAT.out⟩, ⟨by repeat (first | exact Below.refl _ _ | apply below_alloc | apply pw_below_drewN | apply below_drew1)⟩⟩
  case round =>
    obtain ⟨j, rfl, hj, HA, HB⟩ := hrel
    by_cases hlt : j < a0.size
    · have hjl : j < a0.data.toList.length := by have := HLEN.out; omega
      have hm := control_low.mid_at a0.data.toList j hjl
      obtain ⟨g1, g2⟩ := HA.out.cell j (by rw [control_low.mid_len]; exact hjl)
      rw [hm] at g1
      have hlt' : ((j : Int) < (a0.size : Int)) := by omega
      have hj0 : (0 : Int) ≤ (j : Int) := by omega
      obtain ⟨b, hb⟩ : ∃ b, b = a0.data.toList[j] := ⟨_, rfl⟩
      rw [← hb] at g1
      have HBB := Aside0.mk hb
      clear hb hm
      have hb1 : (b.toNat : Int) < 256 := by have := b.toNat_lt; omega
      have hb0 : (0 : Int) ≤ (b.toNat : Int) := by omega
      go_wp2
      · refine ⟨⟨j + 1, by go_num, by omega, ?_, ⟨below_set HB.out (Nat.le_refl _)⟩⟩, by simp [intOf]; omega⟩
        have hx : control_low.b b = b + 32 := by unfold control_low.b; rw [if_pos ⟨by omega, by omega⟩]
        have hy : (b.toNat : Int) + 97 - 65 = ((control_low.b b).toNat : Int) := by rw [hx, UInt8.toNat_add]; have : (32 : UInt8).toNat = 32 := rfl; omega
        rw [hy, HBB.out, ← control_low.mid_set a0.data.toList j hjl]
        exact ⟨HA.out.set j _⟩
      · refine ⟨⟨j + 1, by go_num, by omega, ?_, HB⟩, by simp [intOf]; omega⟩
        rw [← control_low.mid_same a0.data.toList j hjl (by rw [← HBB.out]; unfold control_low.b; rw [if_neg (by omega)])]
        exact HA
      · refine ⟨⟨j + 1, by go_num, by omega, ?_, HB⟩, by simp [intOf]; omega⟩
        rw [← control_low.mid_same a0.data.toList j hjl (by rw [← HBB.out]; unfold control_low.b; rw [if_neg (by omega)])]
        exact HA
    · have hj' : j = a0.size := by omega
      have hlt' : ¬ ((j : Int) < (a0.size : Int)) := by omega
      have hfin : control_low.mid a0.data.toList j = a0.data.toList.map control_low.b := by unfold control_low.mid; rw [List.take_of_length_le (by have := HLEN.out; omega), List.drop_of_length_le (by have := HLEN.out; omega), List.append_nil]
      rw [hfin] at HA
      have hback : ∀ wx : World, control_low.At wx w.heap.size (a0.data.toList.map control_low.b) → (convert 78 9 (.slice (some ⟨w.heap.size, 0, none⟩) a0.size c)).run Tryd.prog wx = .ok (.string r) wx := by
        intro wx hx
        have := run_convert_bytes_back wx 78 9 5 ⟨w.heap.size, 0, none⟩ c (a0.data.toList.map control_low.b) Tryd.underlying78 Tryd.underlying5 Tryd.underlying9 (fun i hi => by have := (hx.cell i hi).1; rw [Go.WideShapes.add_plain]; simpa using this)
        rw [List.length_map, HLEN.out, HR.out] at this
        exact this
      have hb1 := hback _ HA.out
      clear hback hfin hj'
      go_wp2
      go_ret
      exact ⟨rfl, HB.out⟩


end Go.Proofs.YtmapdckelbobiaaDoor.X
