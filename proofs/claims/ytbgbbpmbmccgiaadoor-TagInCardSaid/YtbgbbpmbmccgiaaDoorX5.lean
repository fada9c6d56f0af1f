-- Printed by a program of this session (pp.py: the kit's print.py, run with contracts of its own) out of the translation. Not trusted: Lean checks it.
import Derived.Test.YtbgbbpmbmccgiaaDoorX0
import Derived.Test.YtbgbbpmbmccgiaaDoorX3
namespace Go.Proofs.YtbgbbpmbmccgiaaDoor.X
open Go.RowKit Go.Proofs.YtbgbbpmbmccgiaaDoorW.PrintWords Go.Proofs.YtbgbbpmbmccgiaaDoorW.PrintLast Go.Proofs.YtbgbbpmbmccgiaaDoorW.PrintMore
attribute [local go_sem] max2_int min2_int max_two min_two max_three min_three max_four min_four   -- for this text's walks alone
set_option linter.unusedVariables false
set_option linter.unusedSimpArgs false

/-! ### tag_parts: function 33 -/
mutual
def tag_parts.l0 : Nat → ByteArray → List ByteArray → Int → Bool → Int → Int → Option (List ByteArray)
  | 0, _, _, _, _, _, _ => none
  | k + 1, x0, x3, x4, x5, x10, x11 => if x11 < x10 then (if x11 < (x0.size : Int) then (if 0 ≤ x11 then (tag_parts.j1 k x0 x3 x4 x5 x11 x10 x11 ((bt x0 x11) == 34)) else (none)) else (tag_parts.j1 k x0 x3 x4 x5 x11 x10 x11 false)) else (some x3)
def tag_parts.j1 : Nat → ByteArray → List ByteArray → Int → Bool → Int → Int → Int → Bool → Option (List ByteArray)
  | 0, _, _, _, _, _, _, _, _ => none
  | k + 1, x0, x3, x4, x5, x6, x10, x11, x23 => if x23 = true then (tag_parts.j2 k x0 x3 x4 (!x5) x6 x10 x11) else (tag_parts.j2 k x0 x3 x4 x5 x6 x10 x11)
def tag_parts.j2 : Nat → ByteArray → List ByteArray → Int → Bool → Int → Int → Int → Option (List ByteArray)
  | 0, _, _, _, _, _, _, _ => none
  | k + 1, x0, x3, x4, x5, x6, x10, x11 => if x6 < (x0.size : Int) then (if x5 = true then (tag_parts.j3 k x0 x3 x4 x5 x6 x10 x11 true) else (if 0 ≤ x6 then (tag_parts.j3 k x0 x3 x4 x5 x6 x10 x11 ((bt x0 x6) != 44)) else (none))) else (tag_parts.j3 k x0 x3 x4 x5 x6 x10 x11 false)
def tag_parts.j3 : Nat → ByteArray → List ByteArray → Int → Bool → Int → Int → Int → Bool → Option (List ByteArray)
  | 0, _, _, _, _, _, _, _, _ => none
  | k + 1, x0, x3, x4, x5, x6, x10, x11, x38 => if x38 = true then (tag_parts.l0 k x0 x3 x4 x5 x10 (wrap64 (x11 + 1))) else (if 0 ≤ x4 then (if x4 ≤ x6 then (if x6 ≤ (x0.size : Int) then ((strings_Trim.f (x0.extract (x4 : Int).toNat (x6 : Int).toNat) (⟨#[32, 9]⟩ : ByteArray)).bind fun t120 => (if t120.toList = ([] : List UInt8) then (tag_parts.l0 k x0 x3 (wrap64 (x6 + 1)) x5 x10 (wrap64 (x11 + 1))) else (if x3.length < 8796093022208 then (tag_parts.l0 k x0 (x3 ++ [t120]) (wrap64 (x6 + 1)) x5 x10 (wrap64 (x11 + 1))) else (none)))) else (none)) else (none)) else (none))
end
def tag_parts.f (k : Nat) (a0 : ByteArray) : Option (List ByteArray) := tag_parts.l0 k a0 ([] : List ByteArray) 0 false (wrap64 ((a0.size : Int) + 1)) 0
theorem tag_parts.mono_l : ∀ k, (∀ y0 y1 y2 y3 y4 y5, LeO (tag_parts.l0 k y0 y1 y2 y3 y4 y5) (tag_parts.l0 (k + 1) y0 y1 y2 y3 y4 y5)) ∧ (∀ y0 y1 y2 y3 y4 y5 y6 y7, LeO (tag_parts.j1 k y0 y1 y2 y3 y4 y5 y6 y7) (tag_parts.j1 (k + 1) y0 y1 y2 y3 y4 y5 y6 y7)) ∧ (∀ y0 y1 y2 y3 y4 y5 y6, LeO (tag_parts.j2 k y0 y1 y2 y3 y4 y5 y6) (tag_parts.j2 (k + 1) y0 y1 y2 y3 y4 y5 y6)) ∧ (∀ y0 y1 y2 y3 y4 y5 y6 y7, LeO (tag_parts.j3 k y0 y1 y2 y3 y4 y5 y6 y7) (tag_parts.j3 (k + 1) y0 y1 y2 y3 y4 y5 y6 y7))
  | 0 => ⟨fun _ _ _ _ _ _ r h => by simp [tag_parts.l0] at h, fun _ _ _ _ _ _ _ _ r h => by simp [tag_parts.j1] at h, fun _ _ _ _ _ _ _ r h => by simp [tag_parts.j2] at h, fun _ _ _ _ _ _ _ _ r h => by simp [tag_parts.j3] at h⟩
  | k + 1 => by
    obtain ⟨ih0, ih1, ih2, ih3⟩ := tag_parts.mono_l k
    refine ⟨?_, ?_, ?_, ?_⟩
    · intro y0 y1 y2 y3 y4 y5
      unfold tag_parts.l0
      repeat' first
      | (with_reducible exact ih0 _ _ _ _ _ _)
      | (with_reducible exact ih1 _ _ _ _ _ _ _ _)
      | (with_reducible exact ih2 _ _ _ _ _ _ _)
      | (with_reducible exact ih3 _ _ _ _ _ _ _ _)
      | (with_reducible exact LeO.refl _)
      | (with_reducible exact LeO.none _)
      | (with_reducible refine LeO.ite ?_ ?_)
      | (with_reducible refine LeO.bind ?_ (fun _ => ?_))
      | exact ih0 _ _ _ _ _ _
      | exact ih1 _ _ _ _ _ _ _ _
      | exact ih2 _ _ _ _ _ _ _
      | exact ih3 _ _ _ _ _ _ _ _
      | exact LeO.none _
      | refine LeO.ite ?_ ?_
      | refine LeO.bind ?_ (fun _ => ?_)
    · intro y0 y1 y2 y3 y4 y5 y6 y7
      unfold tag_parts.j1
      repeat' first
      | (with_reducible exact ih0 _ _ _ _ _ _)
      | (with_reducible exact ih1 _ _ _ _ _ _ _ _)
      | (with_reducible exact ih2 _ _ _ _ _ _ _)
      | (with_reducible exact ih3 _ _ _ _ _ _ _ _)
      | (with_reducible exact LeO.refl _)
      | (with_reducible exact LeO.none _)
      | (with_reducible refine LeO.ite ?_ ?_)
      | (with_reducible refine LeO.bind ?_ (fun _ => ?_))
      | exact ih0 _ _ _ _ _ _
      | exact ih1 _ _ _ _ _ _ _ _
      | exact ih2 _ _ _ _ _ _ _
      | exact ih3 _ _ _ _ _ _ _ _
      | exact LeO.none _
      | refine LeO.ite ?_ ?_
      | refine LeO.bind ?_ (fun _ => ?_)
    · intro y0 y1 y2 y3 y4 y5 y6
      unfold tag_parts.j2
      repeat' first
      | (with_reducible exact ih0 _ _ _ _ _ _)
      | (with_reducible exact ih1 _ _ _ _ _ _ _ _)
      | (with_reducible exact ih2 _ _ _ _ _ _ _)
      | (with_reducible exact ih3 _ _ _ _ _ _ _ _)
      | (with_reducible exact LeO.refl _)
      | (with_reducible exact LeO.none _)
      | (with_reducible refine LeO.ite ?_ ?_)
      | (with_reducible refine LeO.bind ?_ (fun _ => ?_))
      | exact ih0 _ _ _ _ _ _
      | exact ih1 _ _ _ _ _ _ _ _
      | exact ih2 _ _ _ _ _ _ _
      | exact ih3 _ _ _ _ _ _ _ _
      | exact LeO.none _
      | refine LeO.ite ?_ ?_
      | refine LeO.bind ?_ (fun _ => ?_)
    · intro y0 y1 y2 y3 y4 y5 y6 y7
      unfold tag_parts.j3
      repeat' first
      | (with_reducible exact ih0 _ _ _ _ _ _)
      | (with_reducible exact ih1 _ _ _ _ _ _ _ _)
      | (with_reducible exact ih2 _ _ _ _ _ _ _)
      | (with_reducible exact ih3 _ _ _ _ _ _ _ _)
      | (with_reducible exact LeO.refl _)
      | (with_reducible exact LeO.none _)
      | (with_reducible refine LeO.ite ?_ ?_)
      | (with_reducible refine LeO.bind ?_ (fun _ => ?_))
      | exact ih0 _ _ _ _ _ _
      | exact ih1 _ _ _ _ _ _ _ _
      | exact ih2 _ _ _ _ _ _ _
      | exact ih3 _ _ _ _ _ _ _ _
      | exact LeO.none _
      | refine LeO.ite ?_ ?_
      | refine LeO.bind ?_ (fun _ => ?_)
theorem tag_parts.mono : ∀ a0 k, LeO (tag_parts.f k a0) (tag_parts.f (k + 1) a0) := by
  intro a0 k
  obtain ⟨ih0, ih1, ih2, ih3⟩ := tag_parts.mono_l k
  unfold tag_parts.f
  repeat' first
      | (with_reducible exact ih0 _ _ _ _ _ _)
      | (with_reducible exact ih1 _ _ _ _ _ _ _ _)
      | (with_reducible exact ih2 _ _ _ _ _ _ _)
      | (with_reducible exact ih3 _ _ _ _ _ _ _ _)
      | (with_reducible exact LeO.refl _)
      | (with_reducible exact LeO.none _)
      | (with_reducible refine LeO.ite ?_ ?_)
      | (with_reducible refine LeO.bind ?_ (fun _ => ?_))
      | exact ih0 _ _ _ _ _ _
      | exact ih1 _ _ _ _ _ _ _ _
      | exact ih2 _ _ _ _ _ _ _
      | exact ih3 _ _ _ _ _ _ _ _
      | exact LeO.none _
      | refine LeO.ite ?_ ?_
      | refine LeO.bind ?_ (fun _ => ?_)
set_option maxHeartbeats 8000000 in
set_option maxRecDepth 100000 in
theorem tag_parts.calls (k : Nat) (a0 : ByteArray) (r : List ByteArray) (w : World) (h : tag_parts.f k a0 = some r) :
    Calls Tryd.prog 33 #[.string a0] w fun e w' => ∃ v0_ : Value, e = .returned (v0_) ∧ Kd.R Kd.string 9 w' w.heap.size (fun _ => True) v0_ r ∧ Below w.heap.size w w' := by
  have HB := Aside0.mk (Below.refl w.heap.size w)
  have H : (tag_parts.l0 k a0 ([] : List ByteArray) 0 false (wrap64 ((a0.size : Int) + 1)) 0) = some r := h
  clear h
  have H' := Aside0.mk H
  clear H
  go_enter Tryd.func33, Tryd.ntmps33
  go_wp2
  go_loopg [3, 4, 5, 11] k (fun kq v3 v4 v5 v11 w' => ∃ (x3_1 : List ByteArray) (x4_1 : Int) (x5_1 : Bool) (x11_1 : Int), v4 = .int .i64 x4_1 ∧ v5 = .bool x5_1 ∧ v11 = .int .i64 x11_1 ∧ Aside0 (tag_parts.l0 kq a0 x3_1 x4_1 x5_1 (wrap64 ((a0.size : Int) + 1)) x11_1 = some r) ∧ Aside0 (kq ≤ k) ∧ Aside0 (Kd.R Kd.string 9 w' w.heap.size (fun _ => True) v3 x3_1) ∧ Aside0 (Below w.heap.size w w'))
  case atStart => exact ⟨(([] : List ByteArray)), (0), (false), (0), (by first | rfl | (simp; done) | (simp [*]; done)), (by first | rfl | (simp; done) | (simp [*]; done)), (by first | rfl | (simp; done) | (simp [*]; done)), H', ⟨Nat.le_refl _⟩, ⟨by first | exact Kd.R_nil _ _ _ _ _ | exact Kd.N_nil _ _ _ _ _ | exact Kd.V_nil _ _ _ _ _ | exact Kd.Q_nil _ _ _ _ _ | exact Kd.S_nil _ _ _ _ _⟩, ⟨by repeat (first | (with_reducible first | exact HB.out | apply below_alloc | apply pw_below_drewN | apply below_drew1) | exact HB.out)⟩⟩
  case round =>
    clear H'
    obtain ⟨x3_1, x4_1, x5_1, x11_1, rfl, rfl, rfl, HA, HK1, HO_3, HB⟩ := hrel
    cases gk with
    | zero => exact absurd HA.out (by simp [tag_parts.l0])
    | succ k1 =>
      have H := HA.out
      clear HA
      simp only [tag_parts.l0] at H
      by_cases c2 : x11_1 < (wrap64 ((a0.size : Int) + 1))
      · rw [if_pos c2] at H
        have c2b0 : decide (x11_1 < (wrap64 ((a0.size : Int) + 1))) = true := decide_eq_true c2
        clear c2
        have HC3 := Aside0.mk H
        clear H
        go_upto_region 6 with (fail)
        go_cut [23] (fun v23 wc => ∃ (kq : Nat) (x23_2 : Bool), v23 = .bool x23_2 ∧ Aside0 (tag_parts.j1 kq a0 x3_1 x4_1 x5_1 x11_1 (wrap64 ((a0.size : Int) + 1)) x11_1 x23_2 = some r) ∧ Aside0 (kq ≤ k1) ∧ Aside0 (Kd.R Kd.string 9 wc w.heap.size (fun _ => True) u3 x3_1) ∧ Aside0 (Below w.heap.size w wc))
        case first =>
          have H := HC3.out
          clear HC3
          by_cases c4 : x11_1 < (a0.size : Int)
          · rw [if_pos c4] at H
            have c4b0 : decide (x11_1 < (a0.size : Int)) = true := decide_eq_true c4
            clear c4
            (first | rw [c4b0] | (simp only [i64_w, i32_w]; rw [c4b0]) | skip)
            by_cases c5 : 0 ≤ x11_1
            · rw [if_pos c5] at H
              have c5b0 : decide (0 ≤ x11_1) = true := decide_eq_true c5
              clear c5
              have H' := Aside0.mk H
              clear H
              have p6 : 0 ≤ (x11_1 : Int) := of_decide_eq_true (by first | (with_reducible assumption) | assumption)
              have q6 : x11_1 < (a0.size : Int) := of_decide_eq_true (by first | (with_reducible assumption) | assumption)
              have hx6 := bt_at a0 x11_1
              replace p6 := eq_true p6
              replace q6 := eq_true q6
              go_wp2
              go_meet
              case rel => exact ⟨_, (((bt a0 x11_1) == 34)), (by first | rfl | (simp; done) | (simp [*]; done)), H', ⟨by have := HK1.out; first | omega | exact Nat.le_refl _⟩, ⟨by (with_reducible repeat (first | apply Kd.R_alloc | apply Kd.R_drewN | apply Kd.R_drew)); exact HO_3.out⟩, ⟨by repeat (first | (with_reducible first | exact HB.out | apply below_alloc | apply pw_below_drewN | apply below_drew1) | exact HB.out)⟩⟩
            · rw [if_neg c5] at H
              exact absurd H (by simp)
          · rw [if_neg c4] at H
            have c4b0 : decide (x11_1 < (a0.size : Int)) = false := decide_eq_false c4
            clear c4
            (first | rw [c4b0] | (simp only [i64_w, i32_w]; rw [c4b0]) | skip)
            have H' := Aside0.mk H
            clear H
            go_wp2
            go_meet
            case rel => exact ⟨_, (false), (by first | rfl | (simp; done) | (simp [*]; done)), H', ⟨by have := HK1.out; first | omega | exact Nat.le_refl _⟩, ⟨by (with_reducible repeat (first | apply Kd.R_alloc | apply Kd.R_drewN | apply Kd.R_drew)); exact HO_3.out⟩, ⟨by repeat (first | (with_reducible first | exact HB.out | apply below_alloc | apply pw_below_drewN | apply below_drew1) | exact HB.out)⟩⟩
        case rest =>
          clear HC3
          try clear c2
          try clear c2b0
          try clear p2
          try clear c3
          try clear c4
          try clear c4b0
          try clear c5
          try clear c5b0
          try clear p6
          try clear q6
          try clear hx6
          try clear p6
          try clear q6
          obtain ⟨kq, x23_2, rfl, HA, HJ2, HO_3, HB⟩ := hcut
          cases kq with
          | zero => exact absurd HA.out (by simp [tag_parts.j1])
          | succ kj2 =>
            have H := HA.out
            clear HA
            simp only [tag_parts.j1] at H
            have HC7 := Aside0.mk H
            clear H
            go_upto_if 23 with (fail)
            go_cut [5] (fun v5 wc => ∃ (kq : Nat) (x5_6 : Bool), v5 = .bool x5_6 ∧ Aside0 (tag_parts.j2 kq a0 x3_1 x4_1 x5_6 x11_1 (wrap64 ((a0.size : Int) + 1)) x11_1 = some r) ∧ Aside0 (kq ≤ kj2) ∧ Aside0 (Kd.R Kd.string 9 wc w.heap.size (fun _ => True) u3 x3_1) ∧ Aside0 (Below w.heap.size w wc))
            case first =>
              have H := HC7.out
              clear HC7
              by_cases c8 : x23_2 = true
              · subst c8
                have H1 : (tag_parts.j2 kj2 a0 x3_1 x4_1 (!x5_1) x11_1 (wrap64 ((a0.size : Int) + 1)) x11_1) = some r := by rw [if_pos rfl] at H; exact H
                clear H
                have H := H1
                clear H1
                have H' := Aside0.mk H
                clear H
                go_wp2
                go_meet
                case rel => exact ⟨_, (!x5_1), (by first | rfl | (simp; done) | (simp [*]; done)), H', ⟨by have := HK1.out; have := HJ2.out; first | omega | exact Nat.le_refl _⟩, ⟨by (with_reducible repeat (first | apply Kd.R_alloc | apply Kd.R_drewN | apply Kd.R_drew)); exact HO_3.out⟩, ⟨by repeat (first | (with_reducible first | exact HB.out | apply below_alloc | apply pw_below_drewN | apply below_drew1) | exact HB.out)⟩⟩
              · replace c8 := Bool.eq_false_iff.mpr c8
                subst c8
                have H1 : (tag_parts.j2 kj2 a0 x3_1 x4_1 x5_1 x11_1 (wrap64 ((a0.size : Int) + 1)) x11_1) = some r := by rw [if_neg (show ¬ (false = true) by decide)] at H; exact H
                clear H
                have H := H1
                clear H1
                have H' := Aside0.mk H
                clear H
                go_wp2
                go_meet
                case rel => exact ⟨_, (x5_1), (by first | rfl | (simp; done) | (simp [*]; done)), H', ⟨by have := HK1.out; have := HJ2.out; first | omega | exact Nat.le_refl _⟩, ⟨by (with_reducible repeat (first | apply Kd.R_alloc | apply Kd.R_drewN | apply Kd.R_drew)); exact HO_3.out⟩, ⟨by repeat (first | (with_reducible first | exact HB.out | apply below_alloc | apply pw_below_drewN | apply below_drew1) | exact HB.out)⟩⟩
            case rest =>
              clear HC7
              try clear c2
              try clear c2b0
              try clear p2
              try clear c3
              try clear c4
              try clear c4b0
              try clear c5
              try clear c5b0
              try clear p6
              try clear q6
              try clear hx6
              try clear c8
              try clear p2
              try clear p6
              try clear q6
              obtain ⟨kq, x5_6, rfl, HA, HJ6, HO_3, HB⟩ := hcut
              cases kq with
              | zero => exact absurd HA.out (by simp [tag_parts.j2])
              | succ kj6 =>
                have H := HA.out
                clear HA
                simp only [tag_parts.j2] at H
                have HC9 := Aside0.mk H
                clear H
                go_upto_region 8 with (fail)
                go_cut [38] (fun v38 wc => ∃ (kq : Nat) (x38_8 : Bool), v38 = .bool x38_8 ∧ Aside0 (tag_parts.j3 kq a0 x3_1 x4_1 x5_6 x11_1 (wrap64 ((a0.size : Int) + 1)) x11_1 x38_8 = some r) ∧ Aside0 (kq ≤ kj6) ∧ Aside0 (Kd.R Kd.string 9 wc w.heap.size (fun _ => True) u3 x3_1) ∧ Aside0 (Below w.heap.size w wc))
                case first =>
                  have H := HC9.out
                  clear HC9
                  by_cases c10 : x11_1 < (a0.size : Int)
                  · rw [if_pos c10] at H
                    have c10b0 : decide (x11_1 < (a0.size : Int)) = true := decide_eq_true c10
                    clear c10
                    (first | rw [c10b0] | (simp only [i64_w, i32_w]; rw [c10b0]) | skip)
                    by_cases c11 : x5_6 = true
                    · subst c11
                      have H1 : (tag_parts.j3 kj6 a0 x3_1 x4_1 true x11_1 (wrap64 ((a0.size : Int) + 1)) x11_1 true) = some r := by rw [if_pos rfl] at H; exact H
                      clear H
                      have H := H1
                      clear H1
                      have H' := Aside0.mk H
                      clear H
                      go_wp2
                      go_meet
                      case rel => exact ⟨_, (true), (by first | rfl | (simp; done) | (simp [*]; done)), H', ⟨by have := HK1.out; have := HJ2.out; have := HJ6.out; first | omega | exact Nat.le_refl _⟩, ⟨by (with_reducible repeat (first | apply Kd.R_alloc | apply Kd.R_drewN | apply Kd.R_drew)); exact HO_3.out⟩, ⟨by repeat (first | (with_reducible first | exact HB.out | apply below_alloc | apply pw_below_drewN | apply below_drew1) | exact HB.out)⟩⟩
                    · replace c11 := Bool.eq_false_iff.mpr c11
                      subst c11
                      have H1 : (if 0 ≤ x11_1 then (tag_parts.j3 kj6 a0 x3_1 x4_1 false x11_1 (wrap64 ((a0.size : Int) + 1)) x11_1 ((bt a0 x11_1) != 44)) else (none)) = some r := by rw [if_neg (show ¬ (false = true) by decide)] at H; exact H
                      clear H
                      have H := H1
                      clear H1
                      by_cases c12 : 0 ≤ x11_1
                      · rw [if_pos c12] at H
                        have c12b0 : decide (0 ≤ x11_1) = true := decide_eq_true c12
                        clear c12
                        have H' := Aside0.mk H
                        clear H
                        have p13 : 0 ≤ (x11_1 : Int) := of_decide_eq_true (by first | (with_reducible assumption) | assumption)
                        have q13 : x11_1 < (a0.size : Int) := of_decide_eq_true (by first | (with_reducible assumption) | assumption)
                        have hx13 := bt_at a0 x11_1
                        replace p13 := eq_true p13
                        replace q13 := eq_true q13
                        go_wp2
                        go_meet
                        case rel => exact ⟨_, (((bt a0 x11_1) != 44)), (by first | rfl | (simp; done) | (simp [*]; done)), H', ⟨by have := HK1.out; have := HJ2.out; have := HJ6.out; first | omega | exact Nat.le_refl _⟩, ⟨by (with_reducible repeat (first | apply Kd.R_alloc | apply Kd.R_drewN | apply Kd.R_drew)); exact HO_3.out⟩, ⟨by repeat (first | (with_reducible first | exact HB.out | apply below_alloc | apply pw_below_drewN | apply below_drew1) | exact HB.out)⟩⟩
                      · rw [if_neg c12] at H
                        exact absurd H (by simp)
                  · rw [if_neg c10] at H
                    have c10b0 : decide (x11_1 < (a0.size : Int)) = false := decide_eq_false c10
                    clear c10
                    (first | rw [c10b0] | (simp only [i64_w, i32_w]; rw [c10b0]) | skip)
                    have H' := Aside0.mk H
                    clear H
                    go_wp2
                    go_meet
                    case rel => exact ⟨_, (false), (by first | rfl | (simp; done) | (simp [*]; done)), H', ⟨by have := HK1.out; have := HJ2.out; have := HJ6.out; first | omega | exact Nat.le_refl _⟩, ⟨by (with_reducible repeat (first | apply Kd.R_alloc | apply Kd.R_drewN | apply Kd.R_drew)); exact HO_3.out⟩, ⟨by repeat (first | (with_reducible first | exact HB.out | apply below_alloc | apply pw_below_drewN | apply below_drew1) | exact HB.out)⟩⟩
                case rest =>
                  clear HC9
                  try clear c1
                  try clear p1
                  try clear q1
                  try clear hx1
                  try clear c2
                  try clear c2b0
                  try clear p2
                  try clear c3
                  try clear c4
                  try clear c4b0
                  try clear c5
                  try clear c5b0
                  try clear p6
                  try clear q6
                  try clear hx6
                  try clear c8
                  try clear c10
                  try clear c10b0
                  try clear c11
                  try clear c12
                  try clear c12b0
                  try clear p13
                  try clear q13
                  try clear hx13
                  try clear p13
                  try clear p2
                  try clear p6
                  try clear q13
                  try clear q6
                  obtain ⟨kq, x38_8, rfl, HA, HJ8, HO_3, HB⟩ := hcut
                  cases kq with
                  | zero => exact absurd HA.out (by simp [tag_parts.j3])
                  | succ kj8 =>
                    have H := HA.out
                    clear HA
                    simp only [tag_parts.j3] at H
                    by_cases c14 : x38_8 = true
                    · subst c14
                      have H1 : (tag_parts.l0 kj8 a0 x3_1 x4_1 x5_6 (wrap64 ((a0.size : Int) + 1)) (wrap64 (x11_1 + 1))) = some r := by rw [if_pos rfl] at H; exact H
                      clear H
                      have H := H1
                      clear H1
                      have H' := Aside0.mk H
                      clear H
                      go_wp2
                      go_roundg kj8
                      case measure => have := HK1.out; have := HJ2.out; have := HJ6.out; have := HJ8.out; omega
                      case rel => exact ⟨(x3_1), (x4_1), (x5_6), (wrap64 (x11_1 + 1)), (by first | rfl | (simp; done) | (simp [*]; done)), (by first | rfl | (simp; done) | (simp [*]; done)), (by first | rfl | (simp; done) | (simp [*]; done)), H', ⟨by have := HK1.out; have := HJ2.out; have := HJ6.out; have := HJ8.out; omega⟩, ⟨by (with_reducible repeat (first | apply Kd.R_alloc | apply Kd.R_drewN | apply Kd.R_drew)); exact HO_3.out⟩, ⟨by repeat (first | (with_reducible first | exact HB.out | apply below_alloc | apply pw_below_drewN | apply below_drew1) | exact HB.out)⟩⟩
                    · replace c14 := Bool.eq_false_iff.mpr c14
                      subst c14
                      have H1 : (if 0 ≤ x4_1 then (if x4_1 ≤ x11_1 then (if x11_1 ≤ (a0.size : Int) then ((strings_Trim.f (a0.extract (x4_1 : Int).toNat (x11_1 : Int).toNat) (⟨#[32, 9]⟩ : ByteArray)).bind fun t120 => (if t120.toList = ([] : List UInt8) then (tag_parts.l0 kj8 a0 x3_1 (wrap64 (x11_1 + 1)) x5_6 (wrap64 ((a0.size : Int) + 1)) (wrap64 (x11_1 + 1))) else (if x3_1.length < 8796093022208 then (tag_parts.l0 kj8 a0 (x3_1 ++ [t120]) (wrap64 (x11_1 + 1)) x5_6 (wrap64 ((a0.size : Int) + 1)) (wrap64 (x11_1 + 1))) else (none)))) else (none)) else (none)) else (none)) = some r := by rw [if_neg (show ¬ (false = true) by decide)] at H; exact H
                      clear H
                      have H := H1
                      clear H1
                      by_cases c15 : 0 ≤ x4_1
                      · rw [if_pos c15] at H
                        have c15b0 := eq_true c15
                        have c15b1 : decide (0 ≤ x4_1) = true := decide_eq_true c15
                        clear c15
                        by_cases c16 : x4_1 ≤ x11_1
                        · rw [if_pos c16] at H
                          have c16b0 := eq_true c16
                          have c16b1 : decide (x4_1 ≤ x11_1) = true := decide_eq_true c16
                          clear c16
                          by_cases c17 : x11_1 ≤ (a0.size : Int)
                          · rw [if_pos c17] at H
                            have c17b0 := eq_true c17
                            have c17b1 : decide (x11_1 ≤ (a0.size : Int)) = true := decide_eq_true c17
                            clear c17
                            replace H := Option.bind_eq_some_iff.mp H
                            obtain ⟨t120, A180, H⟩ := H
                            replace H : (if t120.toList = ([] : List UInt8) then (tag_parts.l0 kj8 a0 x3_1 (wrap64 (x11_1 + 1)) x5_6 (wrap64 ((a0.size : Int) + 1)) (wrap64 (x11_1 + 1))) else (if x3_1.length < 8796093022208 then (tag_parts.l0 kj8 a0 (x3_1 ++ [t120]) (wrap64 (x11_1 + 1)) x5_6 (wrap64 ((a0.size : Int) + 1)) (wrap64 (x11_1 + 1))) else (none))) = some r := H
                            have A18 := Aside0.mk A180
                            clear A180
                            by_cases c19 : t120.toList = ([] : List UInt8)
                            · rw [if_pos c19] at H
                              have c19b0 : (t120.toList == ([] : List UInt8)) = true := beq_iff_eq.mpr c19
                              have c19b1 : (t120.toList != ([] : List UInt8)) = false := bne_eq_false_iff_eq.mpr c19
                              clear c19
                              have H' := Aside0.mk H
                              clear H
                              go_wp2_with (first | ((with_reducible refine gate_callee (f := 29) rfl ?_); refine goesL_ (some 43) rfl rfl Tryd.func29 (by kernel_rfl) rfl #[.string (a0.extract (x4_1 : Int).toNat (x11_1 : Int).toNat), .string (⟨#[32, 9]⟩ : ByteArray)] rfl (by (try simp only [List.map_toArray, List.map_cons, List.map_nil]); first | done | rfl | (simp only [List.length_drop, List.length_take]; rfl)) ?_; (with_reducible refine (strings_Trim.calls (a0.extract (x4_1 : Int).toNat (x11_1 : Int).toNat) (⟨#[32, 9]⟩ : ByteArray) t120 _ A18.out).mono ?_); rintro e w20 ⟨rfl, hb⟩; refine ⟨_, rfl, ?_⟩; have n0_ := Aside0.mk (Kd.R_below (by (with_reducible repeat (first | apply Kd.R_alloc | apply Kd.R_drewN | apply Kd.R_drew)); exact HO_3.out) hb); have n1_ := Aside0.mk (below_step (by repeat (first | (with_reducible first | exact HB.out | apply below_alloc | apply pw_below_drewN | apply below_drew1) | exact HB.out)) hb); clear HO_3; clear HB; have HO_3 := n0_; have HB := n1_; clear n0_ n1_; (try clear hb); (try clear hb2); (try clear hk); (try clear hi)))
                              go_roundg kj8
                              case measure => have := HK1.out; have := HJ2.out; have := HJ6.out; have := HJ8.out; omega
                              case rel => exact ⟨(x3_1), (wrap64 (x11_1 + 1)), (x5_6), (wrap64 (x11_1 + 1)), (by first | rfl | (simp; done) | (simp [*]; done)), (by first | rfl | (simp; done) | (simp [*]; done)), (by first | rfl | (simp; done) | (simp [*]; done)), H', ⟨by have := HK1.out; have := HJ2.out; have := HJ6.out; have := HJ8.out; omega⟩, ⟨by (with_reducible repeat (first | apply Kd.R_alloc | apply Kd.R_drewN | apply Kd.R_drew)); exact HO_3.out⟩, ⟨by repeat (first | (with_reducible first | exact HB.out | apply below_alloc | apply pw_below_drewN | apply below_drew1) | exact HB.out)⟩⟩
                            · rw [if_neg c19] at H
                              have c19b0 : (t120.toList == ([] : List UInt8)) = false := beq_eq_false_iff_ne.mpr c19
                              have c19b1 : (t120.toList != ([] : List UInt8)) = true := bne_iff_ne.mpr c19
                              by_cases c21 : x3_1.length < 8796093022208
                              · rw [if_pos c21] at H
                                have LMc21 := Aside0.mk c21
                                clear c21
                                obtain ⟨y121, hy121⟩ : ∃ y_ : List ByteArray, y_ = (x3_1 ++ [t120]) := ⟨_, rfl⟩
                                replace H : (tag_parts.l0 kj8 a0 y121 (wrap64 (x11_1 + 1)) x5_6 (wrap64 ((a0.size : Int) + 1)) (wrap64 (x11_1 + 1))) = some r := by first | (rw [hy121]; with_reducible exact H) | (have H2_ := (Option.bind_some _ _).symm.trans H; rw [hy121]; with_reducible exact H2_) | (have H2_ := (Option.bind_some _ _).symm.trans H; with_reducible exact H2_) | with_reducible exact H | (rw [hy121]; exact H) | exact H
                                have Ny121 := Aside0.mk hy121
                                clear hy121
                                have H' := Aside0.mk H
                                clear H
                                go_wp2_with (first | ((with_reducible refine gate_callee (f := 29) rfl ?_); refine goesL_ (some 43) rfl rfl Tryd.func29 (by kernel_rfl) rfl #[.string (a0.extract (x4_1 : Int).toNat (x11_1 : Int).toNat), .string (⟨#[32, 9]⟩ : ByteArray)] rfl (by (try simp only [List.map_toArray, List.map_cons, List.map_nil]); first | done | rfl | (simp only [List.length_drop, List.length_take]; rfl)) ?_; (with_reducible refine (strings_Trim.calls (a0.extract (x4_1 : Int).toNat (x11_1 : Int).toNat) (⟨#[32, 9]⟩ : ByteArray) t120 _ A18.out).mono ?_); rintro e w22 ⟨rfl, hb⟩; refine ⟨_, rfl, ?_⟩; have n0_ := Aside0.mk (Kd.R_below (by (with_reducible repeat (first | apply Kd.R_alloc | apply Kd.R_drewN | apply Kd.R_drew)); exact HO_3.out) hb); have n1_ := Aside0.mk (below_step (by repeat (first | (with_reducible first | exact HB.out | apply below_alloc | apply pw_below_drewN | apply below_drew1) | exact HB.out)) hb); clear HO_3; clear HB; have HO_3 := n0_; have HB := n1_; clear n0_ n1_; (try clear hb); (try clear hb2); (try clear hk); (try clear hi)) | ((with_reducible refine gate_builtin (b := .append) (xs := #[.tmp 46, .tmp 48]) rfl ?_); at_builtin; refine Kd.R_append Kd.string (w0 := w) w.heap.size rfl (.tmp 46) (.tmp 48) 41 9 (.string ⟨#[]⟩) 16 rfl Tryd.underlying41 info9 rfl (by decide) (by omega) u3 x3_1 t120 [.string t120] (fun _ => True) (fun _ => False) rfl rfl ?aP (fun _ hk => hk.elim) ?aF ?aO ?aB ?aS ?aL ?_; (case aP => exact rfl); (case aB => exact (by repeat (first | (with_reducible first | exact HB.out | apply below_alloc | apply pw_below_drewN | apply below_drew1) | exact HB.out))); (case aF => exact (fun _ _ => trivial)); (case aO => exact (by (with_reducible repeat (first | apply Kd.R_alloc | apply Kd.R_drewN | apply Kd.R_drew)); exact HO_3.out)); (case aS => exact (below_size (by repeat (first | (with_reducible first | exact HB.out | apply below_alloc | apply pw_below_drewN | apply below_drew1) | exact HB.out)))); (case aL => have := LMc21.out; omega); intro v122 w23 ho hb hg hat; rw [← Ny121.out] at ho; have n0_ := Aside0.mk (hb); have n1_ := Aside0.mk (ho); clear HB; clear HO_3; have HB := n0_; have HO123 := n1_; clear n0_ n1_; clear ho hb hg hat))
                                go_roundg kj8
                                case measure => have := HK1.out; have := HJ2.out; have := HJ6.out; have := HJ8.out; omega
                                case rel => exact ⟨(y121), (wrap64 (x11_1 + 1)), (x5_6), (wrap64 (x11_1 + 1)), (by first | rfl | (simp; done) | (simp [*]; done)), (by first | rfl | (simp; done) | (simp [*]; done)), (by first | rfl | (simp; done) | (simp [*]; done)), H', ⟨by have := HK1.out; have := HJ2.out; have := HJ6.out; have := HJ8.out; omega⟩, ⟨by (with_reducible repeat (first | apply Kd.R_alloc | apply Kd.R_drewN | apply Kd.R_drew)); exact HO123.out⟩, ⟨by repeat (first | (with_reducible first | exact HB.out | apply below_alloc | apply pw_below_drewN | apply below_drew1) | exact HB.out)⟩⟩
                              · rw [if_neg c21] at H
                                exact absurd H (by simp)
                          · rw [if_neg c17] at H
                            exact absurd H (by simp)
                        · rw [if_neg c16] at H
                          exact absurd H (by simp)
                      · rw [if_neg c15] at H
                        exact absurd H (by simp)
      · rw [if_neg c2] at H
        have c2b0 : decide (x11_1 < (wrap64 ((a0.size : Int) + 1))) = false := decide_eq_false c2
        clear c2
        obtain rfl := Option.some.inj H
        go_wp2
        go_ret
        exact ⟨_, by first | rfl | (simp [errW_none, errW_some] <;> rfl) | (simp [*, errW_none, errW_some] <;> rfl), by (with_reducible repeat (first | apply Kd.R_alloc | apply Kd.R_drewN | apply Kd.R_drew)); exact HO_3.out, by repeat (first | (with_reducible first | exact HB.out | apply below_alloc | apply pw_below_drewN | apply below_drew1) | exact HB.out)⟩

end Go.Proofs.YtbgbbpmbmccgiaaDoor.X
