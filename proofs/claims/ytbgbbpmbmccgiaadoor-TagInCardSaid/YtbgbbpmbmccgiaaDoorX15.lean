-- Printed by a program of this session (pp.py: the kit's print.py, run with contracts of its own) out of the translation. Not trusted: Lean checks it.
import Derived.Test.YtbgbbpmbmccgiaaDoorX0
import Derived.Test.YtbgbbpmbmccgiaaDoorX10
namespace Go.Proofs.YtbgbbpmbmccgiaaDoor.X
open Go.RowKit Go.Proofs.YtbgbbpmbmccgiaaDoorW.PrintWords Go.Proofs.YtbgbbpmbmccgiaaDoorW.PrintLast Go.Proofs.YtbgbbpmbmccgiaaDoorW.PrintMore
attribute [local go_sem] max2_int min2_int max_two min_two max_three min_three max_four min_four   -- for this text's walks alone
set_option linter.unusedVariables false
set_option linter.unusedSimpArgs false

/-! ### mandolineref05_Great: function 15 -/
def mandolineref05_Great.l0 : Nat → List (S23) → Int → Int → Option (Bool)
  | 0, _, _, _ => none
  | k + 1, x0, x3, x4 => if x4 < (x0.length : Int) then (if x3 ≤ 400 then (if 0 ≤ x4 then (mandolineref05_Great.l0 k x0 (wrap64 ((wrap64 (x3 + 1)) + (((rd_T23 x0 x4).f0).size : Int))) (wrap64 (x4 + 1))) else (none)) else (some (decide (x3 > 400)))) else (some (decide (x3 > 400)))
def mandolineref05_Great.f (k : Nat) (l0 : List (S23)) : Option (Bool) := mandolineref05_Great.l0 k l0 0 0
theorem mandolineref05_Great.mono_l : ∀ k, (∀ y0 y1 y2, LeO (mandolineref05_Great.l0 k y0 y1 y2) (mandolineref05_Great.l0 (k + 1) y0 y1 y2))
  | 0 => fun _ _ _ r h => by simp [mandolineref05_Great.l0] at h
  | k + 1 => by
    have ih0 := mandolineref05_Great.mono_l k
    · intro y0 y1 y2
      unfold mandolineref05_Great.l0
      repeat' first
      | (with_reducible exact ih0 _ _ _)
      | (with_reducible exact LeO.refl _)
      | (with_reducible exact LeO.none _)
      | (with_reducible refine LeO.ite ?_ ?_)
      | (with_reducible refine LeO.bind ?_ (fun _ => ?_))
      | exact ih0 _ _ _
      | exact LeO.none _
      | refine LeO.ite ?_ ?_
      | refine LeO.bind ?_ (fun _ => ?_)
theorem mandolineref05_Great.mono : ∀ a0 k, LeO (mandolineref05_Great.f k a0) (mandolineref05_Great.f (k + 1) a0) := by
  intro a0 k
  have ih0 := mandolineref05_Great.mono_l k
  unfold mandolineref05_Great.f
  repeat' first
      | (with_reducible exact ih0 _ _ _)
      | (with_reducible exact LeO.refl _)
      | (with_reducible exact LeO.none _)
      | (with_reducible refine LeO.ite ?_ ?_)
      | (with_reducible refine LeO.bind ?_ (fun _ => ?_))
      | exact ih0 _ _ _
      | exact LeO.none _
      | refine LeO.ite ?_ ?_
      | refine LeO.bind ?_ (fun _ => ?_)
set_option maxHeartbeats 8000000 in
set_option maxRecDepth 100000 in
theorem mandolineref05_Great.calls (k : Nat) (A0 : Option Addr) (c0 : Nat) (l0 : List (S23)) (r : Bool) (w : World) (hr0 : Kd.C k23 w A0 l0.length l0) (hc0 : l0.length ≤ c0) (h : mandolineref05_Great.f k l0 = some r) :
    Calls Tryd.prog 15 #[.slice A0 l0.length c0] w fun e w' => e = .returned (.bool r) ∧ Drawn0 w w' := by
  have HR0 := Aside0.mk hr0
  have HC0 := Aside0.mk hc0
  clear hr0 hc0
  have H : (mandolineref05_Great.l0 k l0 0 0) = some r := h
  clear h
  have H' := Aside0.mk H
  clear H
  go_enter Tryd.func15, Tryd.ntmps15
  go_wp2
  go_loopg [3, 4] k (fun kq v3 v4 w' => ∃ (x3_1 : Int) (x4_1 : Int), v3 = .int .i64 x3_1 ∧ v4 = .int .i64 x4_1 ∧ Aside0 (mandolineref05_Great.l0 kq l0 x3_1 x4_1 = some r) ∧ Aside0 (kq ≤ k) ∧ Drawn0 w w')
  case atStart => exact ⟨(0), (0), (by first | rfl | (simp; done) | (simp [*]; done)), (by first | rfl | (simp; done) | (simp [*]; done)), H', ⟨Nat.le_refl _⟩, by repeat (first | exact Drawn0.refl _ | apply Drawn0.step)⟩
  case round =>
    clear H'
    try clear c1
    obtain ⟨x3_1, x4_1, rfl, rfl, HA, HK1, ⟨m1, rfl⟩⟩ := hrel
    cases gk with
    | zero => exact absurd HA.out (by simp [mandolineref05_Great.l0])
    | succ k1 =>
      have H := HA.out
      clear HA
      simp only [mandolineref05_Great.l0] at H
      by_cases c2 : x4_1 < (l0.length : Int)
      · rw [if_pos c2] at H
        have c2b0 : decide (x4_1 < (l0.length : Int)) = true := decide_eq_true c2
        clear c2
        by_cases c3 : x3_1 ≤ 400
        · rw [if_pos c3] at H
          have c3b0 : decide (x3_1 ≤ 400) = true := decide_eq_true c3
          clear c3
          by_cases c4 : 0 ≤ x4_1
          · rw [if_pos c4] at H
            have c4b0 : decide (0 ≤ x4_1) = true := decide_eq_true c4
            clear c4
            have H' := Aside0.mk H
            clear H
            have p199 : 0 ≤ (x4_1 : Int) := of_decide_eq_true (by first | (with_reducible assumption) | assumption)
            have q199 : x4_1 < (l0.length : Int) := of_decide_eq_true (by first | (with_reducible assumption) | assumption)
            obtain ⟨ad199, e199, hx199_0, hx199_1⟩ := at_T23 HR0.out x4_1 p199 q199
            cases e199
            replace p199 := eq_true p199
            replace q199 := eq_true q199
            go_wp2
            go_roundg k1
            case measure => have := HK1.out; omega
            case rel => exact ⟨(wrap64 ((wrap64 (x3_1 + 1)) + (((rd_T23 l0 x4_1).f0).size : Int))), (wrap64 (x4_1 + 1)), (by first | rfl | (simp; done) | (simp [*]; done)), (by first | rfl | (simp; done) | (simp [*]; done)), H', ⟨by have := HK1.out; omega⟩, by repeat (first | exact Drawn0.refl _ | apply Drawn0.step)⟩
          · rw [if_neg c4] at H
            exact absurd H (by simp)
        · rw [if_neg c3] at H
          have c3b0 : decide (x3_1 ≤ 400) = false := decide_eq_false c3
          clear c3
          obtain rfl := Option.some.inj H
          go_wp2
          go_ret
          exact ⟨by first | rfl | (simp; done) | (simp [*]; done), by repeat (first | exact Drawn0.refl _ | apply Drawn0.step)⟩
      · rw [if_neg c2] at H
        have c2b0 : decide (x4_1 < (l0.length : Int)) = false := decide_eq_false c2
        clear c2
        obtain rfl := Option.some.inj H
        go_wp2
        go_ret
        exact ⟨by first | rfl | (simp; done) | (simp [*]; done), by repeat (first | exact Drawn0.refl _ | apply Drawn0.step)⟩

/-! ### mandolineref05_Text: function 17 -/
def mandolineref05_Text.f (k : Nat) (a0_0 : ByteArray) (a0_1 : Bool) : Option (ByteArray) := (mandolineref05_Right.f k a0_0 a0_1).bind fun t201 => (if t201 = true then (if a0_1 = true then (if 3 + a0_0.size ≤ 9223372036854775807 then (if 3 + a0_0.size + 1 ≤ 9223372036854775807 then (some (((⟨#[87, 47, 34]⟩ : ByteArray) ++ a0_0) ++ (⟨#[34]⟩ : ByteArray))) else (none)) else (none)) else (if 1 + a0_0.size ≤ 9223372036854775807 then (if 1 + a0_0.size + 1 ≤ 9223372036854775807 then (some (((⟨#[34]⟩ : ByteArray) ++ a0_0) ++ (⟨#[34]⟩ : ByteArray))) else (none)) else (none))) else (some (⟨#[]⟩ : ByteArray)))
theorem mandolineref05_Text.mono : ∀ a0 a1 k, LeO (mandolineref05_Text.f k a0 a1) (mandolineref05_Text.f (k + 1) a0 a1) := by
  intro a0 a1 k
  unfold mandolineref05_Text.f
  repeat' first
      | (with_reducible exact mandolineref05_Right.mono _ _ _)
      | (with_reducible exact LeO.refl _)
      | (with_reducible exact LeO.none _)
      | (with_reducible refine LeO.ite ?_ ?_)
      | (with_reducible refine LeO.bind ?_ (fun _ => ?_))
      | exact mandolineref05_Right.mono _ _ _
      | exact LeO.none _
      | refine LeO.ite ?_ ?_
      | refine LeO.bind ?_ (fun _ => ?_)
set_option maxHeartbeats 8000000 in
set_option maxRecDepth 100000 in
theorem mandolineref05_Text.calls (k : Nat) (a0_0 : ByteArray) (a0_1 : Bool) (r : ByteArray) (w : World) (h : mandolineref05_Text.f k a0_0 a0_1 = some r) :
    Calls Tryd.prog 17 #[.agg #[.string a0_0, .bool a0_1]] w fun e w' => e = .returned (.string r) ∧ Below w.heap.size w w' := by
  have hu23 := Tryd.underlying23
  have HB := Aside0.mk (Below.refl w.heap.size w)
  have H : ((mandolineref05_Right.f k a0_0 a0_1).bind fun t201 => (if t201 = true then (if a0_1 = true then (if 3 + a0_0.size ≤ 9223372036854775807 then (if 3 + a0_0.size + 1 ≤ 9223372036854775807 then (some (((⟨#[87, 47, 34]⟩ : ByteArray) ++ a0_0) ++ (⟨#[34]⟩ : ByteArray))) else (none)) else (none)) else (if 1 + a0_0.size ≤ 9223372036854775807 then (if 1 + a0_0.size + 1 ≤ 9223372036854775807 then (some (((⟨#[34]⟩ : ByteArray) ++ a0_0) ++ (⟨#[34]⟩ : ByteArray))) else (none)) else (none))) else (some (⟨#[]⟩ : ByteArray)))) = some r := h
  clear h
  replace H := Option.bind_eq_some_iff.mp H
  obtain ⟨t201, A20, H⟩ := H
  replace H : (if t201 = true then (if a0_1 = true then (if 3 + a0_0.size ≤ 9223372036854775807 then (if 3 + a0_0.size + 1 ≤ 9223372036854775807 then (some (((⟨#[87, 47, 34]⟩ : ByteArray) ++ a0_0) ++ (⟨#[34]⟩ : ByteArray))) else (none)) else (none)) else (if 1 + a0_0.size ≤ 9223372036854775807 then (if 1 + a0_0.size + 1 ≤ 9223372036854775807 then (some (((⟨#[34]⟩ : ByteArray) ++ a0_0) ++ (⟨#[34]⟩ : ByteArray))) else (none)) else (none))) else (some (⟨#[]⟩ : ByteArray))) = some r := H
  have A2 := Aside0.mk A20
  clear A20
  by_cases c3 : t201 = true
  · subst c3
    have H1 : (if a0_1 = true then (if 3 + a0_0.size ≤ 9223372036854775807 then (if 3 + a0_0.size + 1 ≤ 9223372036854775807 then (some (((⟨#[87, 47, 34]⟩ : ByteArray) ++ a0_0) ++ (⟨#[34]⟩ : ByteArray))) else (none)) else (none)) else (if 1 + a0_0.size ≤ 9223372036854775807 then (if 1 + a0_0.size + 1 ≤ 9223372036854775807 then (some (((⟨#[34]⟩ : ByteArray) ++ a0_0) ++ (⟨#[34]⟩ : ByteArray))) else (none)) else (none))) = some r := by rw [if_pos rfl] at H; exact H
    clear H
    have H := H1
    clear H1
    by_cases c4 : a0_1 = true
    · subst c4
      have H1 : (if 3 + a0_0.size ≤ 9223372036854775807 then (if 3 + a0_0.size + 1 ≤ 9223372036854775807 then (some (((⟨#[87, 47, 34]⟩ : ByteArray) ++ a0_0) ++ (⟨#[34]⟩ : ByteArray))) else (none)) else (none)) = some r := by rw [if_pos rfl] at H; exact H
      clear H
      have H := H1
      clear H1
      by_cases c5 : 3 + a0_0.size ≤ 9223372036854775807
      · rw [if_pos c5] at H
        have c5b0 := eq_true c5
        have c5b1 : decide (3 + a0_0.size ≤ 9223372036854775807) = true := decide_eq_true c5
        try have c5b2 : (9223372036854775807 < 3 + a0_0.size) = False := eq_false (Nat.not_lt.2 c5)
        by_cases c6 : 3 + a0_0.size + 1 ≤ 9223372036854775807
        · rw [if_pos c6] at H
          have c6b0 := eq_true c6
          have c6b1 : decide (3 + a0_0.size + 1 ≤ 9223372036854775807) = true := decide_eq_true c6
          try have c6b2 : (9223372036854775807 < 3 + a0_0.size + 1) = False := eq_false (Nat.not_lt.2 c6)
          obtain rfl := Option.some.inj H
          go_enter Tryd.func17, Tryd.ntmps17
          go_wp2_with (first | ((with_reducible refine gate_dst (N := 1) rfl ?_); refine box_event ?hg (N := 1) ?hd (cs := #[.string a0_0, .bool true]) (t := 23) ?hr ?_; (case hd => rfl); (case hg => rfl); (case hr => first | (go_simp; done) | (go_simp; rfl)); intro gb200 hg w7 hbox hb; have n0_ := Aside0.mk (below_step (by repeat (first | (with_reducible first | exact HB.out | apply below_alloc | apply pw_below_drewN | apply below_drew1) | exact HB.out)) hb); have n1_ := Aside0.mk (hbox); have n2_ := Aside0.mk ((by rw [hg]; exact (below_size (by repeat (first | (with_reducible first | exact HB.out | apply below_alloc | apply pw_below_drewN | apply below_drew1) | exact HB.out))) : w.heap.size ≤ gb200)); have n3_ := Aside0.mk ((by rw [hg]; exact (below_size (by repeat (first | (with_reducible first | exact HB.out | apply below_alloc | apply pw_below_drewN | apply below_drew1) | exact HB.out))) : w.heap.size ≤ gb200)); clear HB; have HB := n0_; have BK200 := n1_; have GW200 := n2_; have GE200 := n3_; clear n0_ n1_ n2_ n3_; clear hb hbox hg; have hcz8_0 : w7.cell? ⟨gb200, 0, none⟩ = some (.string a0_0) := (blk_cell BK200.out 0).trans rfl; have hcz8_1 : w7.cell? ⟨gb200, 1, none⟩ = some (.bool true) := (blk_cell BK200.out 1).trans rfl; have hfz8_0 := blk_frozen BK200.out 0; have hfz8_1 := blk_frozen BK200.out 1) | ((with_reducible refine gate_callee (f := 14) rfl ?_); refine goesL_ (some 4) rfl rfl Tryd.func14 (by kernel_rfl) rfl #[.agg #[.string a0_0, .bool true]] rfl (by (try simp only [List.map_toArray, List.map_cons, List.map_nil]); first | done | rfl | (simp only [List.length_drop, List.length_take]; rfl)) ?_; (with_reducible refine (mandolineref05_Right.calls k a0_0 true true _ A2.out).mono ?_); rintro e w9 ⟨rfl, hb⟩; refine ⟨_, rfl, ?_⟩; have n0_ := Aside0.mk (blk_below (g := gb200) (o := .cells #[.string a0_0, .bool true] 23 (0, 0)) (by (with_reducible repeat (first | refine blk_drewN ?_ _ | refine blk_drew ?_ | refine blk_alloc ?_ _)); exact BK200.out) hb); have n1_ := Aside0.mk (below_step (by repeat (first | (with_reducible first | exact HB.out | apply below_alloc | apply pw_below_drewN | apply below_drew1 | refine below_set ?_ GE200.out) | exact HB.out)) hb); clear BK200; clear HB; have BK200 := n0_; have HB := n1_; clear n0_ n1_; (try clear hb); (try clear hb2); (try clear hk); (try clear hi); have hcz10_0 : w9.cell? ⟨gb200, 0, none⟩ = some (.string a0_0) := (blk_cell BK200.out 0).trans rfl; have hcz10_1 : w9.cell? ⟨gb200, 1, none⟩ = some (.bool true) := (blk_cell BK200.out 1).trans rfl; have hfz10_0 := blk_frozen BK200.out 0; have hfz10_1 := blk_frozen BK200.out 1))
          go_ret
          exact ⟨by first | rfl | (simp [errW_none, errW_some] <;> rfl) | (simp [*, errW_none, errW_some] <;> rfl), by repeat (first | (with_reducible first | exact HB.out | apply below_alloc | apply pw_below_drewN | apply below_drew1 | refine below_set ?_ GE200.out) | exact HB.out)⟩
        · rw [if_neg c6] at H
          exact absurd H (by simp)
      · rw [if_neg c5] at H
        exact absurd H (by simp)
    · replace c4 := Bool.eq_false_iff.mpr c4
      subst c4
      have H1 : (if 1 + a0_0.size ≤ 9223372036854775807 then (if 1 + a0_0.size + 1 ≤ 9223372036854775807 then (some (((⟨#[34]⟩ : ByteArray) ++ a0_0) ++ (⟨#[34]⟩ : ByteArray))) else (none)) else (none)) = some r := by rw [if_neg (show ¬ (false = true) by decide)] at H; exact H
      clear H
      have H := H1
      clear H1
      by_cases c11 : 1 + a0_0.size ≤ 9223372036854775807
      · rw [if_pos c11] at H
        have c11b0 := eq_true c11
        have c11b1 : decide (1 + a0_0.size ≤ 9223372036854775807) = true := decide_eq_true c11
        try have c11b2 : (9223372036854775807 < 1 + a0_0.size) = False := eq_false (Nat.not_lt.2 c11)
        by_cases c12 : 1 + a0_0.size + 1 ≤ 9223372036854775807
        · rw [if_pos c12] at H
          have c12b0 := eq_true c12
          have c12b1 : decide (1 + a0_0.size + 1 ≤ 9223372036854775807) = true := decide_eq_true c12
          try have c12b2 : (9223372036854775807 < 1 + a0_0.size + 1) = False := eq_false (Nat.not_lt.2 c12)
          obtain rfl := Option.some.inj H
          go_enter Tryd.func17, Tryd.ntmps17
          go_wp2_with (first | ((with_reducible refine gate_dst (N := 1) rfl ?_); refine box_event ?hg (N := 1) ?hd (cs := #[.string a0_0, .bool false]) (t := 23) ?hr ?_; (case hd => rfl); (case hg => rfl); (case hr => first | (go_simp; done) | (go_simp; rfl)); intro gb200 hg w13 hbox hb; have n0_ := Aside0.mk (below_step (by repeat (first | (with_reducible first | exact HB.out | apply below_alloc | apply pw_below_drewN | apply below_drew1) | exact HB.out)) hb); have n1_ := Aside0.mk (hbox); have n2_ := Aside0.mk ((by rw [hg]; exact (below_size (by repeat (first | (with_reducible first | exact HB.out | apply below_alloc | apply pw_below_drewN | apply below_drew1) | exact HB.out))) : w.heap.size ≤ gb200)); have n3_ := Aside0.mk ((by rw [hg]; exact (below_size (by repeat (first | (with_reducible first | exact HB.out | apply below_alloc | apply pw_below_drewN | apply below_drew1) | exact HB.out))) : w.heap.size ≤ gb200)); clear HB; have HB := n0_; have BK200 := n1_; have GW200 := n2_; have GE200 := n3_; clear n0_ n1_ n2_ n3_; clear hb hbox hg; have hcz14_0 : w13.cell? ⟨gb200, 0, none⟩ = some (.string a0_0) := (blk_cell BK200.out 0).trans rfl; have hcz14_1 : w13.cell? ⟨gb200, 1, none⟩ = some (.bool false) := (blk_cell BK200.out 1).trans rfl; have hfz14_0 := blk_frozen BK200.out 0; have hfz14_1 := blk_frozen BK200.out 1) | ((with_reducible refine gate_callee (f := 14) rfl ?_); refine goesL_ (some 4) rfl rfl Tryd.func14 (by kernel_rfl) rfl #[.agg #[.string a0_0, .bool false]] rfl (by (try simp only [List.map_toArray, List.map_cons, List.map_nil]); first | done | rfl | (simp only [List.length_drop, List.length_take]; rfl)) ?_; (with_reducible refine (mandolineref05_Right.calls k a0_0 false true _ A2.out).mono ?_); rintro e w15 ⟨rfl, hb⟩; refine ⟨_, rfl, ?_⟩; have n0_ := Aside0.mk (blk_below (g := gb200) (o := .cells #[.string a0_0, .bool false] 23 (0, 0)) (by (with_reducible repeat (first | refine blk_drewN ?_ _ | refine blk_drew ?_ | refine blk_alloc ?_ _)); exact BK200.out) hb); have n1_ := Aside0.mk (below_step (by repeat (first | (with_reducible first | exact HB.out | apply below_alloc | apply pw_below_drewN | apply below_drew1 | refine below_set ?_ GE200.out) | exact HB.out)) hb); clear BK200; clear HB; have BK200 := n0_; have HB := n1_; clear n0_ n1_; (try clear hb); (try clear hb2); (try clear hk); (try clear hi); have hcz16_0 : w15.cell? ⟨gb200, 0, none⟩ = some (.string a0_0) := (blk_cell BK200.out 0).trans rfl; have hcz16_1 : w15.cell? ⟨gb200, 1, none⟩ = some (.bool false) := (blk_cell BK200.out 1).trans rfl; have hfz16_0 := blk_frozen BK200.out 0; have hfz16_1 := blk_frozen BK200.out 1))
          go_ret
          exact ⟨by first | rfl | (simp [errW_none, errW_some] <;> rfl) | (simp [*, errW_none, errW_some] <;> rfl), by repeat (first | (with_reducible first | exact HB.out | apply below_alloc | apply pw_below_drewN | apply below_drew1 | refine below_set ?_ GE200.out) | exact HB.out)⟩
        · rw [if_neg c12] at H
          exact absurd H (by simp)
      · rw [if_neg c11] at H
        exact absurd H (by simp)
  · replace c3 := Bool.eq_false_iff.mpr c3
    subst c3
    have H1 : (some (⟨#[]⟩ : ByteArray)) = some r := by rw [if_neg (show ¬ (false = true) by decide)] at H; exact H
    clear H
    have H := H1
    clear H1
    obtain rfl := Option.some.inj H
    go_enter Tryd.func17, Tryd.ntmps17
    go_wp2_with (first | ((with_reducible refine gate_dst (N := 1) rfl ?_); refine box_event ?hg (N := 1) ?hd (cs := #[.string a0_0, .bool a0_1]) (t := 23) ?hr ?_; (case hd => rfl); (case hg => rfl); (case hr => first | (go_simp; done) | (go_simp; rfl)); intro gb200 hg w17 hbox hb; have n0_ := Aside0.mk (below_step (by repeat (first | (with_reducible first | exact HB.out | apply below_alloc | apply pw_below_drewN | apply below_drew1) | exact HB.out)) hb); have n1_ := Aside0.mk (hbox); have n2_ := Aside0.mk ((by rw [hg]; exact (below_size (by repeat (first | (with_reducible first | exact HB.out | apply below_alloc | apply pw_below_drewN | apply below_drew1) | exact HB.out))) : w.heap.size ≤ gb200)); have n3_ := Aside0.mk ((by rw [hg]; exact (below_size (by repeat (first | (with_reducible first | exact HB.out | apply below_alloc | apply pw_below_drewN | apply below_drew1) | exact HB.out))) : w.heap.size ≤ gb200)); clear HB; have HB := n0_; have BK200 := n1_; have GW200 := n2_; have GE200 := n3_; clear n0_ n1_ n2_ n3_; clear hb hbox hg; have hcz18_0 : w17.cell? ⟨gb200, 0, none⟩ = some (.string a0_0) := (blk_cell BK200.out 0).trans rfl; have hcz18_1 : w17.cell? ⟨gb200, 1, none⟩ = some (.bool a0_1) := (blk_cell BK200.out 1).trans rfl; have hfz18_0 := blk_frozen BK200.out 0; have hfz18_1 := blk_frozen BK200.out 1) | ((with_reducible refine gate_callee (f := 14) rfl ?_); refine goesL_ (some 4) rfl rfl Tryd.func14 (by kernel_rfl) rfl #[.agg #[.string a0_0, .bool a0_1]] rfl (by (try simp only [List.map_toArray, List.map_cons, List.map_nil]); first | done | rfl | (simp only [List.length_drop, List.length_take]; rfl)) ?_; (with_reducible refine (mandolineref05_Right.calls k a0_0 a0_1 false _ A2.out).mono ?_); rintro e w19 ⟨rfl, hb⟩; refine ⟨_, rfl, ?_⟩; have n0_ := Aside0.mk (blk_below (g := gb200) (o := .cells #[.string a0_0, .bool a0_1] 23 (0, 0)) (by (with_reducible repeat (first | refine blk_drewN ?_ _ | refine blk_drew ?_ | refine blk_alloc ?_ _)); exact BK200.out) hb); have n1_ := Aside0.mk (below_step (by repeat (first | (with_reducible first | exact HB.out | apply below_alloc | apply pw_below_drewN | apply below_drew1 | refine below_set ?_ GE200.out) | exact HB.out)) hb); clear BK200; clear HB; have BK200 := n0_; have HB := n1_; clear n0_ n1_; (try clear hb); (try clear hb2); (try clear hk); (try clear hi)))
    go_ret
    exact ⟨by first | rfl | (simp [errW_none, errW_some] <;> rfl) | (simp [*, errW_none, errW_some] <;> rfl), by repeat (first | (with_reducible first | exact HB.out | apply below_alloc | apply pw_below_drewN | apply below_drew1 | refine below_set ?_ GE200.out) | exact HB.out)⟩

end Go.Proofs.YtbgbbpmbmccgiaaDoor.X
