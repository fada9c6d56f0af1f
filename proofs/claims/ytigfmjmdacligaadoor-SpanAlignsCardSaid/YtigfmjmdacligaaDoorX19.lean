-- Printed by a program of this session (pp.py: the kit's print.py, run with contracts of its own) out of the translation. Not trusted: Lean checks it.
import Derived.Test.YtigfmjmdacligaaDoorX0
import Derived.Test.YtigfmjmdacligaaDoorX10
namespace Go.Proofs.YtigfmjmdacligaaDoor.X
open Go.RowKit Go.Proofs.YtigfmjmdacligaaDoorW.PrintWords Go.Proofs.YtigfmjmdacligaaDoorW.PrintLast Go.Proofs.YtigfmjmdacligaaDoorW.PrintMore
attribute [local go_sem] max2_int min2_int max_two min_two max_three min_three max_four min_four   -- for this text's walks alone
set_option linter.unusedVariables false
set_option linter.unusedSimpArgs false

/-! ### mandolineref01_Align: function 29 -/
mutual
def mandolineref01_Align.j0 : Nat → Int → Bool → Int → Int → Option (Int × Int × Int)
  | 0, _, _, _, _ => none
  | k + 1, x1, x16, x262000, x262001 => if x16 = true then (some (0, 0, 1)) else (if x1 = 0 then (none) else (if (Int.tmod x262001 x1) = 0 then (mandolineref01_Align.j1 k x1 false (wrap64 ((wrap64 (Int.tdiv x262000 x1)) * x1)) x262001) else ((mandolineref01_end.f).bind fun t264 => (mandolineref01_Align.j1 k x1 (x262001 != t264) (wrap64 ((wrap64 (Int.tdiv x262000 x1)) * x1)) x262001))))
def mandolineref01_Align.j1 : Nat → Int → Bool → Int → Int → Option (Int × Int × Int)
  | 0, _, _, _, _ => none
  | k + 1, x1, x35, x262000, x262001 => if x35 = true then (if x1 = 0 then (none) else (mandolineref01_Align.j2 k x262000 (wrap64 ((wrap64 ((wrap64 (Int.tdiv x262001 x1)) + 1)) * x1)))) else (mandolineref01_Align.j2 k x262000 x262001)
def mandolineref01_Align.j2 : Nat → Int → Int → Option (Int × Int × Int)
  | 0, _, _ => none
  | k + 1, x262000, x262001 => (mandolineref01_end.f).bind fun t265 => (if x262001 > t265 then (some (x262000, t265, 0)) else (some (x262000, x262001, 0)))
end
def mandolineref01_Align.f (k : Nat) (a0_0 : Int) (a0_1 : Int) (a1 : Int) : Option (Int × Int × Int) := (mandolineref01_Right.f a0_0 a0_1).bind fun t263 => (if t263 = true then (if a1 < 1 then (mandolineref01_Align.j0 k a1 true a0_0 a0_1) else (mandolineref01_Align.j0 k a1 (decide (a1 > 1099511627776)) a0_0 a0_1)) else (mandolineref01_Align.j0 k a1 true a0_0 a0_1))
theorem mandolineref01_Align.mono_l : ∀ k, (∀ y0 y1 y2 y3, LeO (mandolineref01_Align.j0 k y0 y1 y2 y3) (mandolineref01_Align.j0 (k + 1) y0 y1 y2 y3)) ∧ (∀ y0 y1 y2 y3, LeO (mandolineref01_Align.j1 k y0 y1 y2 y3) (mandolineref01_Align.j1 (k + 1) y0 y1 y2 y3)) ∧ (∀ y0 y1, LeO (mandolineref01_Align.j2 k y0 y1) (mandolineref01_Align.j2 (k + 1) y0 y1))
  | 0 => ⟨fun _ _ _ _ r h => by simp [mandolineref01_Align.j0] at h, fun _ _ _ _ r h => by simp [mandolineref01_Align.j1] at h, fun _ _ r h => by simp [mandolineref01_Align.j2] at h⟩
  | k + 1 => by
    obtain ⟨ih0, ih1, ih2⟩ := mandolineref01_Align.mono_l k
    refine ⟨?_, ?_, ?_⟩
    · intro y0 y1 y2 y3
      unfold mandolineref01_Align.j0
      repeat' first
      | (with_reducible exact ih0 _ _ _ _)
      | (with_reducible exact ih1 _ _ _ _)
      | (with_reducible exact ih2 _ _)
      | (with_reducible exact LeO.refl _)
      | (with_reducible exact LeO.none _)
      | (with_reducible refine LeO.ite ?_ ?_)
      | (with_reducible refine LeO.bind ?_ (fun _ => ?_))
      | exact ih0 _ _ _ _
      | exact ih1 _ _ _ _
      | exact ih2 _ _
      | exact LeO.none _
      | refine LeO.ite ?_ ?_
      | refine LeO.bind ?_ (fun _ => ?_)
    · intro y0 y1 y2 y3
      unfold mandolineref01_Align.j1
      repeat' first
      | (with_reducible exact ih0 _ _ _ _)
      | (with_reducible exact ih1 _ _ _ _)
      | (with_reducible exact ih2 _ _)
      | (with_reducible exact LeO.refl _)
      | (with_reducible exact LeO.none _)
      | (with_reducible refine LeO.ite ?_ ?_)
      | (with_reducible refine LeO.bind ?_ (fun _ => ?_))
      | exact ih0 _ _ _ _
      | exact ih1 _ _ _ _
      | exact ih2 _ _
      | exact LeO.none _
      | refine LeO.ite ?_ ?_
      | refine LeO.bind ?_ (fun _ => ?_)
    · intro y0 y1
      unfold mandolineref01_Align.j2
      repeat' first
      | (with_reducible exact ih0 _ _ _ _)
      | (with_reducible exact ih1 _ _ _ _)
      | (with_reducible exact ih2 _ _)
      | (with_reducible exact LeO.refl _)
      | (with_reducible exact LeO.none _)
      | (with_reducible refine LeO.ite ?_ ?_)
      | (with_reducible refine LeO.bind ?_ (fun _ => ?_))
      | exact ih0 _ _ _ _
      | exact ih1 _ _ _ _
      | exact ih2 _ _
      | exact LeO.none _
      | refine LeO.ite ?_ ?_
      | refine LeO.bind ?_ (fun _ => ?_)
theorem mandolineref01_Align.mono : ∀ a0 a1 a2 k, LeO (mandolineref01_Align.f k a0 a1 a2) (mandolineref01_Align.f (k + 1) a0 a1 a2) := by
  intro a0 a1 a2 k
  obtain ⟨ih0, ih1, ih2⟩ := mandolineref01_Align.mono_l k
  unfold mandolineref01_Align.f
  repeat' first
      | (with_reducible exact ih0 _ _ _ _)
      | (with_reducible exact ih1 _ _ _ _)
      | (with_reducible exact ih2 _ _)
      | (with_reducible exact LeO.refl _)
      | (with_reducible exact LeO.none _)
      | (with_reducible refine LeO.ite ?_ ?_)
      | (with_reducible refine LeO.bind ?_ (fun _ => ?_))
      | exact ih0 _ _ _ _
      | exact ih1 _ _ _ _
      | exact ih2 _ _
      | exact LeO.none _
      | refine LeO.ite ?_ ?_
      | refine LeO.bind ?_ (fun _ => ?_)
set_option maxHeartbeats 8000000 in
set_option maxRecDepth 100000 in
theorem mandolineref01_Align.calls (k : Nat) (a0_0 : Int) (a0_1 : Int) (a1 : Int) (r1 : Int) (r2 : Int) (r3 : Int) (w : World) (h : mandolineref01_Align.f k a0_0 a0_1 a1 = some (r1, r2, r3)) :
    Calls Tryd.prog 29 #[.agg #[.int .i64 a0_0, .int .i64 a0_1], .int .i64 a1] w fun e w' => e = .returned (.tuple #[.agg #[.int .i64 r1, .int .i64 r2], .int .i64 r3]) ∧ Below w.heap.size w w' := by
  have hu23 := Tryd.underlying23
  have HB := Aside0.mk (Below.refl w.heap.size w)
  have H : ((mandolineref01_Right.f a0_0 a0_1).bind fun t263 => (if t263 = true then (if a1 < 1 then (mandolineref01_Align.j0 k a1 true a0_0 a0_1) else (mandolineref01_Align.j0 k a1 (decide (a1 > 1099511627776)) a0_0 a0_1)) else (mandolineref01_Align.j0 k a1 true a0_0 a0_1))) = some (r1, r2, r3) := h
  clear h
  have HC3 := Aside0.mk H
  clear H
  go_enter Tryd.func29, Tryd.ntmps29
  go_upto_region 1 with (first | ((with_reducible refine gate_dst (N := 2) rfl ?_); refine box_event ?hg (N := 2) ?hd (cs := #[.int .i64 a0_0, .int .i64 a0_1]) (t := 23) ?hr ?_; (case hd => rfl); (case hg => rfl); (case hr => first | (go_simp; done) | (go_simp; rfl)); intro gb261 hg w4 hbox hb; have n0_ := Aside0.mk (below_step (by repeat (first | (with_reducible first | exact HB.out | apply below_alloc | apply pw_below_drewN | apply below_drew1) | exact HB.out)) hb); have n1_ := Aside0.mk (hbox); have n2_ := Aside0.mk ((by rw [hg]; exact (below_size (by repeat (first | (with_reducible first | exact HB.out | apply below_alloc | apply pw_below_drewN | apply below_drew1) | exact HB.out))) : w.heap.size ≤ gb261)); have n3_ := Aside0.mk ((by rw [hg]; exact (below_size (by repeat (first | (with_reducible first | exact HB.out | apply below_alloc | apply pw_below_drewN | apply below_drew1) | exact HB.out))) : w.heap.size ≤ gb261)); clear HB; have HB := n0_; have BK261 := n1_; have GW261 := n2_; have GE261 := n3_; clear n0_ n1_ n2_ n3_; clear hb hbox hg) | ((with_reducible refine gate_dst (N := 4) rfl ?_); refine box_event ?hg (N := 4) ?hd (cs := #[.int .i64 0, .int .i64 0]) (t := 23) ?hr ?_; (case hd => rfl); (case hg => rfl); (case hr => first | (go_simp; done) | (go_simp; rfl)); intro gb262 hg w5 hbox hb; have n0_ := Aside0.mk (blk_below (g := gb261) (o := .cells #[.int .i64 a0_0, .int .i64 a0_1] 23 (0, 0)) (by (with_reducible repeat (first | refine blk_drewN ?_ _ | refine blk_drew ?_ | refine blk_alloc ?_ _)); exact BK261.out) hb); have n1_ := Aside0.mk (below_step (by repeat (first | (with_reducible first | exact HB.out | apply below_alloc | apply pw_below_drewN | apply below_drew1 | refine below_set ?_ GE261.out) | exact HB.out)) hb); have n2_ := Aside0.mk (hbox); have n3_ := Aside0.mk ((by rw [hg]; exact (below_size (by repeat (first | (with_reducible first | exact HB.out | apply below_alloc | apply pw_below_drewN | apply below_drew1 | refine below_set ?_ GE261.out) | exact HB.out))) : w.heap.size ≤ gb262)); have n4_ := Aside0.mk ((by rw [hg]; exact (below_size (by repeat (first | (with_reducible first | exact HB.out | apply below_alloc | apply pw_below_drewN | apply below_drew1 | refine below_set ?_ GE261.out) | exact HB.out))) : w.heap.size ≤ gb262)); have n5_ := Aside0.mk ((by rw [hg]; exact Nat.ne_of_lt (blk_lt (g := gb261) (o := .cells #[.int .i64 a0_0, .int .i64 a0_1] 23 (0, 0)) (by (with_reducible repeat (first | refine blk_drewN ?_ _ | refine blk_drew ?_ | refine blk_alloc ?_ _)); exact BK261.out)) : gb261 ≠ gb262)); have n6_ := Aside0.mk ((by rw [hg]; exact Nat.ne_of_gt (blk_lt (g := gb261) (o := .cells #[.int .i64 a0_0, .int .i64 a0_1] 23 (0, 0)) (by (with_reducible repeat (first | refine blk_drewN ?_ _ | refine blk_drew ?_ | refine blk_alloc ?_ _)); exact BK261.out)) : gb262 ≠ gb261)); clear BK261; clear HB; have BK261 := n0_; have HB := n1_; have BK262 := n2_; have GW262 := n3_; have GE262 := n4_; have NB261_262 := n5_; have NB262_261 := n6_; clear n0_ n1_ n2_ n3_ n4_ n5_ n6_; clear hb hbox hg))
  repeat (go_quiet (first | ((with_reducible refine gate_dst (N := 2) rfl ?_); refine box_event ?hg (N := 2) ?hd (cs := #[.int .i64 a0_0, .int .i64 a0_1]) (t := 23) ?hr ?_; (case hd => rfl); (case hg => rfl); (case hr => first | (go_simp; done) | (go_simp; rfl)); intro gb261 hg w4 hbox hb; have n0_ := Aside0.mk (below_step (by repeat (first | (with_reducible first | exact HB.out | apply below_alloc | apply pw_below_drewN | apply below_drew1) | exact HB.out)) hb); have n1_ := Aside0.mk (hbox); have n2_ := Aside0.mk ((by rw [hg]; exact (below_size (by repeat (first | (with_reducible first | exact HB.out | apply below_alloc | apply pw_below_drewN | apply below_drew1) | exact HB.out))) : w.heap.size ≤ gb261)); have n3_ := Aside0.mk ((by rw [hg]; exact (below_size (by repeat (first | (with_reducible first | exact HB.out | apply below_alloc | apply pw_below_drewN | apply below_drew1) | exact HB.out))) : w.heap.size ≤ gb261)); clear HB; have HB := n0_; have BK261 := n1_; have GW261 := n2_; have GE261 := n3_; clear n0_ n1_ n2_ n3_; clear hb hbox hg) | ((with_reducible refine gate_dst (N := 4) rfl ?_); refine box_event ?hg (N := 4) ?hd (cs := #[.int .i64 0, .int .i64 0]) (t := 23) ?hr ?_; (case hd => rfl); (case hg => rfl); (case hr => first | (go_simp; done) | (go_simp; rfl)); intro gb262 hg w5 hbox hb; have n0_ := Aside0.mk (blk_below (g := gb261) (o := .cells #[.int .i64 a0_0, .int .i64 a0_1] 23 (0, 0)) (by (with_reducible repeat (first | refine blk_drewN ?_ _ | refine blk_drew ?_ | refine blk_alloc ?_ _)); exact BK261.out) hb); have n1_ := Aside0.mk (below_step (by repeat (first | (with_reducible first | exact HB.out | apply below_alloc | apply pw_below_drewN | apply below_drew1 | refine below_set ?_ GE261.out) | exact HB.out)) hb); have n2_ := Aside0.mk (hbox); have n3_ := Aside0.mk ((by rw [hg]; exact (below_size (by repeat (first | (with_reducible first | exact HB.out | apply below_alloc | apply pw_below_drewN | apply below_drew1 | refine below_set ?_ GE261.out) | exact HB.out))) : w.heap.size ≤ gb262)); have n4_ := Aside0.mk ((by rw [hg]; exact (below_size (by repeat (first | (with_reducible first | exact HB.out | apply below_alloc | apply pw_below_drewN | apply below_drew1 | refine below_set ?_ GE261.out) | exact HB.out))) : w.heap.size ≤ gb262)); have n5_ := Aside0.mk ((by rw [hg]; exact Nat.ne_of_lt (blk_lt (g := gb261) (o := .cells #[.int .i64 a0_0, .int .i64 a0_1] 23 (0, 0)) (by (with_reducible repeat (first | refine blk_drewN ?_ _ | refine blk_drew ?_ | refine blk_alloc ?_ _)); exact BK261.out)) : gb261 ≠ gb262)); have n6_ := Aside0.mk ((by rw [hg]; exact Nat.ne_of_gt (blk_lt (g := gb261) (o := .cells #[.int .i64 a0_0, .int .i64 a0_1] 23 (0, 0)) (by (with_reducible repeat (first | refine blk_drewN ?_ _ | refine blk_drew ?_ | refine blk_alloc ?_ _)); exact BK261.out)) : gb262 ≠ gb261)); clear BK261; clear HB; have BK261 := n0_; have HB := n1_; have BK262 := n2_; have GW262 := n3_; have GE262 := n4_; have NB261_262 := n5_; have NB262_261 := n6_; clear n0_ n1_ n2_ n3_ n4_ n5_ n6_; clear hb hbox hg)); go_upto_region 1 with (first | ((with_reducible refine gate_dst (N := 2) rfl ?_); refine box_event ?hg (N := 2) ?hd (cs := #[.int .i64 a0_0, .int .i64 a0_1]) (t := 23) ?hr ?_; (case hd => rfl); (case hg => rfl); (case hr => first | (go_simp; done) | (go_simp; rfl)); intro gb261 hg w4 hbox hb; have n0_ := Aside0.mk (below_step (by repeat (first | (with_reducible first | exact HB.out | apply below_alloc | apply pw_below_drewN | apply below_drew1) | exact HB.out)) hb); have n1_ := Aside0.mk (hbox); have n2_ := Aside0.mk ((by rw [hg]; exact (below_size (by repeat (first | (with_reducible first | exact HB.out | apply below_alloc | apply pw_below_drewN | apply below_drew1) | exact HB.out))) : w.heap.size ≤ gb261)); have n3_ := Aside0.mk ((by rw [hg]; exact (below_size (by repeat (first | (with_reducible first | exact HB.out | apply below_alloc | apply pw_below_drewN | apply below_drew1) | exact HB.out))) : w.heap.size ≤ gb261)); clear HB; have HB := n0_; have BK261 := n1_; have GW261 := n2_; have GE261 := n3_; clear n0_ n1_ n2_ n3_; clear hb hbox hg) | ((with_reducible refine gate_dst (N := 4) rfl ?_); refine box_event ?hg (N := 4) ?hd (cs := #[.int .i64 0, .int .i64 0]) (t := 23) ?hr ?_; (case hd => rfl); (case hg => rfl); (case hr => first | (go_simp; done) | (go_simp; rfl)); intro gb262 hg w5 hbox hb; have n0_ := Aside0.mk (blk_below (g := gb261) (o := .cells #[.int .i64 a0_0, .int .i64 a0_1] 23 (0, 0)) (by (with_reducible repeat (first | refine blk_drewN ?_ _ | refine blk_drew ?_ | refine blk_alloc ?_ _)); exact BK261.out) hb); have n1_ := Aside0.mk (below_step (by repeat (first | (with_reducible first | exact HB.out | apply below_alloc | apply pw_below_drewN | apply below_drew1 | refine below_set ?_ GE261.out) | exact HB.out)) hb); have n2_ := Aside0.mk (hbox); have n3_ := Aside0.mk ((by rw [hg]; exact (below_size (by repeat (first | (with_reducible first | exact HB.out | apply below_alloc | apply pw_below_drewN | apply below_drew1 | refine below_set ?_ GE261.out) | exact HB.out))) : w.heap.size ≤ gb262)); have n4_ := Aside0.mk ((by rw [hg]; exact (below_size (by repeat (first | (with_reducible first | exact HB.out | apply below_alloc | apply pw_below_drewN | apply below_drew1 | refine below_set ?_ GE261.out) | exact HB.out))) : w.heap.size ≤ gb262)); have n5_ := Aside0.mk ((by rw [hg]; exact Nat.ne_of_lt (blk_lt (g := gb261) (o := .cells #[.int .i64 a0_0, .int .i64 a0_1] 23 (0, 0)) (by (with_reducible repeat (first | refine blk_drewN ?_ _ | refine blk_drew ?_ | refine blk_alloc ?_ _)); exact BK261.out)) : gb261 ≠ gb262)); have n6_ := Aside0.mk ((by rw [hg]; exact Nat.ne_of_gt (blk_lt (g := gb261) (o := .cells #[.int .i64 a0_0, .int .i64 a0_1] 23 (0, 0)) (by (with_reducible repeat (first | refine blk_drewN ?_ _ | refine blk_drew ?_ | refine blk_alloc ?_ _)); exact BK261.out)) : gb262 ≠ gb261)); clear BK261; clear HB; have BK261 := n0_; have HB := n1_; have BK262 := n2_; have GW262 := n3_; have GE262 := n4_; have NB261_262 := n5_; have NB262_261 := n6_; clear n0_ n1_ n2_ n3_ n4_ n5_ n6_; clear hb hbox hg)))
  (try simp only [Act.put, List.setIfInBounds_toArray, List.set_cons_zero, List.set_cons_succ])
  go_cut [16] (fun v16 wc => ∃ (kq : Nat) (x16_2 : Bool), v16 = .bool x16_2 ∧ Aside0 (mandolineref01_Align.j0 kq a1 x16_2 a0_0 a0_1 = some (r1, r2, r3)) ∧ Aside0 (kq ≤ k) ∧ Aside0 (wc.heap[gb261]? = some (.cells #[.int .i64 a0_0, .int .i64 a0_1] 23 (0, 0))) ∧ Aside0 (wc.heap[gb262]? = some (.cells #[.int .i64 0, .int .i64 0] 23 (0, 0))) ∧ Aside0 (Below w.heap.size w wc))
  case first =>
    have H := HC3.out
    clear HC3
    replace H := Option.bind_eq_some_iff.mp H
    obtain ⟨t263, A60, H⟩ := H
    replace H : (if t263 = true then (if a1 < 1 then (mandolineref01_Align.j0 k a1 true a0_0 a0_1) else (mandolineref01_Align.j0 k a1 (decide (a1 > 1099511627776)) a0_0 a0_1)) else (mandolineref01_Align.j0 k a1 true a0_0 a0_1)) = some (r1, r2, r3) := H
    have A6 := Aside0.mk A60
    clear A60
    by_cases c7 : t263 = true
    · subst c7
      have H1 : (if a1 < 1 then (mandolineref01_Align.j0 k a1 true a0_0 a0_1) else (mandolineref01_Align.j0 k a1 (decide (a1 > 1099511627776)) a0_0 a0_1)) = some (r1, r2, r3) := by rw [if_pos rfl] at H; exact H
      clear H
      have H := H1
      clear H1
      by_cases c8 : a1 < 1
      · rw [if_pos c8] at H
        have c8b0 : decide (a1 < 1) = true := decide_eq_true c8
        clear c8
        (first | rw [c8b0] | (simp only [i64_w, i32_w]; rw [c8b0]) | skip)
        have H' := Aside0.mk H
        clear H
        have hnb9 := NB261_262.out
        have hnc9 := NB262_261.out
        have hcz10_0 : w5.cell? ⟨gb261, 0, none⟩ = some (.int .i64 a0_0) := (blk_cell BK261.out 0).trans rfl
        have hcz10_1 : w5.cell? ⟨gb261, 1, none⟩ = some (.int .i64 a0_1) := (blk_cell BK261.out 1).trans rfl
        have hfz10_0 := blk_frozen BK261.out 0
        have hfz10_1 := blk_frozen BK261.out 1
        go_wp2_with (first | (go_at_call 14; (with_reducible refine (mandolineref01_Right.calls a0_0 a0_1 true _ A6.out).mono ?_); rintro e w11 ⟨rfl, hb⟩; have n0_ := Aside0.mk (blk_below (g := gb261) (o := .cells #[.int .i64 a0_0, .int .i64 a0_1] 23 (0, 0)) (by (with_reducible repeat (first | refine blk_drewN ?_ _ | refine blk_drew ?_ | refine blk_alloc ?_ _)); exact BK261.out) hb); have n1_ := Aside0.mk (blk_below (g := gb262) (o := .cells #[.int .i64 0, .int .i64 0] 23 (0, 0)) (by (with_reducible repeat (first | refine blk_drewN ?_ _ | refine blk_drew ?_ | refine blk_alloc ?_ _)); exact BK262.out) hb); have n2_ := Aside0.mk (below_step (by repeat (first | (with_reducible first | exact HB.out | apply below_alloc | apply pw_below_drewN | apply below_drew1 | refine below_set ?_ GE261.out | refine below_set ?_ GE262.out) | exact HB.out)) hb); clear BK261; clear BK262; clear HB; have BK261 := n0_; have BK262 := n1_; have HB := n2_; clear n0_ n1_ n2_; (try clear hb); (try clear hb2); (try clear hk); (try clear hi)))
        repeat (go_quiet (first | (go_at_call 14; (with_reducible refine (mandolineref01_Right.calls a0_0 a0_1 true _ A6.out).mono ?_); rintro e w11 ⟨rfl, hb⟩; have n0_ := Aside0.mk (blk_below (g := gb261) (o := .cells #[.int .i64 a0_0, .int .i64 a0_1] 23 (0, 0)) (by (with_reducible repeat (first | refine blk_drewN ?_ _ | refine blk_drew ?_ | refine blk_alloc ?_ _)); exact BK261.out) hb); have n1_ := Aside0.mk (blk_below (g := gb262) (o := .cells #[.int .i64 0, .int .i64 0] 23 (0, 0)) (by (with_reducible repeat (first | refine blk_drewN ?_ _ | refine blk_drew ?_ | refine blk_alloc ?_ _)); exact BK262.out) hb); have n2_ := Aside0.mk (below_step (by repeat (first | (with_reducible first | exact HB.out | apply below_alloc | apply pw_below_drewN | apply below_drew1 | refine below_set ?_ GE261.out | refine below_set ?_ GE262.out) | exact HB.out)) hb); clear BK261; clear BK262; clear HB; have BK261 := n0_; have BK262 := n1_; have HB := n2_; clear n0_ n1_ n2_; (try clear hb); (try clear hb2); (try clear hk); (try clear hi))); try go_wp2_with (first | (go_at_call 14; (with_reducible refine (mandolineref01_Right.calls a0_0 a0_1 true _ A6.out).mono ?_); rintro e w11 ⟨rfl, hb⟩; have n0_ := Aside0.mk (blk_below (g := gb261) (o := .cells #[.int .i64 a0_0, .int .i64 a0_1] 23 (0, 0)) (by (with_reducible repeat (first | refine blk_drewN ?_ _ | refine blk_drew ?_ | refine blk_alloc ?_ _)); exact BK261.out) hb); have n1_ := Aside0.mk (blk_below (g := gb262) (o := .cells #[.int .i64 0, .int .i64 0] 23 (0, 0)) (by (with_reducible repeat (first | refine blk_drewN ?_ _ | refine blk_drew ?_ | refine blk_alloc ?_ _)); exact BK262.out) hb); have n2_ := Aside0.mk (below_step (by repeat (first | (with_reducible first | exact HB.out | apply below_alloc | apply pw_below_drewN | apply below_drew1 | refine below_set ?_ GE261.out | refine below_set ?_ GE262.out) | exact HB.out)) hb); clear BK261; clear BK262; clear HB; have BK261 := n0_; have BK262 := n1_; have HB := n2_; clear n0_ n1_ n2_; (try clear hb); (try clear hb2); (try clear hk); (try clear hi))))
        go_meet
        case rel => exact ⟨_, (true), (by first | rfl | (simp; done) | (simp [*]; done)), H', ⟨by first | omega | exact Nat.le_refl _⟩, ⟨by (with_reducible repeat (first | refine blk_drewN ?_ _ | refine blk_drew ?_ | refine blk_alloc ?_ _)); exact BK261.out⟩, ⟨by (with_reducible repeat (first | refine blk_drewN ?_ _ | refine blk_drew ?_ | refine blk_alloc ?_ _)); exact BK262.out⟩, ⟨by repeat (first | (with_reducible first | exact HB.out | apply below_alloc | apply pw_below_drewN | apply below_drew1 | refine below_set ?_ GE261.out | refine below_set ?_ GE262.out) | exact HB.out)⟩⟩
      · rw [if_neg c8] at H
        have c8b0 : decide (a1 < 1) = false := decide_eq_false c8
        clear c8
        (first | rw [c8b0] | (simp only [i64_w, i32_w]; rw [c8b0]) | skip)
        have H' := Aside0.mk H
        clear H
        have hnb12 := NB261_262.out
        have hnc12 := NB262_261.out
        have hcz13_0 : w5.cell? ⟨gb261, 0, none⟩ = some (.int .i64 a0_0) := (blk_cell BK261.out 0).trans rfl
        have hcz13_1 : w5.cell? ⟨gb261, 1, none⟩ = some (.int .i64 a0_1) := (blk_cell BK261.out 1).trans rfl
        have hfz13_0 := blk_frozen BK261.out 0
        have hfz13_1 := blk_frozen BK261.out 1
        go_wp2_with (first | (go_at_call 14; (with_reducible refine (mandolineref01_Right.calls a0_0 a0_1 true _ A6.out).mono ?_); rintro e w14 ⟨rfl, hb⟩; have n0_ := Aside0.mk (blk_below (g := gb261) (o := .cells #[.int .i64 a0_0, .int .i64 a0_1] 23 (0, 0)) (by (with_reducible repeat (first | refine blk_drewN ?_ _ | refine blk_drew ?_ | refine blk_alloc ?_ _)); exact BK261.out) hb); have n1_ := Aside0.mk (blk_below (g := gb262) (o := .cells #[.int .i64 0, .int .i64 0] 23 (0, 0)) (by (with_reducible repeat (first | refine blk_drewN ?_ _ | refine blk_drew ?_ | refine blk_alloc ?_ _)); exact BK262.out) hb); have n2_ := Aside0.mk (below_step (by repeat (first | (with_reducible first | exact HB.out | apply below_alloc | apply pw_below_drewN | apply below_drew1 | refine below_set ?_ GE261.out | refine below_set ?_ GE262.out) | exact HB.out)) hb); clear BK261; clear BK262; clear HB; have BK261 := n0_; have BK262 := n1_; have HB := n2_; clear n0_ n1_ n2_; (try clear hb); (try clear hb2); (try clear hk); (try clear hi)))
        repeat (go_quiet (first | (go_at_call 14; (with_reducible refine (mandolineref01_Right.calls a0_0 a0_1 true _ A6.out).mono ?_); rintro e w14 ⟨rfl, hb⟩; have n0_ := Aside0.mk (blk_below (g := gb261) (o := .cells #[.int .i64 a0_0, .int .i64 a0_1] 23 (0, 0)) (by (with_reducible repeat (first | refine blk_drewN ?_ _ | refine blk_drew ?_ | refine blk_alloc ?_ _)); exact BK261.out) hb); have n1_ := Aside0.mk (blk_below (g := gb262) (o := .cells #[.int .i64 0, .int .i64 0] 23 (0, 0)) (by (with_reducible repeat (first | refine blk_drewN ?_ _ | refine blk_drew ?_ | refine blk_alloc ?_ _)); exact BK262.out) hb); have n2_ := Aside0.mk (below_step (by repeat (first | (with_reducible first | exact HB.out | apply below_alloc | apply pw_below_drewN | apply below_drew1 | refine below_set ?_ GE261.out | refine below_set ?_ GE262.out) | exact HB.out)) hb); clear BK261; clear BK262; clear HB; have BK261 := n0_; have BK262 := n1_; have HB := n2_; clear n0_ n1_ n2_; (try clear hb); (try clear hb2); (try clear hk); (try clear hi))); try go_wp2_with (first | (go_at_call 14; (with_reducible refine (mandolineref01_Right.calls a0_0 a0_1 true _ A6.out).mono ?_); rintro e w14 ⟨rfl, hb⟩; have n0_ := Aside0.mk (blk_below (g := gb261) (o := .cells #[.int .i64 a0_0, .int .i64 a0_1] 23 (0, 0)) (by (with_reducible repeat (first | refine blk_drewN ?_ _ | refine blk_drew ?_ | refine blk_alloc ?_ _)); exact BK261.out) hb); have n1_ := Aside0.mk (blk_below (g := gb262) (o := .cells #[.int .i64 0, .int .i64 0] 23 (0, 0)) (by (with_reducible repeat (first | refine blk_drewN ?_ _ | refine blk_drew ?_ | refine blk_alloc ?_ _)); exact BK262.out) hb); have n2_ := Aside0.mk (below_step (by repeat (first | (with_reducible first | exact HB.out | apply below_alloc | apply pw_below_drewN | apply below_drew1 | refine below_set ?_ GE261.out | refine below_set ?_ GE262.out) | exact HB.out)) hb); clear BK261; clear BK262; clear HB; have BK261 := n0_; have BK262 := n1_; have HB := n2_; clear n0_ n1_ n2_; (try clear hb); (try clear hb2); (try clear hk); (try clear hi))))
        go_meet
        case rel => exact ⟨_, (decide (a1 > 1099511627776)), (by first | rfl | (simp; done) | (simp [*]; done)), H', ⟨by first | omega | exact Nat.le_refl _⟩, ⟨by (with_reducible repeat (first | refine blk_drewN ?_ _ | refine blk_drew ?_ | refine blk_alloc ?_ _)); exact BK261.out⟩, ⟨by (with_reducible repeat (first | refine blk_drewN ?_ _ | refine blk_drew ?_ | refine blk_alloc ?_ _)); exact BK262.out⟩, ⟨by repeat (first | (with_reducible first | exact HB.out | apply below_alloc | apply pw_below_drewN | apply below_drew1 | refine below_set ?_ GE261.out | refine below_set ?_ GE262.out) | exact HB.out)⟩⟩
    · replace c7 := Bool.eq_false_iff.mpr c7
      subst c7
      have H1 : (mandolineref01_Align.j0 k a1 true a0_0 a0_1) = some (r1, r2, r3) := by rw [if_neg (show ¬ (false = true) by decide)] at H; exact H
      clear H
      have H := H1
      clear H1
      have H' := Aside0.mk H
      clear H
      have hnb15 := NB261_262.out
      have hnc15 := NB262_261.out
      have hcz16_0 : w5.cell? ⟨gb261, 0, none⟩ = some (.int .i64 a0_0) := (blk_cell BK261.out 0).trans rfl
      have hcz16_1 : w5.cell? ⟨gb261, 1, none⟩ = some (.int .i64 a0_1) := (blk_cell BK261.out 1).trans rfl
      have hfz16_0 := blk_frozen BK261.out 0
      have hfz16_1 := blk_frozen BK261.out 1
      go_wp2_with (first | (go_at_call 14; (with_reducible refine (mandolineref01_Right.calls a0_0 a0_1 false _ A6.out).mono ?_); rintro e w17 ⟨rfl, hb⟩; have n0_ := Aside0.mk (blk_below (g := gb261) (o := .cells #[.int .i64 a0_0, .int .i64 a0_1] 23 (0, 0)) (by (with_reducible repeat (first | refine blk_drewN ?_ _ | refine blk_drew ?_ | refine blk_alloc ?_ _)); exact BK261.out) hb); have n1_ := Aside0.mk (blk_below (g := gb262) (o := .cells #[.int .i64 0, .int .i64 0] 23 (0, 0)) (by (with_reducible repeat (first | refine blk_drewN ?_ _ | refine blk_drew ?_ | refine blk_alloc ?_ _)); exact BK262.out) hb); have n2_ := Aside0.mk (below_step (by repeat (first | (with_reducible first | exact HB.out | apply below_alloc | apply pw_below_drewN | apply below_drew1 | refine below_set ?_ GE261.out | refine below_set ?_ GE262.out) | exact HB.out)) hb); clear BK261; clear BK262; clear HB; have BK261 := n0_; have BK262 := n1_; have HB := n2_; clear n0_ n1_ n2_; (try clear hb); (try clear hb2); (try clear hk); (try clear hi)))
      repeat (go_quiet (first | (go_at_call 14; (with_reducible refine (mandolineref01_Right.calls a0_0 a0_1 false _ A6.out).mono ?_); rintro e w17 ⟨rfl, hb⟩; have n0_ := Aside0.mk (blk_below (g := gb261) (o := .cells #[.int .i64 a0_0, .int .i64 a0_1] 23 (0, 0)) (by (with_reducible repeat (first | refine blk_drewN ?_ _ | refine blk_drew ?_ | refine blk_alloc ?_ _)); exact BK261.out) hb); have n1_ := Aside0.mk (blk_below (g := gb262) (o := .cells #[.int .i64 0, .int .i64 0] 23 (0, 0)) (by (with_reducible repeat (first | refine blk_drewN ?_ _ | refine blk_drew ?_ | refine blk_alloc ?_ _)); exact BK262.out) hb); have n2_ := Aside0.mk (below_step (by repeat (first | (with_reducible first | exact HB.out | apply below_alloc | apply pw_below_drewN | apply below_drew1 | refine below_set ?_ GE261.out | refine below_set ?_ GE262.out) | exact HB.out)) hb); clear BK261; clear BK262; clear HB; have BK261 := n0_; have BK262 := n1_; have HB := n2_; clear n0_ n1_ n2_; (try clear hb); (try clear hb2); (try clear hk); (try clear hi))); try go_wp2_with (first | (go_at_call 14; (with_reducible refine (mandolineref01_Right.calls a0_0 a0_1 false _ A6.out).mono ?_); rintro e w17 ⟨rfl, hb⟩; have n0_ := Aside0.mk (blk_below (g := gb261) (o := .cells #[.int .i64 a0_0, .int .i64 a0_1] 23 (0, 0)) (by (with_reducible repeat (first | refine blk_drewN ?_ _ | refine blk_drew ?_ | refine blk_alloc ?_ _)); exact BK261.out) hb); have n1_ := Aside0.mk (blk_below (g := gb262) (o := .cells #[.int .i64 0, .int .i64 0] 23 (0, 0)) (by (with_reducible repeat (first | refine blk_drewN ?_ _ | refine blk_drew ?_ | refine blk_alloc ?_ _)); exact BK262.out) hb); have n2_ := Aside0.mk (below_step (by repeat (first | (with_reducible first | exact HB.out | apply below_alloc | apply pw_below_drewN | apply below_drew1 | refine below_set ?_ GE261.out | refine below_set ?_ GE262.out) | exact HB.out)) hb); clear BK261; clear BK262; clear HB; have BK261 := n0_; have BK262 := n1_; have HB := n2_; clear n0_ n1_ n2_; (try clear hb); (try clear hb2); (try clear hk); (try clear hi))))
      go_meet
      case rel => exact ⟨_, (true), (by first | rfl | (simp; done) | (simp [*]; done)), H', ⟨by first | omega | exact Nat.le_refl _⟩, ⟨by (with_reducible repeat (first | refine blk_drewN ?_ _ | refine blk_drew ?_ | refine blk_alloc ?_ _)); exact BK261.out⟩, ⟨by (with_reducible repeat (first | refine blk_drewN ?_ _ | refine blk_drew ?_ | refine blk_alloc ?_ _)); exact BK262.out⟩, ⟨by repeat (first | (with_reducible first | exact HB.out | apply below_alloc | apply pw_below_drewN | apply below_drew1 | refine below_set ?_ GE261.out | refine below_set ?_ GE262.out) | exact HB.out)⟩⟩
  case rest =>
    clear HC3
    try clear c1
    try clear c2
    try clear p2
    try clear c7
    try clear c8
    try clear c8b0
    try clear c9
    try clear c12
    try clear c15
    try clear hcz10_0
    try clear hcz10_1
    try clear hcz13_0
    try clear hcz13_1
    try clear hcz16_0
    try clear hcz16_1
    try clear hfz10_0
    try clear hfz10_1
    try clear hfz13_0
    try clear hfz13_1
    try clear hfz16_0
    try clear hfz16_1
    obtain ⟨kq, x16_2, rfl, HA, HJ2, BK261, BK262, HB⟩ := hcut
    cases kq with
    | zero => exact absurd HA.out (by simp [mandolineref01_Align.j0])
    | succ kj2 =>
      have H := HA.out
      clear HA
      simp only [mandolineref01_Align.j0] at H
      by_cases c18 : x16_2 = true
      · subst c18
        have H1 : (some (0, 0, 1)) = some (r1, r2, r3) := by rw [if_pos rfl] at H; exact H
        clear H
        have H := H1
        clear H1
        simp only [Option.some.injEq, Prod.mk.injEq] at H
        obtain ⟨rfl, rfl, rfl⟩ := H
        have hnb19 := NB262_261.out
        have hnc19 := NB261_262.out
        have hcz20_0 : wc.cell? ⟨gb262, 0, none⟩ = some (.int .i64 0) := (blk_cell BK262.out 0).trans rfl
        have hcz20_1 : wc.cell? ⟨gb262, 1, none⟩ = some (.int .i64 0) := (blk_cell BK262.out 1).trans rfl
        have hfz20_0 := blk_frozen BK262.out 0
        have hfz20_1 := blk_frozen BK262.out 1
        go_wp2
        repeat (go_quiet (fail); try go_wp2)
        refine bodyPost_ret (results_ct rfl _ _ gb262 23 #[.int .i64 0, .int .i64 0] (0, 0) _ rfl (by (with_reducible repeat (first | refine blk_drewN ?_ _ | refine blk_drew ?_ | refine blk_alloc ?_ _)); refine blk_put (cs := #[.int .i64 0, .int .i64 0]) ?_ 1 _ rfl; (with_reducible repeat (first | refine blk_drewN ?_ _ | refine blk_drew ?_ | refine blk_alloc ?_ _)); refine blk_put (cs := #[.int .i64 0, .int .i64 0]) ?_ 0 _ rfl; (with_reducible repeat (first | refine blk_drewN ?_ _ | refine blk_drew ?_ | refine blk_alloc ?_ _)); exact BK262.out) Tryd.underlying23 rfl (by kernel_rfl)) rfl ?_
        exact ⟨by first | rfl | (simp [errW_none, errW_some] <;> rfl) | (simp [*, errW_none, errW_some] <;> rfl), by repeat (first | (with_reducible first | exact HB.out | apply below_alloc | apply pw_below_drewN | apply below_drew1 | refine below_set ?_ GE261.out | refine below_set ?_ GE262.out) | exact HB.out)⟩
      · replace c18 := Bool.eq_false_iff.mpr c18
        subst c18
        have H1 : (if a1 = 0 then (none) else (if (Int.tmod a0_1 a1) = 0 then (mandolineref01_Align.j1 kj2 a1 false (wrap64 ((wrap64 (Int.tdiv a0_0 a1)) * a1)) a0_1) else ((mandolineref01_end.f).bind fun t264 => (mandolineref01_Align.j1 kj2 a1 (a0_1 != t264) (wrap64 ((wrap64 (Int.tdiv a0_0 a1)) * a1)) a0_1)))) = some (r1, r2, r3) := by rw [if_neg (show ¬ (false = true) by decide)] at H; exact H
        clear H
        have H := H1
        clear H1
        by_cases c21 : a1 = 0
        · rw [if_pos c21] at H
          exact absurd H (by simp)
        · rw [if_neg c21] at H
          have c21b0 : (a1 == 0) = false := beq_eq_false_iff_ne.mpr c21
          have c21b1 : (a1 != 0) = true := bne_iff_ne.mpr c21
          have HC22 := Aside0.mk H
          clear H
          have hnb23 := NB261_262.out
          have hnc23 := NB262_261.out
          have hcz24_0 : wc.cell? ⟨gb261, 0, none⟩ = some (.int .i64 a0_0) := (blk_cell BK261.out 0).trans rfl
          have hcz24_1 : wc.cell? ⟨gb261, 1, none⟩ = some (.int .i64 a0_1) := (blk_cell BK261.out 1).trans rfl
          have hfz24_0 := blk_frozen BK261.out 0
          have hfz24_1 := blk_frozen BK261.out 1
          go_upto_region 4 with (fail)
          repeat (go_quiet (fail); go_upto_region 4 with (fail))
          go_cut [35] (fun v35 wc => ∃ (kq : Nat) (x35_21 : Bool), v35 = .bool x35_21 ∧ Aside0 (mandolineref01_Align.j1 kq a1 x35_21 (wrap64 ((wrap64 (Int.tdiv a0_0 a1)) * a1)) a0_1 = some (r1, r2, r3)) ∧ Aside0 (kq ≤ kj2) ∧ Aside0 (wc.heap[gb261]? = some (.cells #[.int .i64 (wrap64 ((wrap64 (Int.tdiv a0_0 a1)) * a1)), .int .i64 a0_1] 23 (0, 0))) ∧ Aside0 (wc.heap[gb262]? = some (.cells #[.int .i64 0, .int .i64 0] 23 (0, 0))) ∧ Aside0 (Below w.heap.size w wc))
          case first =>
            have H := HC22.out
            clear HC22
            by_cases c25 : (Int.tmod a0_1 a1) = 0
            · rw [if_pos c25] at H
              have c25b0 : ((Int.tmod a0_1 a1) == 0) = true := beq_iff_eq.mpr c25
              have c25b1 : ((Int.tmod a0_1 a1) != 0) = false := bne_eq_false_iff_eq.mpr c25
              clear c25
              (first | rw [c25b0] | (simp only [i64_w, i32_w]; rw [c25b0]) | skip)
              have H' := Aside0.mk H
              clear H
              have hnb26 := NB261_262.out
              have hnc26 := NB262_261.out
              have hcz27_0 : wc.cell? ⟨gb261, 0, none⟩ = some (.int .i64 a0_0) := (blk_cell BK261.out 0).trans rfl
              have hcz27_1 : wc.cell? ⟨gb261, 1, none⟩ = some (.int .i64 a0_1) := (blk_cell BK261.out 1).trans rfl
              have hfz27_0 := blk_frozen BK261.out 0
              have hfz27_1 := blk_frozen BK261.out 1
              go_wp2
              repeat (go_quiet (fail); try go_wp2)
              go_meet
              case rel => exact ⟨_, (false), (by first | rfl | (simp; done) | (simp [*]; done)), H', ⟨by have := HJ2.out; first | omega | exact Nat.le_refl _⟩, ⟨by (with_reducible repeat (first | refine blk_drewN ?_ _ | refine blk_drew ?_ | refine blk_alloc ?_ _)); refine blk_put (cs := #[.int .i64 a0_0, .int .i64 a0_1]) ?_ 0 _ rfl; (with_reducible repeat (first | refine blk_drewN ?_ _ | refine blk_drew ?_ | refine blk_alloc ?_ _)); exact BK261.out⟩, ⟨by (with_reducible repeat (first | refine blk_drewN ?_ _ | refine blk_drew ?_ | refine blk_alloc ?_ _)); refine blk_far ?_ NB262_261.out _; (with_reducible repeat (first | refine blk_drewN ?_ _ | refine blk_drew ?_ | refine blk_alloc ?_ _)); exact BK262.out⟩, ⟨by repeat (first | (with_reducible first | exact HB.out | apply below_alloc | apply pw_below_drewN | apply below_drew1 | refine below_set ?_ GE261.out | refine below_set ?_ GE262.out) | exact HB.out)⟩⟩
            · rw [if_neg c25] at H
              have c25b0 : ((Int.tmod a0_1 a1) == 0) = false := beq_eq_false_iff_ne.mpr c25
              have c25b1 : ((Int.tmod a0_1 a1) != 0) = true := bne_iff_ne.mpr c25
              (first | rw [c25b0] | (simp only [i64_w, i32_w]; rw [c25b0]) | skip)
              replace H := Option.bind_eq_some_iff.mp H
              obtain ⟨t264, A280, H⟩ := H
              replace H : (mandolineref01_Align.j1 kj2 a1 (a0_1 != t264) (wrap64 ((wrap64 (Int.tdiv a0_0 a1)) * a1)) a0_1) = some (r1, r2, r3) := H
              have A28 := Aside0.mk A280
              clear A280
              have H' := Aside0.mk H
              clear H
              have hnb29 := NB261_262.out
              have hnc29 := NB262_261.out
              have hcz30_0 : wc.cell? ⟨gb261, 0, none⟩ = some (.int .i64 a0_0) := (blk_cell BK261.out 0).trans rfl
              have hcz30_1 : wc.cell? ⟨gb261, 1, none⟩ = some (.int .i64 a0_1) := (blk_cell BK261.out 1).trans rfl
              have hfz30_0 := blk_frozen BK261.out 0
              have hfz30_1 := blk_frozen BK261.out 1
              go_wp2_with (first | (go_at_call 35; (with_reducible refine (mandolineref01_end.calls  t264 _ A28.out).mono ?_); rintro e w' ⟨rfl, ⟨nd, rfl⟩⟩; (try first | exact ⟨rfl, _, World.drewN_drewN _ _ _⟩ | exact ⟨rfl, _, Eq.trans (World.drewN_drewN _ _ _) (congrArg (World.drewN _) (Nat.add_assoc _ _ _))⟩)))
              repeat (go_quiet (first | (go_at_call 35; (with_reducible refine (mandolineref01_end.calls  t264 _ A28.out).mono ?_); rintro e w' ⟨rfl, ⟨nd, rfl⟩⟩; (try first | exact ⟨rfl, _, World.drewN_drewN _ _ _⟩ | exact ⟨rfl, _, Eq.trans (World.drewN_drewN _ _ _) (congrArg (World.drewN _) (Nat.add_assoc _ _ _))⟩))); try go_wp2_with (first | (go_at_call 35; (with_reducible refine (mandolineref01_end.calls  t264 _ A28.out).mono ?_); rintro e w' ⟨rfl, ⟨nd, rfl⟩⟩; (try first | exact ⟨rfl, _, World.drewN_drewN _ _ _⟩ | exact ⟨rfl, _, Eq.trans (World.drewN_drewN _ _ _) (congrArg (World.drewN _) (Nat.add_assoc _ _ _))⟩))))
              go_meet
              case rel => exact ⟨_, ((a0_1 != t264)), (by first | rfl | (simp; done) | (simp [*]; done)), H', ⟨by have := HJ2.out; first | omega | exact Nat.le_refl _⟩, ⟨by (with_reducible repeat (first | refine blk_drewN ?_ _ | refine blk_drew ?_ | refine blk_alloc ?_ _)); refine blk_put (cs := #[.int .i64 a0_0, .int .i64 a0_1]) ?_ 0 _ rfl; (with_reducible repeat (first | refine blk_drewN ?_ _ | refine blk_drew ?_ | refine blk_alloc ?_ _)); exact BK261.out⟩, ⟨by (with_reducible repeat (first | refine blk_drewN ?_ _ | refine blk_drew ?_ | refine blk_alloc ?_ _)); refine blk_far ?_ NB262_261.out _; (with_reducible repeat (first | refine blk_drewN ?_ _ | refine blk_drew ?_ | refine blk_alloc ?_ _)); exact BK262.out⟩, ⟨by repeat (first | (with_reducible first | exact HB.out | apply below_alloc | apply pw_below_drewN | apply below_drew1 | refine below_set ?_ GE261.out | refine below_set ?_ GE262.out) | exact HB.out)⟩⟩
          case rest =>
            clear HC22
            try clear c1
            try clear c2
            try clear p2
            try clear p6
            try clear c7
            try clear c8
            try clear c8b0
            try clear c9
            try clear c12
            try clear c15
            try clear c18
            try clear c19
            try clear c21
            try clear c21b0
            try clear c21b1
            try clear c23
            try clear c25
            try clear c25b0
            try clear c25b1
            try clear c26
            try clear c29
            try clear hcz10_0
            try clear hcz10_1
            try clear hcz13_0
            try clear hcz13_1
            try clear hcz16_0
            try clear hcz16_1
            try clear hcz20_0
            try clear hcz20_1
            try clear hcz24_0
            try clear hcz24_1
            try clear hcz27_0
            try clear hcz27_1
            try clear hcz30_0
            try clear hcz30_1
            try clear hfz10_0
            try clear hfz10_1
            try clear hfz13_0
            try clear hfz13_1
            try clear hfz16_0
            try clear hfz16_1
            try clear hfz20_0
            try clear hfz20_1
            try clear hfz24_0
            try clear hfz24_1
            try clear hfz27_0
            try clear hfz27_1
            try clear hfz30_0
            try clear hfz30_1
            try clear p2
            obtain ⟨kq, x35_21, rfl, HA, HJ21, BK261, BK262, HB⟩ := hcut
            cases kq with
            | zero => exact absurd HA.out (by simp [mandolineref01_Align.j1])
            | succ kj21 =>
              have H := HA.out
              clear HA
              simp only [mandolineref01_Align.j1] at H
              have HC31 := Aside0.mk H
              clear H
              go_upto_if 35 with (fail)
              repeat (go_quiet (fail); go_upto_if 35 with (fail))
              go_cut [] (fun wc => ∃ (kq : Nat) (x262001_30 : Int), Aside0 (mandolineref01_Align.j2 kq (wrap64 ((wrap64 (Int.tdiv a0_0 a1)) * a1)) x262001_30 = some (r1, r2, r3)) ∧ Aside0 (kq ≤ kj21) ∧ Aside0 (wc.heap[gb261]? = some (.cells #[.int .i64 (wrap64 ((wrap64 (Int.tdiv a0_0 a1)) * a1)), .int .i64 x262001_30] 23 (0, 0))) ∧ Aside0 (wc.heap[gb262]? = some (.cells #[.int .i64 0, .int .i64 0] 23 (0, 0))) ∧ Aside0 (Below w.heap.size w wc))
              case first =>
                have H := HC31.out
                clear HC31
                by_cases c32 : x35_21 = true
                · subst c32
                  have H1 : (if a1 = 0 then (none) else (mandolineref01_Align.j2 kj21 (wrap64 ((wrap64 (Int.tdiv a0_0 a1)) * a1)) (wrap64 ((wrap64 ((wrap64 (Int.tdiv a0_1 a1)) + 1)) * a1)))) = some (r1, r2, r3) := by rw [if_pos rfl] at H; exact H
                  clear H
                  have H := H1
                  clear H1
                  by_cases c33 : a1 = 0
                  · rw [if_pos c33] at H
                    exact absurd H (by simp)
                  · rw [if_neg c33] at H
                    have c33b0 : (a1 == 0) = false := beq_eq_false_iff_ne.mpr c33
                    have c33b1 : (a1 != 0) = true := bne_iff_ne.mpr c33
                    (first | rw [c33b0] | (simp only [i64_w, i32_w]; rw [c33b0]) | skip)
                    have H' := Aside0.mk H
                    clear H
                    have hnb34 := NB261_262.out
                    have hnc34 := NB262_261.out
                    have hcz35_0 : wc.cell? ⟨gb261, 0, none⟩ = some (.int .i64 (wrap64 ((wrap64 (Int.tdiv a0_0 a1)) * a1))) := (blk_cell BK261.out 0).trans rfl
                    have hcz35_1 : wc.cell? ⟨gb261, 1, none⟩ = some (.int .i64 a0_1) := (blk_cell BK261.out 1).trans rfl
                    have hfz35_0 := blk_frozen BK261.out 0
                    have hfz35_1 := blk_frozen BK261.out 1
                    go_wp2
                    repeat (go_quiet (fail); try go_wp2)
                    go_meet
                    case rel => exact ⟨_, (wrap64 ((wrap64 ((wrap64 (Int.tdiv a0_1 a1)) + 1)) * a1)), H', ⟨by have := HJ2.out; have := HJ21.out; first | omega | exact Nat.le_refl _⟩, ⟨by (with_reducible repeat (first | refine blk_drewN ?_ _ | refine blk_drew ?_ | refine blk_alloc ?_ _)); refine blk_put (cs := #[.int .i64 (wrap64 ((wrap64 (Int.tdiv a0_0 a1)) * a1)), .int .i64 a0_1]) ?_ 1 _ rfl; (with_reducible repeat (first | refine blk_drewN ?_ _ | refine blk_drew ?_ | refine blk_alloc ?_ _)); exact BK261.out⟩, ⟨by (with_reducible repeat (first | refine blk_drewN ?_ _ | refine blk_drew ?_ | refine blk_alloc ?_ _)); refine blk_far ?_ NB262_261.out _; (with_reducible repeat (first | refine blk_drewN ?_ _ | refine blk_drew ?_ | refine blk_alloc ?_ _)); exact BK262.out⟩, ⟨by repeat (first | (with_reducible first | exact HB.out | apply below_alloc | apply pw_below_drewN | apply below_drew1 | refine below_set ?_ GE261.out | refine below_set ?_ GE262.out) | exact HB.out)⟩⟩
                · replace c32 := Bool.eq_false_iff.mpr c32
                  subst c32
                  have H1 : (mandolineref01_Align.j2 kj21 (wrap64 ((wrap64 (Int.tdiv a0_0 a1)) * a1)) a0_1) = some (r1, r2, r3) := by rw [if_neg (show ¬ (false = true) by decide)] at H; exact H
                  clear H
                  have H := H1
                  clear H1
                  have H' := Aside0.mk H
                  clear H
                  go_wp2
                  repeat (go_quiet (fail); try go_wp2)
                  go_meet
                  case rel => exact ⟨_, (a0_1), H', ⟨by have := HJ2.out; have := HJ21.out; first | omega | exact Nat.le_refl _⟩, ⟨by (with_reducible repeat (first | refine blk_drewN ?_ _ | refine blk_drew ?_ | refine blk_alloc ?_ _)); exact BK261.out⟩, ⟨by (with_reducible repeat (first | refine blk_drewN ?_ _ | refine blk_drew ?_ | refine blk_alloc ?_ _)); exact BK262.out⟩, ⟨by repeat (first | (with_reducible first | exact HB.out | apply below_alloc | apply pw_below_drewN | apply below_drew1 | refine below_set ?_ GE261.out | refine below_set ?_ GE262.out) | exact HB.out)⟩⟩
              case rest =>
                clear HC31
                try clear c1
                try clear c2
                try clear p2
                try clear c3
                try clear p6
                try clear c7
                try clear c8
                try clear c8b0
                try clear c9
                try clear c12
                try clear c15
                try clear c18
                try clear c19
                try clear c21
                try clear c21b0
                try clear c21b1
                try clear c23
                try clear c25
                try clear c25b0
                try clear c25b1
                try clear c26
                try clear c29
                try clear c32
                try clear c33
                try clear c33b0
                try clear c33b1
                try clear c34
                try clear hcz10_0
                try clear hcz10_1
                try clear hcz13_0
                try clear hcz13_1
                try clear hcz16_0
                try clear hcz16_1
                try clear hcz20_0
                try clear hcz20_1
                try clear hcz24_0
                try clear hcz24_1
                try clear hcz27_0
                try clear hcz27_1
                try clear hcz30_0
                try clear hcz30_1
                try clear hcz35_0
                try clear hcz35_1
                try clear hfz10_0
                try clear hfz10_1
                try clear hfz13_0
                try clear hfz13_1
                try clear hfz16_0
                try clear hfz16_1
                try clear hfz20_0
                try clear hfz20_1
                try clear hfz24_0
                try clear hfz24_1
                try clear hfz27_0
                try clear hfz27_1
                try clear hfz30_0
                try clear hfz30_1
                try clear hfz35_0
                try clear hfz35_1
                try clear p2
                try clear p6
                obtain ⟨kq, x262001_30, HA, HJ30, BK261, BK262, HB⟩ := hcut
                cases kq with
                | zero => exact absurd HA.out (by simp [mandolineref01_Align.j2])
                | succ kj30 =>
                  have H := HA.out
                  clear HA
                  simp only [mandolineref01_Align.j2] at H
                  replace H := Option.bind_eq_some_iff.mp H
                  obtain ⟨t265, A360, H⟩ := H
                  replace H : (if x262001_30 > t265 then (some ((wrap64 ((wrap64 (Int.tdiv a0_0 a1)) * a1)), t265, 0)) else (some ((wrap64 ((wrap64 (Int.tdiv a0_0 a1)) * a1)), x262001_30, 0))) = some (r1, r2, r3) := H
                  have A36 := Aside0.mk A360
                  clear A360
                  by_cases c37 : x262001_30 > t265
                  · rw [if_pos c37] at H
                    have c37b0 : decide (t265 < x262001_30) = true := decide_eq_true c37
                    clear c37
                    simp only [Option.some.injEq, Prod.mk.injEq] at H
                    obtain ⟨rfl, rfl, rfl⟩ := H
                    have hnb38 := NB261_262.out
                    have hnc38 := NB262_261.out
                    have hcz39_0 : wc.cell? ⟨gb261, 0, none⟩ = some (.int .i64 (wrap64 ((wrap64 (Int.tdiv a0_0 a1)) * a1))) := (blk_cell BK261.out 0).trans rfl
                    have hcz39_1 : wc.cell? ⟨gb261, 1, none⟩ = some (.int .i64 x262001_30) := (blk_cell BK261.out 1).trans rfl
                    have hfz39_0 := blk_frozen BK261.out 0
                    have hfz39_1 := blk_frozen BK261.out 1
                    go_wp2_with (first | (go_at_call 35; (with_reducible refine (mandolineref01_end.calls  t265 _ A36.out).mono ?_); rintro e w' ⟨rfl, ⟨nd, rfl⟩⟩; (try first | exact ⟨rfl, _, World.drewN_drewN _ _ _⟩ | exact ⟨rfl, _, Eq.trans (World.drewN_drewN _ _ _) (congrArg (World.drewN _) (Nat.add_assoc _ _ _))⟩); have hcz40_0 : wc.cell? ⟨gb262, 0, none⟩ = some (.int .i64 0) := (blk_cell BK262.out 0).trans rfl; have hcz40_1 : wc.cell? ⟨gb262, 1, none⟩ = some (.int .i64 0) := (blk_cell BK262.out 1).trans rfl; have hfz40_0 := blk_frozen BK262.out 0; have hfz40_1 := blk_frozen BK262.out 1))
                    repeat (go_quiet (first | (go_at_call 35; (with_reducible refine (mandolineref01_end.calls  t265 _ A36.out).mono ?_); rintro e w' ⟨rfl, ⟨nd, rfl⟩⟩; (try first | exact ⟨rfl, _, World.drewN_drewN _ _ _⟩ | exact ⟨rfl, _, Eq.trans (World.drewN_drewN _ _ _) (congrArg (World.drewN _) (Nat.add_assoc _ _ _))⟩); have hcz40_0 : wc.cell? ⟨gb262, 0, none⟩ = some (.int .i64 0) := (blk_cell BK262.out 0).trans rfl; have hcz40_1 : wc.cell? ⟨gb262, 1, none⟩ = some (.int .i64 0) := (blk_cell BK262.out 1).trans rfl; have hfz40_0 := blk_frozen BK262.out 0; have hfz40_1 := blk_frozen BK262.out 1)); try go_wp2_with (first | (go_at_call 35; (with_reducible refine (mandolineref01_end.calls  t265 _ A36.out).mono ?_); rintro e w' ⟨rfl, ⟨nd, rfl⟩⟩; (try first | exact ⟨rfl, _, World.drewN_drewN _ _ _⟩ | exact ⟨rfl, _, Eq.trans (World.drewN_drewN _ _ _) (congrArg (World.drewN _) (Nat.add_assoc _ _ _))⟩); have hcz40_0 : wc.cell? ⟨gb262, 0, none⟩ = some (.int .i64 0) := (blk_cell BK262.out 0).trans rfl; have hcz40_1 : wc.cell? ⟨gb262, 1, none⟩ = some (.int .i64 0) := (blk_cell BK262.out 1).trans rfl; have hfz40_0 := blk_frozen BK262.out 0; have hfz40_1 := blk_frozen BK262.out 1)))
                    refine bodyPost_ret (results_ct rfl _ _ gb262 23 #[.int .i64 (wrap64 ((wrap64 (Int.tdiv a0_0 a1)) * a1)), .int .i64 t265] (0, 0) _ rfl (by (with_reducible repeat (first | refine blk_drewN ?_ _ | refine blk_drew ?_ | refine blk_alloc ?_ _)); refine blk_put (cs := #[.int .i64 (wrap64 ((wrap64 (Int.tdiv a0_0 a1)) * a1)), .int .i64 0]) ?_ 1 _ rfl; (with_reducible repeat (first | refine blk_drewN ?_ _ | refine blk_drew ?_ | refine blk_alloc ?_ _)); refine blk_put (cs := #[.int .i64 0, .int .i64 0]) ?_ 0 _ rfl; (with_reducible repeat (first | refine blk_drewN ?_ _ | refine blk_drew ?_ | refine blk_alloc ?_ _)); refine blk_far ?_ NB262_261.out _; (with_reducible repeat (first | refine blk_drewN ?_ _ | refine blk_drew ?_ | refine blk_alloc ?_ _)); exact BK262.out) Tryd.underlying23 rfl (by kernel_rfl)) rfl ?_
                    exact ⟨by first | rfl | (simp [errW_none, errW_some] <;> rfl) | (simp [*, errW_none, errW_some] <;> rfl), by repeat (first | (with_reducible first | exact HB.out | apply below_alloc | apply pw_below_drewN | apply below_drew1 | refine below_set ?_ GE261.out | refine below_set ?_ GE262.out) | exact HB.out)⟩
                  · rw [if_neg c37] at H
                    have c37b0 : decide (t265 < x262001_30) = false := decide_eq_false c37
                    clear c37
                    simp only [Option.some.injEq, Prod.mk.injEq] at H
                    obtain ⟨rfl, rfl, rfl⟩ := H
                    have hnb41 := NB261_262.out
                    have hnc41 := NB262_261.out
                    have hcz42_0 : wc.cell? ⟨gb261, 0, none⟩ = some (.int .i64 (wrap64 ((wrap64 (Int.tdiv a0_0 a1)) * a1))) := (blk_cell BK261.out 0).trans rfl
                    have hcz42_1 : wc.cell? ⟨gb261, 1, none⟩ = some (.int .i64 x262001_30) := (blk_cell BK261.out 1).trans rfl
                    have hfz42_0 := blk_frozen BK261.out 0
                    have hfz42_1 := blk_frozen BK261.out 1
                    go_wp2_with (first | (go_at_call 35; (with_reducible refine (mandolineref01_end.calls  t265 _ A36.out).mono ?_); rintro e w' ⟨rfl, ⟨nd, rfl⟩⟩; (try first | exact ⟨rfl, _, World.drewN_drewN _ _ _⟩ | exact ⟨rfl, _, Eq.trans (World.drewN_drewN _ _ _) (congrArg (World.drewN _) (Nat.add_assoc _ _ _))⟩); have hcz43_0 : wc.cell? ⟨gb262, 0, none⟩ = some (.int .i64 0) := (blk_cell BK262.out 0).trans rfl; have hcz43_1 : wc.cell? ⟨gb262, 1, none⟩ = some (.int .i64 0) := (blk_cell BK262.out 1).trans rfl; have hfz43_0 := blk_frozen BK262.out 0; have hfz43_1 := blk_frozen BK262.out 1))
                    repeat (go_quiet (first | (go_at_call 35; (with_reducible refine (mandolineref01_end.calls  t265 _ A36.out).mono ?_); rintro e w' ⟨rfl, ⟨nd, rfl⟩⟩; (try first | exact ⟨rfl, _, World.drewN_drewN _ _ _⟩ | exact ⟨rfl, _, Eq.trans (World.drewN_drewN _ _ _) (congrArg (World.drewN _) (Nat.add_assoc _ _ _))⟩); have hcz43_0 : wc.cell? ⟨gb262, 0, none⟩ = some (.int .i64 0) := (blk_cell BK262.out 0).trans rfl; have hcz43_1 : wc.cell? ⟨gb262, 1, none⟩ = some (.int .i64 0) := (blk_cell BK262.out 1).trans rfl; have hfz43_0 := blk_frozen BK262.out 0; have hfz43_1 := blk_frozen BK262.out 1)); try go_wp2_with (first | (go_at_call 35; (with_reducible refine (mandolineref01_end.calls  t265 _ A36.out).mono ?_); rintro e w' ⟨rfl, ⟨nd, rfl⟩⟩; (try first | exact ⟨rfl, _, World.drewN_drewN _ _ _⟩ | exact ⟨rfl, _, Eq.trans (World.drewN_drewN _ _ _) (congrArg (World.drewN _) (Nat.add_assoc _ _ _))⟩); have hcz43_0 : wc.cell? ⟨gb262, 0, none⟩ = some (.int .i64 0) := (blk_cell BK262.out 0).trans rfl; have hcz43_1 : wc.cell? ⟨gb262, 1, none⟩ = some (.int .i64 0) := (blk_cell BK262.out 1).trans rfl; have hfz43_0 := blk_frozen BK262.out 0; have hfz43_1 := blk_frozen BK262.out 1)))
                    refine bodyPost_ret (results_ct rfl _ _ gb262 23 #[.int .i64 (wrap64 ((wrap64 (Int.tdiv a0_0 a1)) * a1)), .int .i64 x262001_30] (0, 0) _ rfl (by (with_reducible repeat (first | refine blk_drewN ?_ _ | refine blk_drew ?_ | refine blk_alloc ?_ _)); refine blk_put (cs := #[.int .i64 (wrap64 ((wrap64 (Int.tdiv a0_0 a1)) * a1)), .int .i64 0]) ?_ 1 _ rfl; (with_reducible repeat (first | refine blk_drewN ?_ _ | refine blk_drew ?_ | refine blk_alloc ?_ _)); refine blk_put (cs := #[.int .i64 0, .int .i64 0]) ?_ 0 _ rfl; (with_reducible repeat (first | refine blk_drewN ?_ _ | refine blk_drew ?_ | refine blk_alloc ?_ _)); exact BK262.out) Tryd.underlying23 rfl (by kernel_rfl)) rfl ?_
                    exact ⟨by first | rfl | (simp [errW_none, errW_some] <;> rfl) | (simp [*, errW_none, errW_some] <;> rfl), by repeat (first | (with_reducible first | exact HB.out | apply below_alloc | apply pw_below_drewN | apply below_drew1 | refine below_set ?_ GE261.out | refine below_set ?_ GE262.out) | exact HB.out)⟩

end Go.Proofs.YtigfmjmdacligaaDoor.X
