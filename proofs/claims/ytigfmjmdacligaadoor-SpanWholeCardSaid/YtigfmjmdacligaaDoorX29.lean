-- Printed by a program of this session (pp.py: the kit's print.py, run with contracts of its own) out of the translation. Not trusted: Lean checks it.
import Derived.Test.YtigfmjmdacligaaDoorX0
import Derived.Test.YtigfmjmdacligaaDoorX2
import Derived.Test.YtigfmjmdacligaaDoorX6
import Derived.Test.YtigfmjmdacligaaDoorX9
namespace Go.Proofs.YtigfmjmdacligaaDoor.X
open Go.RowKit Go.Proofs.YtigfmjmdacligaaDoorW.PrintWords Go.Proofs.YtigfmjmdacligaaDoorW.PrintLast Go.Proofs.YtigfmjmdacligaaDoorW.PrintMore
attribute [local go_sem] max2_int min2_int max_two min_two max_three min_three max_four min_four   -- for this text's walks alone
set_option linter.unusedVariables false
set_option linter.unusedSimpArgs false

/-! ### mandolinelaw01_SpanWhole: function 11 -/
def mandolinelaw01_SpanWhole.j0 : Nat → Int → Bool → Int → Int → Int → Int → Option (Bool)
  | 0, _, _, _, _, _, _ => none
  | k + 1, x1, x23, x406000, x406001, x410000, x410001 => if x23 = true then ((mandolinelaw01_awake.f k).bind fun t412 => (some t412)) else (if x1 = 0 then (none) else (if (Int.tmod x410000 x1) = 0 then (if (Int.tmod x410001 x1) = 0 then ((span_Has.f x410000 x410001 x406000).bind fun t413 => (if t413 = true then (if (wrap64 (x410000 + x1)) ≤ x406000 then (some false) else (if x406001 = 4611686018427387904 then (if x410001 = 4611686018427387904 then (some true) else (some false)) else (some (decide ((wrap64 (x410001 - x1)) < x406001))))) else (some false))) else (if x410001 = 4611686018427387904 then ((span_Has.f x410000 x410001 x406000).bind fun t414 => (if t414 = true then (if (wrap64 (x410000 + x1)) ≤ x406000 then (some false) else (if x406001 = 4611686018427387904 then (some true) else (some (decide ((wrap64 (x410001 - x1)) < x406001))))) else (some false))) else (some false))) else (some false)))
def mandolinelaw01_SpanWhole.f (k : Nat) (a0_0 : Int) (a0_1 : Int) (a1 : Int) : Option (Bool) := (span_Align.f k a0_0 a0_1 a1).bind fun bt406 => ((mandolinelaw01_awake.f k).bind fun t410 => (if t410 = true then (if bt406.2.2 = 0 then ((span_Len.f a0_0 a0_1).bind fun t411 => (mandolinelaw01_SpanWhole.j0 k a1 (t411 == 0) a0_0 a0_1 bt406.1 bt406.2.1)) else (mandolinelaw01_SpanWhole.j0 k a1 true a0_0 a0_1 bt406.1 bt406.2.1)) else (mandolinelaw01_SpanWhole.j0 k a1 true a0_0 a0_1 bt406.1 bt406.2.1)))
theorem mandolinelaw01_SpanWhole.mono_l : ∀ k, (∀ y0 y1 y2 y3 y4 y5, LeO (mandolinelaw01_SpanWhole.j0 k y0 y1 y2 y3 y4 y5) (mandolinelaw01_SpanWhole.j0 (k + 1) y0 y1 y2 y3 y4 y5))
  | 0 => fun _ _ _ _ _ _ r h => by simp [mandolinelaw01_SpanWhole.j0] at h
  | k + 1 => by
    have ih0 := mandolinelaw01_SpanWhole.mono_l k
    · intro y0 y1 y2 y3 y4 y5
      unfold mandolinelaw01_SpanWhole.j0
      repeat' first
      | (with_reducible exact ih0 _ _ _ _ _ _)
      | (with_reducible exact mandolinelaw01_awake.mono _)
      | (with_reducible exact span_Align.mono _ _ _ _)
      | (with_reducible exact LeO.refl _)
      | (with_reducible exact LeO.none _)
      | (with_reducible refine LeO.ite ?_ ?_)
      | (with_reducible refine LeO.bind ?_ (fun _ => ?_))
      | exact ih0 _ _ _ _ _ _
      | exact mandolinelaw01_awake.mono _
      | exact span_Align.mono _ _ _ _
      | exact LeO.none _
      | refine LeO.ite ?_ ?_
      | refine LeO.bind ?_ (fun _ => ?_)
theorem mandolinelaw01_SpanWhole.mono : ∀ a0 a1 a2 k, LeO (mandolinelaw01_SpanWhole.f k a0 a1 a2) (mandolinelaw01_SpanWhole.f (k + 1) a0 a1 a2) := by
  intro a0 a1 a2 k
  have ih0 := mandolinelaw01_SpanWhole.mono_l k
  unfold mandolinelaw01_SpanWhole.f
  repeat' first
      | (with_reducible exact ih0 _ _ _ _ _ _)
      | (with_reducible exact mandolinelaw01_awake.mono _)
      | (with_reducible exact span_Align.mono _ _ _ _)
      | (with_reducible exact LeO.refl _)
      | (with_reducible exact LeO.none _)
      | (with_reducible refine LeO.ite ?_ ?_)
      | (with_reducible refine LeO.bind ?_ (fun _ => ?_))
      | exact ih0 _ _ _ _ _ _
      | exact mandolinelaw01_awake.mono _
      | exact span_Align.mono _ _ _ _
      | exact LeO.none _
      | refine LeO.ite ?_ ?_
      | refine LeO.bind ?_ (fun _ => ?_)
set_option maxHeartbeats 8000000 in
set_option maxRecDepth 100000 in
theorem mandolinelaw01_SpanWhole.calls (k : Nat) (a0_0 : Int) (a0_1 : Int) (a1 : Int) (r : Bool) (w : World) (hG : Glob w) (h : mandolinelaw01_SpanWhole.f k a0_0 a0_1 a1 = some r) :
    Calls Tryd.prog 11 #[.agg #[.int .i64 a0_0, .int .i64 a0_1], .int .i64 a1] w fun e w' => e = .returned (.bool r) ∧ Below w.heap.size w w' := by
  have HG := Aside0.mk hG
  clear hG
  have hu23 := Tryd.underlying23
  have HB := Aside0.mk (Below.refl w.heap.size w)
  have H : ((span_Align.f k a0_0 a0_1 a1).bind fun bt406 => ((mandolinelaw01_awake.f k).bind fun t410 => (if t410 = true then (if bt406.2.2 = 0 then ((span_Len.f a0_0 a0_1).bind fun t411 => (mandolinelaw01_SpanWhole.j0 k a1 (t411 == 0) a0_0 a0_1 bt406.1 bt406.2.1)) else (mandolinelaw01_SpanWhole.j0 k a1 true a0_0 a0_1 bt406.1 bt406.2.1)) else (mandolinelaw01_SpanWhole.j0 k a1 true a0_0 a0_1 bt406.1 bt406.2.1)))) = some r := h
  clear h
  replace H := Option.bind_eq_some_iff.mp H
  obtain ⟨⟨t406, t407, t408⟩, A30, H⟩ := H
  replace H : ((mandolinelaw01_awake.f k).bind fun t410 => (if t410 = true then (if t408 = 0 then ((span_Len.f a0_0 a0_1).bind fun t411 => (mandolinelaw01_SpanWhole.j0 k a1 (t411 == 0) a0_0 a0_1 t406 t407)) else (mandolinelaw01_SpanWhole.j0 k a1 true a0_0 a0_1 t406 t407)) else (mandolinelaw01_SpanWhole.j0 k a1 true a0_0 a0_1 t406 t407))) = some r := H
  have A3 := Aside0.mk A30
  clear A30
  have HC4 := Aside0.mk H
  clear H
  go_enter Tryd.func11, Tryd.ntmps11
  go_upto_region 2 with (first | ((with_reducible refine gate_dst (N := 2) rfl ?_); refine box_event ?hg (N := 2) ?hd (cs := #[.int .i64 a0_0, .int .i64 a0_1]) (t := 23) ?hr ?_; (case hd => rfl); (case hg => rfl); (case hr => first | (go_simp; done) | (go_simp; rfl)); intro gb405 hg w5 hbox hb; have n0_ := Aside0.mk (below_step (by repeat (first | (with_reducible first | exact HB.out | apply below_alloc | apply pw_below_drewN | apply below_drew1) | exact HB.out)) hb); have n1_ := Aside0.mk (hbox); have n2_ := Aside0.mk ((by rw [hg]; exact (below_size (by repeat (first | (with_reducible first | exact HB.out | apply below_alloc | apply pw_below_drewN | apply below_drew1) | exact HB.out))) : w.heap.size ≤ gb405)); have n3_ := Aside0.mk ((by rw [hg]; exact (below_size (by repeat (first | (with_reducible first | exact HB.out | apply below_alloc | apply pw_below_drewN | apply below_drew1) | exact HB.out))) : w.heap.size ≤ gb405)); clear HB; have HB := n0_; have BK405 := n1_; have GW405 := n2_; have GE405 := n3_; clear n0_ n1_ n2_ n3_; clear hb hbox hg; have hcz6_0 : w5.cell? ⟨gb405, 0, none⟩ = some (.int .i64 a0_0) := (blk_cell BK405.out 0).trans rfl; have hcz6_1 : w5.cell? ⟨gb405, 1, none⟩ = some (.int .i64 a0_1) := (blk_cell BK405.out 1).trans rfl; have hfz6_0 := blk_frozen BK405.out 0; have hfz6_1 := blk_frozen BK405.out 1) | ((first | ((with_reducible refine gate_callee (f := 28) rfl ?_); refine goesL_ (some 10) rfl rfl Tryd.func28 (by kernel_rfl) rfl #[.agg #[.int .i64 a0_0, .int .i64 a0_1], .int .i64 a1] rfl (by (try simp only [List.map_toArray, List.map_cons, List.map_nil]); first | done | rfl | (simp only [List.length_drop, List.length_take]; rfl)) ?_; (with_reducible refine (span_Align.calls k a0_0 a0_1 a1 t406 t407 t408 _ A3.out).mono ?_); rintro e w7 ⟨rfl, hb⟩; refine ⟨_, rfl, ?_⟩) | (go_at_call 28; (with_reducible refine (span_Align.calls k a0_0 a0_1 a1 t406 t407 t408 _ A3.out).mono ?_); rintro e w7 ⟨rfl, hb⟩)); have n0_ := Aside0.mk (blk_below (g := gb405) (o := .cells #[.int .i64 a0_0, .int .i64 a0_1] 23 (0, 0)) (by (with_reducible repeat (first | refine blk_drewN ?_ _ | refine blk_drew ?_ | refine blk_alloc ?_ _)); exact BK405.out) hb); have n1_ := Aside0.mk (below_step (by repeat (first | (with_reducible first | exact HB.out | apply below_alloc | apply pw_below_drewN | apply below_drew1 | refine below_set ?_ GE405.out) | exact HB.out)) hb); clear BK405; clear HB; have BK405 := n0_; have HB := n1_; clear n0_ n1_; (try clear hb); (try clear hb2); (try clear hk); (try clear hi)) | ((with_reducible refine gate_dst (N := 5) rfl ?_); refine box_event ?hg (N := 5) ?hd (cs := #[.int .i64 0, .int .i64 0]) (t := 23) ?hr ?_; (case hd => rfl); (case hg => rfl); (case hr => first | (go_simp; done) | (go_simp; rfl)); intro gb409 hg w8 hbox hb; have n0_ := Aside0.mk (blk_below (g := gb405) (o := .cells #[.int .i64 a0_0, .int .i64 a0_1] 23 (0, 0)) (by (with_reducible repeat (first | refine blk_drewN ?_ _ | refine blk_drew ?_ | refine blk_alloc ?_ _)); exact BK405.out) hb); have n1_ := Aside0.mk (below_step (by repeat (first | (with_reducible first | exact HB.out | apply below_alloc | apply pw_below_drewN | apply below_drew1 | refine below_set ?_ GE405.out) | exact HB.out)) hb); have n2_ := Aside0.mk (hbox); have n3_ := Aside0.mk ((by rw [hg]; exact (below_size (by repeat (first | (with_reducible first | exact HB.out | apply below_alloc | apply pw_below_drewN | apply below_drew1 | refine below_set ?_ GE405.out) | exact HB.out))) : w.heap.size ≤ gb409)); have n4_ := Aside0.mk ((by rw [hg]; exact (below_size (by repeat (first | (with_reducible first | exact HB.out | apply below_alloc | apply pw_below_drewN | apply below_drew1 | refine below_set ?_ GE405.out) | exact HB.out))) : w.heap.size ≤ gb409)); have n5_ := Aside0.mk ((by rw [hg]; exact Nat.ne_of_lt (blk_lt (g := gb405) (o := .cells #[.int .i64 a0_0, .int .i64 a0_1] 23 (0, 0)) (by (with_reducible repeat (first | refine blk_drewN ?_ _ | refine blk_drew ?_ | refine blk_alloc ?_ _)); exact BK405.out)) : gb405 ≠ gb409)); have n6_ := Aside0.mk ((by rw [hg]; exact Nat.ne_of_gt (blk_lt (g := gb405) (o := .cells #[.int .i64 a0_0, .int .i64 a0_1] 23 (0, 0)) (by (with_reducible repeat (first | refine blk_drewN ?_ _ | refine blk_drew ?_ | refine blk_alloc ?_ _)); exact BK405.out)) : gb409 ≠ gb405)); clear BK405; clear HB; have BK405 := n0_; have HB := n1_; have BK409 := n2_; have GW409 := n3_; have GE409 := n4_; have NB405_409 := n5_; have NB409_405 := n6_; clear n0_ n1_ n2_ n3_ n4_ n5_ n6_; clear hb hbox hg; have hnb9 := NB409_405.out; have hnc9 := NB405_409.out; have hcz10_0 : w8.cell? ⟨gb409, 0, none⟩ = some (.int .i64 0) := (blk_cell BK409.out 0).trans rfl; have hcz10_1 : w8.cell? ⟨gb409, 1, none⟩ = some (.int .i64 0) := (blk_cell BK409.out 1).trans rfl; have hfz10_0 := blk_frozen BK409.out 0; have hfz10_1 := blk_frozen BK409.out 1))
  (try simp only [Act.put, List.setIfInBounds_toArray, List.set_cons_zero, List.set_cons_succ])
  go_cut [23] (fun v23 wc => ∃ (kq : Nat) (x23_3 : Bool), v23 = .bool x23_3 ∧ Aside0 (mandolinelaw01_SpanWhole.j0 kq a1 x23_3 a0_0 a0_1 t406 t407 = some r) ∧ Aside0 (kq ≤ k) ∧ Aside0 (wc.heap[gb405]? = some (.cells #[.int .i64 a0_0, .int .i64 a0_1] 23 (0, 0))) ∧ Aside0 (wc.heap[gb409]? = some (.cells #[.int .i64 t406, .int .i64 t407] 23 (0, 0))) ∧ Aside0 (Below w.heap.size w wc))
  case first =>
    have H := HC4.out
    clear HC4
    replace H := Option.bind_eq_some_iff.mp H
    obtain ⟨t410, A110, H⟩ := H
    replace H : (if t410 = true then (if t408 = 0 then ((span_Len.f a0_0 a0_1).bind fun t411 => (mandolinelaw01_SpanWhole.j0 k a1 (t411 == 0) a0_0 a0_1 t406 t407)) else (mandolinelaw01_SpanWhole.j0 k a1 true a0_0 a0_1 t406 t407)) else (mandolinelaw01_SpanWhole.j0 k a1 true a0_0 a0_1 t406 t407)) = some r := H
    have A11 := Aside0.mk A110
    clear A110
    by_cases c12 : t410 = true
    · subst c12
      have H1 : (if t408 = 0 then ((span_Len.f a0_0 a0_1).bind fun t411 => (mandolinelaw01_SpanWhole.j0 k a1 (t411 == 0) a0_0 a0_1 t406 t407)) else (mandolinelaw01_SpanWhole.j0 k a1 true a0_0 a0_1 t406 t407)) = some r := by rw [if_pos rfl] at H; exact H
      clear H
      have H := H1
      clear H1
      by_cases c13 : t408 = 0
      · rw [if_pos c13] at H
        have c13b0 : (t408 == 0) = true := beq_iff_eq.mpr c13
        have c13b1 : (t408 != 0) = false := bne_eq_false_iff_eq.mpr c13
        clear c13
        (first | rw [c13b0] | (simp only [i64_w, i32_w]; rw [c13b0]) | skip)
        replace H := Option.bind_eq_some_iff.mp H
        obtain ⟨t411, A140, H⟩ := H
        replace H : (mandolinelaw01_SpanWhole.j0 k a1 (t411 == 0) a0_0 a0_1 t406 t407) = some r := H
        have A14 := Aside0.mk A140
        clear A140
        have H' := Aside0.mk H
        clear H
        go_wp2_with (first | ((first | ((with_reducible refine gate_callee (f := 12) rfl ?_); refine goesL_ (some 13) rfl rfl Tryd.func12 (by kernel_rfl) rfl #[] rfl (by (try simp only [List.map_toArray, List.map_cons, List.map_nil]); first | done | rfl | (simp only [List.length_drop, List.length_take]; rfl)) ?_; (with_reducible refine (mandolinelaw01_awake.calls k  true _ ?side1 A11.out).mono ?_); (case side1 => exact Glob.below HG.out (by repeat (first | (with_reducible first | exact HB.out | apply below_alloc | apply pw_below_drewN | apply below_drew1 | refine below_set ?_ GE405.out | refine below_set ?_ GE409.out) | exact HB.out))); rintro e w15 ⟨rfl, hb⟩; refine ⟨_, rfl, ?_⟩) | (go_at_call 12; (with_reducible refine (mandolinelaw01_awake.calls k  true _ ?side1 A11.out).mono ?_); (case side1 => exact Glob.below HG.out (by repeat (first | (with_reducible first | exact HB.out | apply below_alloc | apply pw_below_drewN | apply below_drew1 | refine below_set ?_ GE405.out | refine below_set ?_ GE409.out) | exact HB.out))); rintro e w15 ⟨rfl, hb⟩)); have n0_ := Aside0.mk (blk_below (g := gb405) (o := .cells #[.int .i64 a0_0, .int .i64 a0_1] 23 (0, 0)) (by (with_reducible repeat (first | refine blk_drewN ?_ _ | refine blk_drew ?_ | refine blk_alloc ?_ _)); refine blk_far ?_ NB405_409.out _; (with_reducible repeat (first | refine blk_drewN ?_ _ | refine blk_drew ?_ | refine blk_alloc ?_ _)); refine blk_far ?_ NB405_409.out _; (with_reducible repeat (first | refine blk_drewN ?_ _ | refine blk_drew ?_ | refine blk_alloc ?_ _)); exact BK405.out) hb); have n1_ := Aside0.mk (blk_below (g := gb409) (o := .cells #[.int .i64 t406, .int .i64 t407] 23 (0, 0)) (by (with_reducible repeat (first | refine blk_drewN ?_ _ | refine blk_drew ?_ | refine blk_alloc ?_ _)); refine blk_put (cs := #[.int .i64 t406, .int .i64 0]) ?_ 1 _ rfl; (with_reducible repeat (first | refine blk_drewN ?_ _ | refine blk_drew ?_ | refine blk_alloc ?_ _)); refine blk_put (cs := #[.int .i64 0, .int .i64 0]) ?_ 0 _ rfl; (with_reducible repeat (first | refine blk_drewN ?_ _ | refine blk_drew ?_ | refine blk_alloc ?_ _)); exact BK409.out) hb); have n2_ := Aside0.mk (below_step (by repeat (first | (with_reducible first | exact HB.out | apply below_alloc | apply pw_below_drewN | apply below_drew1 | refine below_set ?_ GE405.out | refine below_set ?_ GE409.out) | exact HB.out)) hb); clear BK405; clear BK409; clear HB; have BK405 := n0_; have BK409 := n1_; have HB := n2_; clear n0_ n1_ n2_; (try clear hb); (try clear hb2); (try clear hk); (try clear hi); have hnb16 := NB405_409.out; have hnc16 := NB409_405.out; have hcz17_0 : w15.cell? ⟨gb405, 0, none⟩ = some (.int .i64 a0_0) := (blk_cell BK405.out 0).trans rfl; have hcz17_1 : w15.cell? ⟨gb405, 1, none⟩ = some (.int .i64 a0_1) := (blk_cell BK405.out 1).trans rfl; have hfz17_0 := blk_frozen BK405.out 0; have hfz17_1 := blk_frozen BK405.out 1) | (go_at_call 15; (with_reducible refine (span_Len.calls a0_0 a0_1 t411 _ A14.out).mono ?_); rintro e w18 ⟨rfl, hb⟩; have n0_ := Aside0.mk (blk_below (g := gb405) (o := .cells #[.int .i64 a0_0, .int .i64 a0_1] 23 (0, 0)) (by (with_reducible repeat (first | refine blk_drewN ?_ _ | refine blk_drew ?_ | refine blk_alloc ?_ _)); exact BK405.out) hb); have n1_ := Aside0.mk (blk_below (g := gb409) (o := .cells #[.int .i64 t406, .int .i64 t407] 23 (0, 0)) (by (with_reducible repeat (first | refine blk_drewN ?_ _ | refine blk_drew ?_ | refine blk_alloc ?_ _)); exact BK409.out) hb); have n2_ := Aside0.mk (below_step (by repeat (first | (with_reducible first | exact HB.out | apply below_alloc | apply pw_below_drewN | apply below_drew1 | refine below_set ?_ GE405.out | refine below_set ?_ GE409.out) | exact HB.out)) hb); clear BK405; clear BK409; clear HB; have BK405 := n0_; have BK409 := n1_; have HB := n2_; clear n0_ n1_ n2_; (try clear hb); (try clear hb2); (try clear hk); (try clear hi)))
        go_meet
        case rel => exact ⟨_, ((t411 == 0)), (by first | rfl | (simp; done) | (simp [*]; done)), H', ⟨by first | omega | exact Nat.le_refl _⟩, ⟨by (with_reducible repeat (first | refine blk_drewN ?_ _ | refine blk_drew ?_ | refine blk_alloc ?_ _)); exact BK405.out⟩, ⟨by (with_reducible repeat (first | refine blk_drewN ?_ _ | refine blk_drew ?_ | refine blk_alloc ?_ _)); exact BK409.out⟩, ⟨by repeat (first | (with_reducible first | exact HB.out | apply below_alloc | apply pw_below_drewN | apply below_drew1 | refine below_set ?_ GE405.out | refine below_set ?_ GE409.out) | exact HB.out)⟩⟩
      · rw [if_neg c13] at H
        have c13b0 : (t408 == 0) = false := beq_eq_false_iff_ne.mpr c13
        have c13b1 : (t408 != 0) = true := bne_iff_ne.mpr c13
        (first | rw [c13b0] | (simp only [i64_w, i32_w]; rw [c13b0]) | skip)
        have H' := Aside0.mk H
        clear H
        go_wp2_with (first | ((first | ((with_reducible refine gate_callee (f := 12) rfl ?_); refine goesL_ (some 13) rfl rfl Tryd.func12 (by kernel_rfl) rfl #[] rfl (by (try simp only [List.map_toArray, List.map_cons, List.map_nil]); first | done | rfl | (simp only [List.length_drop, List.length_take]; rfl)) ?_; (with_reducible refine (mandolinelaw01_awake.calls k  true _ ?side1 A11.out).mono ?_); (case side1 => exact Glob.below HG.out (by repeat (first | (with_reducible first | exact HB.out | apply below_alloc | apply pw_below_drewN | apply below_drew1 | refine below_set ?_ GE405.out | refine below_set ?_ GE409.out) | exact HB.out))); rintro e w19 ⟨rfl, hb⟩; refine ⟨_, rfl, ?_⟩) | (go_at_call 12; (with_reducible refine (mandolinelaw01_awake.calls k  true _ ?side1 A11.out).mono ?_); (case side1 => exact Glob.below HG.out (by repeat (first | (with_reducible first | exact HB.out | apply below_alloc | apply pw_below_drewN | apply below_drew1 | refine below_set ?_ GE405.out | refine below_set ?_ GE409.out) | exact HB.out))); rintro e w19 ⟨rfl, hb⟩)); have n0_ := Aside0.mk (blk_below (g := gb405) (o := .cells #[.int .i64 a0_0, .int .i64 a0_1] 23 (0, 0)) (by (with_reducible repeat (first | refine blk_drewN ?_ _ | refine blk_drew ?_ | refine blk_alloc ?_ _)); refine blk_far ?_ NB405_409.out _; (with_reducible repeat (first | refine blk_drewN ?_ _ | refine blk_drew ?_ | refine blk_alloc ?_ _)); refine blk_far ?_ NB405_409.out _; (with_reducible repeat (first | refine blk_drewN ?_ _ | refine blk_drew ?_ | refine blk_alloc ?_ _)); exact BK405.out) hb); have n1_ := Aside0.mk (blk_below (g := gb409) (o := .cells #[.int .i64 t406, .int .i64 t407] 23 (0, 0)) (by (with_reducible repeat (first | refine blk_drewN ?_ _ | refine blk_drew ?_ | refine blk_alloc ?_ _)); refine blk_put (cs := #[.int .i64 t406, .int .i64 0]) ?_ 1 _ rfl; (with_reducible repeat (first | refine blk_drewN ?_ _ | refine blk_drew ?_ | refine blk_alloc ?_ _)); refine blk_put (cs := #[.int .i64 0, .int .i64 0]) ?_ 0 _ rfl; (with_reducible repeat (first | refine blk_drewN ?_ _ | refine blk_drew ?_ | refine blk_alloc ?_ _)); exact BK409.out) hb); have n2_ := Aside0.mk (below_step (by repeat (first | (with_reducible first | exact HB.out | apply below_alloc | apply pw_below_drewN | apply below_drew1 | refine below_set ?_ GE405.out | refine below_set ?_ GE409.out) | exact HB.out)) hb); clear BK405; clear BK409; clear HB; have BK405 := n0_; have BK409 := n1_; have HB := n2_; clear n0_ n1_ n2_; (try clear hb); (try clear hb2); (try clear hk); (try clear hi)))
        go_meet
        case rel => exact ⟨_, (true), (by first | rfl | (simp; done) | (simp [*]; done)), H', ⟨by first | omega | exact Nat.le_refl _⟩, ⟨by (with_reducible repeat (first | refine blk_drewN ?_ _ | refine blk_drew ?_ | refine blk_alloc ?_ _)); exact BK405.out⟩, ⟨by (with_reducible repeat (first | refine blk_drewN ?_ _ | refine blk_drew ?_ | refine blk_alloc ?_ _)); exact BK409.out⟩, ⟨by repeat (first | (with_reducible first | exact HB.out | apply below_alloc | apply pw_below_drewN | apply below_drew1 | refine below_set ?_ GE405.out | refine below_set ?_ GE409.out) | exact HB.out)⟩⟩
    · replace c12 := Bool.eq_false_iff.mpr c12
      subst c12
      have H1 : (mandolinelaw01_SpanWhole.j0 k a1 true a0_0 a0_1 t406 t407) = some r := by rw [if_neg (show ¬ (false = true) by decide)] at H; exact H
      clear H
      have H := H1
      clear H1
      have H' := Aside0.mk H
      clear H
      go_wp2_with (first | ((first | ((with_reducible refine gate_callee (f := 12) rfl ?_); refine goesL_ (some 13) rfl rfl Tryd.func12 (by kernel_rfl) rfl #[] rfl (by (try simp only [List.map_toArray, List.map_cons, List.map_nil]); first | done | rfl | (simp only [List.length_drop, List.length_take]; rfl)) ?_; (with_reducible refine (mandolinelaw01_awake.calls k  false _ ?side1 A11.out).mono ?_); (case side1 => exact Glob.below HG.out (by repeat (first | (with_reducible first | exact HB.out | apply below_alloc | apply pw_below_drewN | apply below_drew1 | refine below_set ?_ GE405.out | refine below_set ?_ GE409.out) | exact HB.out))); rintro e w20 ⟨rfl, hb⟩; refine ⟨_, rfl, ?_⟩) | (go_at_call 12; (with_reducible refine (mandolinelaw01_awake.calls k  false _ ?side1 A11.out).mono ?_); (case side1 => exact Glob.below HG.out (by repeat (first | (with_reducible first | exact HB.out | apply below_alloc | apply pw_below_drewN | apply below_drew1 | refine below_set ?_ GE405.out | refine below_set ?_ GE409.out) | exact HB.out))); rintro e w20 ⟨rfl, hb⟩)); have n0_ := Aside0.mk (blk_below (g := gb405) (o := .cells #[.int .i64 a0_0, .int .i64 a0_1] 23 (0, 0)) (by (with_reducible repeat (first | refine blk_drewN ?_ _ | refine blk_drew ?_ | refine blk_alloc ?_ _)); refine blk_far ?_ NB405_409.out _; (with_reducible repeat (first | refine blk_drewN ?_ _ | refine blk_drew ?_ | refine blk_alloc ?_ _)); refine blk_far ?_ NB405_409.out _; (with_reducible repeat (first | refine blk_drewN ?_ _ | refine blk_drew ?_ | refine blk_alloc ?_ _)); exact BK405.out) hb); have n1_ := Aside0.mk (blk_below (g := gb409) (o := .cells #[.int .i64 t406, .int .i64 t407] 23 (0, 0)) (by (with_reducible repeat (first | refine blk_drewN ?_ _ | refine blk_drew ?_ | refine blk_alloc ?_ _)); refine blk_put (cs := #[.int .i64 t406, .int .i64 0]) ?_ 1 _ rfl; (with_reducible repeat (first | refine blk_drewN ?_ _ | refine blk_drew ?_ | refine blk_alloc ?_ _)); refine blk_put (cs := #[.int .i64 0, .int .i64 0]) ?_ 0 _ rfl; (with_reducible repeat (first | refine blk_drewN ?_ _ | refine blk_drew ?_ | refine blk_alloc ?_ _)); exact BK409.out) hb); have n2_ := Aside0.mk (below_step (by repeat (first | (with_reducible first | exact HB.out | apply below_alloc | apply pw_below_drewN | apply below_drew1 | refine below_set ?_ GE405.out | refine below_set ?_ GE409.out) | exact HB.out)) hb); clear BK405; clear BK409; clear HB; have BK405 := n0_; have BK409 := n1_; have HB := n2_; clear n0_ n1_ n2_; (try clear hb); (try clear hb2); (try clear hk); (try clear hi)))
      go_meet
      case rel => exact ⟨_, (true), (by first | rfl | (simp; done) | (simp [*]; done)), H', ⟨by first | omega | exact Nat.le_refl _⟩, ⟨by (with_reducible repeat (first | refine blk_drewN ?_ _ | refine blk_drew ?_ | refine blk_alloc ?_ _)); exact BK405.out⟩, ⟨by (with_reducible repeat (first | refine blk_drewN ?_ _ | refine blk_drew ?_ | refine blk_alloc ?_ _)); exact BK409.out⟩, ⟨by repeat (first | (with_reducible first | exact HB.out | apply below_alloc | apply pw_below_drewN | apply below_drew1 | refine below_set ?_ GE405.out | refine below_set ?_ GE409.out) | exact HB.out)⟩⟩
  case rest =>
    clear HC4
    try clear c1
    try clear c2
    try clear p2
    try clear c9
    try clear c11
    try clear c12
    try clear c13
    try clear c13b0
    try clear c13b1
    try clear c16
    try clear hcz10_0
    try clear hcz10_1
    try clear hcz17_0
    try clear hcz17_1
    try clear hcz6_0
    try clear hcz6_1
    try clear hfz10_0
    try clear hfz10_1
    try clear hfz17_0
    try clear hfz17_1
    try clear hfz6_0
    try clear hfz6_1
    obtain ⟨kq, x23_3, rfl, HA, HJ3, BK405, BK409, HB⟩ := hcut
    cases kq with
    | zero => exact absurd HA.out (by simp [mandolinelaw01_SpanWhole.j0])
    | succ kj3 =>
      have H := HA.out
      clear HA
      simp only [mandolinelaw01_SpanWhole.j0] at H
      by_cases c21 : x23_3 = true
      · subst c21
        have H1 : ((mandolinelaw01_awake.f kj3).bind fun t412 => (some t412)) = some r := by rw [if_pos rfl] at H; exact H
        clear H
        have H := H1
        clear H1
        replace H := Option.bind_eq_some_iff.mp H
        obtain ⟨t412, A220, H⟩ := H
        replace H : (some t412) = some r := H
        have A22 := Aside0.mk A220
        clear A220
        obtain rfl := Option.some.inj H
        go_wp2_with (first | ((first | ((with_reducible refine gate_callee (f := 12) rfl ?_); refine goesL_ (some 24) rfl rfl Tryd.func12 (by kernel_rfl) rfl #[] rfl (by (try simp only [List.map_toArray, List.map_cons, List.map_nil]); first | done | rfl | (simp only [List.length_drop, List.length_take]; rfl)) ?_; (with_reducible refine (mandolinelaw01_awake.calls kj3  t412 _ ?side1 A22.out).mono ?_); (case side1 => exact Glob.below HG.out (by repeat (first | (with_reducible first | exact HB.out | apply below_alloc | apply pw_below_drewN | apply below_drew1 | refine below_set ?_ GE405.out | refine below_set ?_ GE409.out) | exact HB.out))); rintro e w23 ⟨rfl, hb⟩; refine ⟨_, rfl, ?_⟩) | (go_at_call 12; (with_reducible refine (mandolinelaw01_awake.calls kj3  t412 _ ?side1 A22.out).mono ?_); (case side1 => exact Glob.below HG.out (by repeat (first | (with_reducible first | exact HB.out | apply below_alloc | apply pw_below_drewN | apply below_drew1 | refine below_set ?_ GE405.out | refine below_set ?_ GE409.out) | exact HB.out))); rintro e w23 ⟨rfl, hb⟩)); have n0_ := Aside0.mk (blk_below (g := gb405) (o := .cells #[.int .i64 a0_0, .int .i64 a0_1] 23 (0, 0)) (by (with_reducible repeat (first | refine blk_drewN ?_ _ | refine blk_drew ?_ | refine blk_alloc ?_ _)); exact BK405.out) hb); have n1_ := Aside0.mk (blk_below (g := gb409) (o := .cells #[.int .i64 t406, .int .i64 t407] 23 (0, 0)) (by (with_reducible repeat (first | refine blk_drewN ?_ _ | refine blk_drew ?_ | refine blk_alloc ?_ _)); exact BK409.out) hb); have n2_ := Aside0.mk (below_step (by repeat (first | (with_reducible first | exact HB.out | apply below_alloc | apply pw_below_drewN | apply below_drew1 | refine below_set ?_ GE405.out | refine below_set ?_ GE409.out) | exact HB.out)) hb); clear BK405; clear BK409; clear HB; have BK405 := n0_; have BK409 := n1_; have HB := n2_; clear n0_ n1_ n2_; (try clear hb); (try clear hb2); (try clear hk); (try clear hi)))
        go_ret
        exact ⟨by first | rfl | (simp [errW_none, errW_some] <;> rfl) | (simp [*, errW_none, errW_some] <;> rfl), by repeat (first | (with_reducible first | exact HB.out | apply below_alloc | apply pw_below_drewN | apply below_drew1 | refine below_set ?_ GE405.out | refine below_set ?_ GE409.out) | exact HB.out)⟩
      · replace c21 := Bool.eq_false_iff.mpr c21
        subst c21
        have H1 : (if a1 = 0 then (none) else (if (Int.tmod t406 a1) = 0 then (if (Int.tmod t407 a1) = 0 then ((span_Has.f t406 t407 a0_0).bind fun t413 => (if t413 = true then (if (wrap64 (t406 + a1)) ≤ a0_0 then (some false) else (if a0_1 = 4611686018427387904 then (if t407 = 4611686018427387904 then (some true) else (some false)) else (some (decide ((wrap64 (t407 - a1)) < a0_1))))) else (some false))) else (if t407 = 4611686018427387904 then ((span_Has.f t406 t407 a0_0).bind fun t414 => (if t414 = true then (if (wrap64 (t406 + a1)) ≤ a0_0 then (some false) else (if a0_1 = 4611686018427387904 then (some true) else (some (decide ((wrap64 (t407 - a1)) < a0_1))))) else (some false))) else (some false))) else (some false))) = some r := by rw [if_neg (show ¬ (false = true) by decide)] at H; exact H
        clear H
        have H := H1
        clear H1
        by_cases c24 : a1 = 0
        · rw [if_pos c24] at H
          exact absurd H (by simp)
        · rw [if_neg c24] at H
          have c24b0 : (a1 == 0) = false := beq_eq_false_iff_ne.mpr c24
          have c24b1 : (a1 != 0) = true := bne_iff_ne.mpr c24
          by_cases c25 : (Int.tmod t406 a1) = 0
          · rw [if_pos c25] at H
            have c25b0 : ((Int.tmod t406 a1) == 0) = true := beq_iff_eq.mpr c25
            have c25b1 : ((Int.tmod t406 a1) != 0) = false := bne_eq_false_iff_eq.mpr c25
            clear c25
            by_cases c26 : (Int.tmod t407 a1) = 0
            · rw [if_pos c26] at H
              have c26b0 : ((Int.tmod t407 a1) == 0) = true := beq_iff_eq.mpr c26
              have c26b1 : ((Int.tmod t407 a1) != 0) = false := bne_eq_false_iff_eq.mpr c26
              clear c26
              replace H := Option.bind_eq_some_iff.mp H
              obtain ⟨t413, A270, H⟩ := H
              replace H : (if t413 = true then (if (wrap64 (t406 + a1)) ≤ a0_0 then (some false) else (if a0_1 = 4611686018427387904 then (if t407 = 4611686018427387904 then (some true) else (some false)) else (some (decide ((wrap64 (t407 - a1)) < a0_1))))) else (some false)) = some r := H
              have A27 := Aside0.mk A270
              clear A270
              by_cases c28 : t413 = true
              · subst c28
                have H1 : (if (wrap64 (t406 + a1)) ≤ a0_0 then (some false) else (if a0_1 = 4611686018427387904 then (if t407 = 4611686018427387904 then (some true) else (some false)) else (some (decide ((wrap64 (t407 - a1)) < a0_1))))) = some r := by rw [if_pos rfl] at H; exact H
                clear H
                have H := H1
                clear H1
                by_cases c29 : (wrap64 (t406 + a1)) ≤ a0_0
                · rw [if_pos c29] at H
                  have c29b0 : decide ((wrap64 (t406 + a1)) ≤ a0_0) = true := decide_eq_true c29
                  clear c29
                  obtain rfl := Option.some.inj H
                  have hnb30 := NB409_405.out
                  have hnc30 := NB405_409.out
                  have hcz31_0 : wc.cell? ⟨gb409, 0, none⟩ = some (.int .i64 t406) := (blk_cell BK409.out 0).trans rfl
                  have hcz31_1 : wc.cell? ⟨gb409, 1, none⟩ = some (.int .i64 t407) := (blk_cell BK409.out 1).trans rfl
                  have hfz31_0 := blk_frozen BK409.out 0
                  have hfz31_1 := blk_frozen BK409.out 1
                  have hcz32_0 : wc.cell? ⟨gb405, 0, none⟩ = some (.int .i64 a0_0) := (blk_cell BK405.out 0).trans rfl
                  have hcz32_1 : wc.cell? ⟨gb405, 1, none⟩ = some (.int .i64 a0_1) := (blk_cell BK405.out 1).trans rfl
                  have hfz32_0 := blk_frozen BK405.out 0
                  have hfz32_1 := blk_frozen BK405.out 1
                  go_wp2_with (first | (go_at_call 17; (with_reducible refine (span_Has.calls t406 t407 a0_0 true _ A27.out).mono ?_); rintro e w33 ⟨rfl, hb⟩; have n0_ := Aside0.mk (blk_below (g := gb405) (o := .cells #[.int .i64 a0_0, .int .i64 a0_1] 23 (0, 0)) (by (with_reducible repeat (first | refine blk_drewN ?_ _ | refine blk_drew ?_ | refine blk_alloc ?_ _)); exact BK405.out) hb); have n1_ := Aside0.mk (blk_below (g := gb409) (o := .cells #[.int .i64 t406, .int .i64 t407] 23 (0, 0)) (by (with_reducible repeat (first | refine blk_drewN ?_ _ | refine blk_drew ?_ | refine blk_alloc ?_ _)); exact BK409.out) hb); have n2_ := Aside0.mk (below_step (by repeat (first | (with_reducible first | exact HB.out | apply below_alloc | apply pw_below_drewN | apply below_drew1 | refine below_set ?_ GE405.out | refine below_set ?_ GE409.out) | exact HB.out)) hb); clear BK405; clear BK409; clear HB; have BK405 := n0_; have BK409 := n1_; have HB := n2_; clear n0_ n1_ n2_; (try clear hb); (try clear hb2); (try clear hk); (try clear hi); have hcz34_0 : w33.cell? ⟨gb409, 0, none⟩ = some (.int .i64 t406) := (blk_cell BK409.out 0).trans rfl; have hcz34_1 : w33.cell? ⟨gb409, 1, none⟩ = some (.int .i64 t407) := (blk_cell BK409.out 1).trans rfl; have hfz34_0 := blk_frozen BK409.out 0; have hfz34_1 := blk_frozen BK409.out 1; have hcz35_0 : w33.cell? ⟨gb405, 0, none⟩ = some (.int .i64 a0_0) := (blk_cell BK405.out 0).trans rfl; have hcz35_1 : w33.cell? ⟨gb405, 1, none⟩ = some (.int .i64 a0_1) := (blk_cell BK405.out 1).trans rfl; have hfz35_0 := blk_frozen BK405.out 0; have hfz35_1 := blk_frozen BK405.out 1))
                  go_ret
                  exact ⟨by first | rfl | (simp [errW_none, errW_some] <;> rfl) | (simp [*, errW_none, errW_some] <;> rfl), by repeat (first | (with_reducible first | exact HB.out | apply below_alloc | apply pw_below_drewN | apply below_drew1 | refine below_set ?_ GE405.out | refine below_set ?_ GE409.out) | exact HB.out)⟩
                · rw [if_neg c29] at H
                  have c29b0 : decide ((wrap64 (t406 + a1)) ≤ a0_0) = false := decide_eq_false c29
                  clear c29
                  by_cases c36 : a0_1 = 4611686018427387904
                  · rw [if_pos c36] at H
                    have c36b0 : (a0_1 == 4611686018427387904) = true := beq_iff_eq.mpr c36
                    have c36b1 : (a0_1 != 4611686018427387904) = false := bne_eq_false_iff_eq.mpr c36
                    clear c36
                    by_cases c37 : t407 = 4611686018427387904
                    · rw [if_pos c37] at H
                      have c37b0 : (t407 == 4611686018427387904) = true := beq_iff_eq.mpr c37
                      have c37b1 : (t407 != 4611686018427387904) = false := bne_eq_false_iff_eq.mpr c37
                      clear c37
                      obtain rfl := Option.some.inj H
                      have hnb38 := NB409_405.out
                      have hnc38 := NB405_409.out
                      have hcz39_0 : wc.cell? ⟨gb409, 0, none⟩ = some (.int .i64 t406) := (blk_cell BK409.out 0).trans rfl
                      have hcz39_1 : wc.cell? ⟨gb409, 1, none⟩ = some (.int .i64 t407) := (blk_cell BK409.out 1).trans rfl
                      have hfz39_0 := blk_frozen BK409.out 0
                      have hfz39_1 := blk_frozen BK409.out 1
                      have hcz40_0 : wc.cell? ⟨gb405, 0, none⟩ = some (.int .i64 a0_0) := (blk_cell BK405.out 0).trans rfl
                      have hcz40_1 : wc.cell? ⟨gb405, 1, none⟩ = some (.int .i64 a0_1) := (blk_cell BK405.out 1).trans rfl
                      have hfz40_0 := blk_frozen BK405.out 0
                      have hfz40_1 := blk_frozen BK405.out 1
                      go_wp2_with (first | (go_at_call 17; (with_reducible refine (span_Has.calls t406 t407 a0_0 true _ A27.out).mono ?_); rintro e w41 ⟨rfl, hb⟩; have n0_ := Aside0.mk (blk_below (g := gb405) (o := .cells #[.int .i64 a0_0, .int .i64 a0_1] 23 (0, 0)) (by (with_reducible repeat (first | refine blk_drewN ?_ _ | refine blk_drew ?_ | refine blk_alloc ?_ _)); exact BK405.out) hb); have n1_ := Aside0.mk (blk_below (g := gb409) (o := .cells #[.int .i64 t406, .int .i64 t407] 23 (0, 0)) (by (with_reducible repeat (first | refine blk_drewN ?_ _ | refine blk_drew ?_ | refine blk_alloc ?_ _)); exact BK409.out) hb); have n2_ := Aside0.mk (below_step (by repeat (first | (with_reducible first | exact HB.out | apply below_alloc | apply pw_below_drewN | apply below_drew1 | refine below_set ?_ GE405.out | refine below_set ?_ GE409.out) | exact HB.out)) hb); clear BK405; clear BK409; clear HB; have BK405 := n0_; have BK409 := n1_; have HB := n2_; clear n0_ n1_ n2_; (try clear hb); (try clear hb2); (try clear hk); (try clear hi); have hcz42_0 : w41.cell? ⟨gb409, 0, none⟩ = some (.int .i64 t406) := (blk_cell BK409.out 0).trans rfl; have hcz42_1 : w41.cell? ⟨gb409, 1, none⟩ = some (.int .i64 t407) := (blk_cell BK409.out 1).trans rfl; have hfz42_0 := blk_frozen BK409.out 0; have hfz42_1 := blk_frozen BK409.out 1; have hcz43_0 : w41.cell? ⟨gb405, 0, none⟩ = some (.int .i64 a0_0) := (blk_cell BK405.out 0).trans rfl; have hcz43_1 : w41.cell? ⟨gb405, 1, none⟩ = some (.int .i64 a0_1) := (blk_cell BK405.out 1).trans rfl; have hfz43_0 := blk_frozen BK405.out 0; have hfz43_1 := blk_frozen BK405.out 1))
                      go_ret
                      exact ⟨by first | rfl | (simp [errW_none, errW_some] <;> rfl) | (simp [*, errW_none, errW_some] <;> rfl), by repeat (first | (with_reducible first | exact HB.out | apply below_alloc | apply pw_below_drewN | apply below_drew1 | refine below_set ?_ GE405.out | refine below_set ?_ GE409.out) | exact HB.out)⟩
                    · rw [if_neg c37] at H
                      have c37b0 : (t407 == 4611686018427387904) = false := beq_eq_false_iff_ne.mpr c37
                      have c37b1 : (t407 != 4611686018427387904) = true := bne_iff_ne.mpr c37
                      obtain rfl := Option.some.inj H
                      have hnb44 := NB409_405.out
                      have hnc44 := NB405_409.out
                      have hcz45_0 : wc.cell? ⟨gb409, 0, none⟩ = some (.int .i64 t406) := (blk_cell BK409.out 0).trans rfl
                      have hcz45_1 : wc.cell? ⟨gb409, 1, none⟩ = some (.int .i64 t407) := (blk_cell BK409.out 1).trans rfl
                      have hfz45_0 := blk_frozen BK409.out 0
                      have hfz45_1 := blk_frozen BK409.out 1
                      have hcz46_0 : wc.cell? ⟨gb405, 0, none⟩ = some (.int .i64 a0_0) := (blk_cell BK405.out 0).trans rfl
                      have hcz46_1 : wc.cell? ⟨gb405, 1, none⟩ = some (.int .i64 a0_1) := (blk_cell BK405.out 1).trans rfl
                      have hfz46_0 := blk_frozen BK405.out 0
                      have hfz46_1 := blk_frozen BK405.out 1
                      go_wp2_with (first | (go_at_call 17; (with_reducible refine (span_Has.calls t406 t407 a0_0 true _ A27.out).mono ?_); rintro e w47 ⟨rfl, hb⟩; have n0_ := Aside0.mk (blk_below (g := gb405) (o := .cells #[.int .i64 a0_0, .int .i64 a0_1] 23 (0, 0)) (by (with_reducible repeat (first | refine blk_drewN ?_ _ | refine blk_drew ?_ | refine blk_alloc ?_ _)); exact BK405.out) hb); have n1_ := Aside0.mk (blk_below (g := gb409) (o := .cells #[.int .i64 t406, .int .i64 t407] 23 (0, 0)) (by (with_reducible repeat (first | refine blk_drewN ?_ _ | refine blk_drew ?_ | refine blk_alloc ?_ _)); exact BK409.out) hb); have n2_ := Aside0.mk (below_step (by repeat (first | (with_reducible first | exact HB.out | apply below_alloc | apply pw_below_drewN | apply below_drew1 | refine below_set ?_ GE405.out | refine below_set ?_ GE409.out) | exact HB.out)) hb); clear BK405; clear BK409; clear HB; have BK405 := n0_; have BK409 := n1_; have HB := n2_; clear n0_ n1_ n2_; (try clear hb); (try clear hb2); (try clear hk); (try clear hi); have hcz48_0 : w47.cell? ⟨gb409, 0, none⟩ = some (.int .i64 t406) := (blk_cell BK409.out 0).trans rfl; have hcz48_1 : w47.cell? ⟨gb409, 1, none⟩ = some (.int .i64 t407) := (blk_cell BK409.out 1).trans rfl; have hfz48_0 := blk_frozen BK409.out 0; have hfz48_1 := blk_frozen BK409.out 1; have hcz49_0 : w47.cell? ⟨gb405, 0, none⟩ = some (.int .i64 a0_0) := (blk_cell BK405.out 0).trans rfl; have hcz49_1 : w47.cell? ⟨gb405, 1, none⟩ = some (.int .i64 a0_1) := (blk_cell BK405.out 1).trans rfl; have hfz49_0 := blk_frozen BK405.out 0; have hfz49_1 := blk_frozen BK405.out 1))
                      go_ret
                      exact ⟨by first | rfl | (simp [errW_none, errW_some] <;> rfl) | (simp [*, errW_none, errW_some] <;> rfl), by repeat (first | (with_reducible first | exact HB.out | apply below_alloc | apply pw_below_drewN | apply below_drew1 | refine below_set ?_ GE405.out | refine below_set ?_ GE409.out) | exact HB.out)⟩
                  · rw [if_neg c36] at H
                    have c36b0 : (a0_1 == 4611686018427387904) = false := beq_eq_false_iff_ne.mpr c36
                    have c36b1 : (a0_1 != 4611686018427387904) = true := bne_iff_ne.mpr c36
                    obtain rfl := Option.some.inj H
                    have hnb50 := NB409_405.out
                    have hnc50 := NB405_409.out
                    have hcz51_0 : wc.cell? ⟨gb409, 0, none⟩ = some (.int .i64 t406) := (blk_cell BK409.out 0).trans rfl
                    have hcz51_1 : wc.cell? ⟨gb409, 1, none⟩ = some (.int .i64 t407) := (blk_cell BK409.out 1).trans rfl
                    have hfz51_0 := blk_frozen BK409.out 0
                    have hfz51_1 := blk_frozen BK409.out 1
                    have hcz52_0 : wc.cell? ⟨gb405, 0, none⟩ = some (.int .i64 a0_0) := (blk_cell BK405.out 0).trans rfl
                    have hcz52_1 : wc.cell? ⟨gb405, 1, none⟩ = some (.int .i64 a0_1) := (blk_cell BK405.out 1).trans rfl
                    have hfz52_0 := blk_frozen BK405.out 0
                    have hfz52_1 := blk_frozen BK405.out 1
                    go_wp2_with (first | (go_at_call 17; (with_reducible refine (span_Has.calls t406 t407 a0_0 true _ A27.out).mono ?_); rintro e w53 ⟨rfl, hb⟩; have n0_ := Aside0.mk (blk_below (g := gb405) (o := .cells #[.int .i64 a0_0, .int .i64 a0_1] 23 (0, 0)) (by (with_reducible repeat (first | refine blk_drewN ?_ _ | refine blk_drew ?_ | refine blk_alloc ?_ _)); exact BK405.out) hb); have n1_ := Aside0.mk (blk_below (g := gb409) (o := .cells #[.int .i64 t406, .int .i64 t407] 23 (0, 0)) (by (with_reducible repeat (first | refine blk_drewN ?_ _ | refine blk_drew ?_ | refine blk_alloc ?_ _)); exact BK409.out) hb); have n2_ := Aside0.mk (below_step (by repeat (first | (with_reducible first | exact HB.out | apply below_alloc | apply pw_below_drewN | apply below_drew1 | refine below_set ?_ GE405.out | refine below_set ?_ GE409.out) | exact HB.out)) hb); clear BK405; clear BK409; clear HB; have BK405 := n0_; have BK409 := n1_; have HB := n2_; clear n0_ n1_ n2_; (try clear hb); (try clear hb2); (try clear hk); (try clear hi); have hcz54_0 : w53.cell? ⟨gb409, 0, none⟩ = some (.int .i64 t406) := (blk_cell BK409.out 0).trans rfl; have hcz54_1 : w53.cell? ⟨gb409, 1, none⟩ = some (.int .i64 t407) := (blk_cell BK409.out 1).trans rfl; have hfz54_0 := blk_frozen BK409.out 0; have hfz54_1 := blk_frozen BK409.out 1; have hcz55_0 : w53.cell? ⟨gb405, 0, none⟩ = some (.int .i64 a0_0) := (blk_cell BK405.out 0).trans rfl; have hcz55_1 : w53.cell? ⟨gb405, 1, none⟩ = some (.int .i64 a0_1) := (blk_cell BK405.out 1).trans rfl; have hfz55_0 := blk_frozen BK405.out 0; have hfz55_1 := blk_frozen BK405.out 1))
                    go_ret
                    exact ⟨by first | rfl | (simp [errW_none, errW_some] <;> rfl) | (simp [*, errW_none, errW_some] <;> rfl), by repeat (first | (with_reducible first | exact HB.out | apply below_alloc | apply pw_below_drewN | apply below_drew1 | refine below_set ?_ GE405.out | refine below_set ?_ GE409.out) | exact HB.out)⟩
              · replace c28 := Bool.eq_false_iff.mpr c28
                subst c28
                have H1 : (some false) = some r := by rw [if_neg (show ¬ (false = true) by decide)] at H; exact H
                clear H
                have H := H1
                clear H1
                obtain rfl := Option.some.inj H
                have hnb56 := NB409_405.out
                have hnc56 := NB405_409.out
                have hcz57_0 : wc.cell? ⟨gb409, 0, none⟩ = some (.int .i64 t406) := (blk_cell BK409.out 0).trans rfl
                have hcz57_1 : wc.cell? ⟨gb409, 1, none⟩ = some (.int .i64 t407) := (blk_cell BK409.out 1).trans rfl
                have hfz57_0 := blk_frozen BK409.out 0
                have hfz57_1 := blk_frozen BK409.out 1
                have hcz58_0 : wc.cell? ⟨gb405, 0, none⟩ = some (.int .i64 a0_0) := (blk_cell BK405.out 0).trans rfl
                have hcz58_1 : wc.cell? ⟨gb405, 1, none⟩ = some (.int .i64 a0_1) := (blk_cell BK405.out 1).trans rfl
                have hfz58_0 := blk_frozen BK405.out 0
                have hfz58_1 := blk_frozen BK405.out 1
                go_wp2_with (first | (go_at_call 17; (with_reducible refine (span_Has.calls t406 t407 a0_0 false _ A27.out).mono ?_); rintro e w59 ⟨rfl, hb⟩; have n0_ := Aside0.mk (blk_below (g := gb405) (o := .cells #[.int .i64 a0_0, .int .i64 a0_1] 23 (0, 0)) (by (with_reducible repeat (first | refine blk_drewN ?_ _ | refine blk_drew ?_ | refine blk_alloc ?_ _)); exact BK405.out) hb); have n1_ := Aside0.mk (blk_below (g := gb409) (o := .cells #[.int .i64 t406, .int .i64 t407] 23 (0, 0)) (by (with_reducible repeat (first | refine blk_drewN ?_ _ | refine blk_drew ?_ | refine blk_alloc ?_ _)); exact BK409.out) hb); have n2_ := Aside0.mk (below_step (by repeat (first | (with_reducible first | exact HB.out | apply below_alloc | apply pw_below_drewN | apply below_drew1 | refine below_set ?_ GE405.out | refine below_set ?_ GE409.out) | exact HB.out)) hb); clear BK405; clear BK409; clear HB; have BK405 := n0_; have BK409 := n1_; have HB := n2_; clear n0_ n1_ n2_; (try clear hb); (try clear hb2); (try clear hk); (try clear hi)))
                go_ret
                exact ⟨by first | rfl | (simp [errW_none, errW_some] <;> rfl) | (simp [*, errW_none, errW_some] <;> rfl), by repeat (first | (with_reducible first | exact HB.out | apply below_alloc | apply pw_below_drewN | apply below_drew1 | refine below_set ?_ GE405.out | refine below_set ?_ GE409.out) | exact HB.out)⟩
            · rw [if_neg c26] at H
              have c26b0 : ((Int.tmod t407 a1) == 0) = false := beq_eq_false_iff_ne.mpr c26
              have c26b1 : ((Int.tmod t407 a1) != 0) = true := bne_iff_ne.mpr c26
              by_cases c60 : t407 = 4611686018427387904
              · rw [if_pos c60] at H
                have c60b0 : (t407 == 4611686018427387904) = true := beq_iff_eq.mpr c60
                have c60b1 : (t407 != 4611686018427387904) = false := bne_eq_false_iff_eq.mpr c60
                clear c60
                replace H := Option.bind_eq_some_iff.mp H
                obtain ⟨t414, A610, H⟩ := H
                replace H : (if t414 = true then (if (wrap64 (t406 + a1)) ≤ a0_0 then (some false) else (if a0_1 = 4611686018427387904 then (some true) else (some (decide ((wrap64 (t407 - a1)) < a0_1))))) else (some false)) = some r := H
                have A61 := Aside0.mk A610
                clear A610
                by_cases c62 : t414 = true
                · subst c62
                  have H1 : (if (wrap64 (t406 + a1)) ≤ a0_0 then (some false) else (if a0_1 = 4611686018427387904 then (some true) else (some (decide ((wrap64 (t407 - a1)) < a0_1))))) = some r := by rw [if_pos rfl] at H; exact H
                  clear H
                  have H := H1
                  clear H1
                  by_cases c63 : (wrap64 (t406 + a1)) ≤ a0_0
                  · rw [if_pos c63] at H
                    have c63b0 : decide ((wrap64 (t406 + a1)) ≤ a0_0) = true := decide_eq_true c63
                    clear c63
                    obtain rfl := Option.some.inj H
                    have hnb64 := NB409_405.out
                    have hnc64 := NB405_409.out
                    have hcz65_0 : wc.cell? ⟨gb409, 0, none⟩ = some (.int .i64 t406) := (blk_cell BK409.out 0).trans rfl
                    have hcz65_1 : wc.cell? ⟨gb409, 1, none⟩ = some (.int .i64 t407) := (blk_cell BK409.out 1).trans rfl
                    have hfz65_0 := blk_frozen BK409.out 0
                    have hfz65_1 := blk_frozen BK409.out 1
                    have hcz66_0 : wc.cell? ⟨gb405, 0, none⟩ = some (.int .i64 a0_0) := (blk_cell BK405.out 0).trans rfl
                    have hcz66_1 : wc.cell? ⟨gb405, 1, none⟩ = some (.int .i64 a0_1) := (blk_cell BK405.out 1).trans rfl
                    have hfz66_0 := blk_frozen BK405.out 0
                    have hfz66_1 := blk_frozen BK405.out 1
                    go_wp2_with (first | (go_at_call 17; (with_reducible refine (span_Has.calls t406 t407 a0_0 true _ A61.out).mono ?_); rintro e w67 ⟨rfl, hb⟩; have n0_ := Aside0.mk (blk_below (g := gb405) (o := .cells #[.int .i64 a0_0, .int .i64 a0_1] 23 (0, 0)) (by (with_reducible repeat (first | refine blk_drewN ?_ _ | refine blk_drew ?_ | refine blk_alloc ?_ _)); exact BK405.out) hb); have n1_ := Aside0.mk (blk_below (g := gb409) (o := .cells #[.int .i64 t406, .int .i64 t407] 23 (0, 0)) (by (with_reducible repeat (first | refine blk_drewN ?_ _ | refine blk_drew ?_ | refine blk_alloc ?_ _)); exact BK409.out) hb); have n2_ := Aside0.mk (below_step (by repeat (first | (with_reducible first | exact HB.out | apply below_alloc | apply pw_below_drewN | apply below_drew1 | refine below_set ?_ GE405.out | refine below_set ?_ GE409.out) | exact HB.out)) hb); clear BK405; clear BK409; clear HB; have BK405 := n0_; have BK409 := n1_; have HB := n2_; clear n0_ n1_ n2_; (try clear hb); (try clear hb2); (try clear hk); (try clear hi); have hcz68_0 : w67.cell? ⟨gb409, 0, none⟩ = some (.int .i64 t406) := (blk_cell BK409.out 0).trans rfl; have hcz68_1 : w67.cell? ⟨gb409, 1, none⟩ = some (.int .i64 t407) := (blk_cell BK409.out 1).trans rfl; have hfz68_0 := blk_frozen BK409.out 0; have hfz68_1 := blk_frozen BK409.out 1; have hcz69_0 : w67.cell? ⟨gb405, 0, none⟩ = some (.int .i64 a0_0) := (blk_cell BK405.out 0).trans rfl; have hcz69_1 : w67.cell? ⟨gb405, 1, none⟩ = some (.int .i64 a0_1) := (blk_cell BK405.out 1).trans rfl; have hfz69_0 := blk_frozen BK405.out 0; have hfz69_1 := blk_frozen BK405.out 1))
                    go_ret
                    exact ⟨by first | rfl | (simp [errW_none, errW_some] <;> rfl) | (simp [*, errW_none, errW_some] <;> rfl), by repeat (first | (with_reducible first | exact HB.out | apply below_alloc | apply pw_below_drewN | apply below_drew1 | refine below_set ?_ GE405.out | refine below_set ?_ GE409.out) | exact HB.out)⟩
                  · rw [if_neg c63] at H
                    have c63b0 : decide ((wrap64 (t406 + a1)) ≤ a0_0) = false := decide_eq_false c63
                    clear c63
                    by_cases c70 : a0_1 = 4611686018427387904
                    · rw [if_pos c70] at H
                      have c70b0 : (a0_1 == 4611686018427387904) = true := beq_iff_eq.mpr c70
                      have c70b1 : (a0_1 != 4611686018427387904) = false := bne_eq_false_iff_eq.mpr c70
                      clear c70
                      obtain rfl := Option.some.inj H
                      have hnb71 := NB409_405.out
                      have hnc71 := NB405_409.out
                      have hcz72_0 : wc.cell? ⟨gb409, 0, none⟩ = some (.int .i64 t406) := (blk_cell BK409.out 0).trans rfl
                      have hcz72_1 : wc.cell? ⟨gb409, 1, none⟩ = some (.int .i64 t407) := (blk_cell BK409.out 1).trans rfl
                      have hfz72_0 := blk_frozen BK409.out 0
                      have hfz72_1 := blk_frozen BK409.out 1
                      have hcz73_0 : wc.cell? ⟨gb405, 0, none⟩ = some (.int .i64 a0_0) := (blk_cell BK405.out 0).trans rfl
                      have hcz73_1 : wc.cell? ⟨gb405, 1, none⟩ = some (.int .i64 a0_1) := (blk_cell BK405.out 1).trans rfl
                      have hfz73_0 := blk_frozen BK405.out 0
                      have hfz73_1 := blk_frozen BK405.out 1
                      go_wp2_with (first | (go_at_call 17; (with_reducible refine (span_Has.calls t406 t407 a0_0 true _ A61.out).mono ?_); rintro e w74 ⟨rfl, hb⟩; have n0_ := Aside0.mk (blk_below (g := gb405) (o := .cells #[.int .i64 a0_0, .int .i64 a0_1] 23 (0, 0)) (by (with_reducible repeat (first | refine blk_drewN ?_ _ | refine blk_drew ?_ | refine blk_alloc ?_ _)); exact BK405.out) hb); have n1_ := Aside0.mk (blk_below (g := gb409) (o := .cells #[.int .i64 t406, .int .i64 t407] 23 (0, 0)) (by (with_reducible repeat (first | refine blk_drewN ?_ _ | refine blk_drew ?_ | refine blk_alloc ?_ _)); exact BK409.out) hb); have n2_ := Aside0.mk (below_step (by repeat (first | (with_reducible first | exact HB.out | apply below_alloc | apply pw_below_drewN | apply below_drew1 | refine below_set ?_ GE405.out | refine below_set ?_ GE409.out) | exact HB.out)) hb); clear BK405; clear BK409; clear HB; have BK405 := n0_; have BK409 := n1_; have HB := n2_; clear n0_ n1_ n2_; (try clear hb); (try clear hb2); (try clear hk); (try clear hi); have hcz75_0 : w74.cell? ⟨gb409, 0, none⟩ = some (.int .i64 t406) := (blk_cell BK409.out 0).trans rfl; have hcz75_1 : w74.cell? ⟨gb409, 1, none⟩ = some (.int .i64 t407) := (blk_cell BK409.out 1).trans rfl; have hfz75_0 := blk_frozen BK409.out 0; have hfz75_1 := blk_frozen BK409.out 1; have hcz76_0 : w74.cell? ⟨gb405, 0, none⟩ = some (.int .i64 a0_0) := (blk_cell BK405.out 0).trans rfl; have hcz76_1 : w74.cell? ⟨gb405, 1, none⟩ = some (.int .i64 a0_1) := (blk_cell BK405.out 1).trans rfl; have hfz76_0 := blk_frozen BK405.out 0; have hfz76_1 := blk_frozen BK405.out 1))
                      go_ret
                      exact ⟨by first | rfl | (simp [errW_none, errW_some] <;> rfl) | (simp [*, errW_none, errW_some] <;> rfl), by repeat (first | (with_reducible first | exact HB.out | apply below_alloc | apply pw_below_drewN | apply below_drew1 | refine below_set ?_ GE405.out | refine below_set ?_ GE409.out) | exact HB.out)⟩
                    · rw [if_neg c70] at H
                      have c70b0 : (a0_1 == 4611686018427387904) = false := beq_eq_false_iff_ne.mpr c70
                      have c70b1 : (a0_1 != 4611686018427387904) = true := bne_iff_ne.mpr c70
                      obtain rfl := Option.some.inj H
                      have hnb77 := NB409_405.out
                      have hnc77 := NB405_409.out
                      have hcz78_0 : wc.cell? ⟨gb409, 0, none⟩ = some (.int .i64 t406) := (blk_cell BK409.out 0).trans rfl
                      have hcz78_1 : wc.cell? ⟨gb409, 1, none⟩ = some (.int .i64 t407) := (blk_cell BK409.out 1).trans rfl
                      have hfz78_0 := blk_frozen BK409.out 0
                      have hfz78_1 := blk_frozen BK409.out 1
                      have hcz79_0 : wc.cell? ⟨gb405, 0, none⟩ = some (.int .i64 a0_0) := (blk_cell BK405.out 0).trans rfl
                      have hcz79_1 : wc.cell? ⟨gb405, 1, none⟩ = some (.int .i64 a0_1) := (blk_cell BK405.out 1).trans rfl
                      have hfz79_0 := blk_frozen BK405.out 0
                      have hfz79_1 := blk_frozen BK405.out 1
                      go_wp2_with (first | (go_at_call 17; (with_reducible refine (span_Has.calls t406 t407 a0_0 true _ A61.out).mono ?_); rintro e w80 ⟨rfl, hb⟩; have n0_ := Aside0.mk (blk_below (g := gb405) (o := .cells #[.int .i64 a0_0, .int .i64 a0_1] 23 (0, 0)) (by (with_reducible repeat (first | refine blk_drewN ?_ _ | refine blk_drew ?_ | refine blk_alloc ?_ _)); exact BK405.out) hb); have n1_ := Aside0.mk (blk_below (g := gb409) (o := .cells #[.int .i64 t406, .int .i64 t407] 23 (0, 0)) (by (with_reducible repeat (first | refine blk_drewN ?_ _ | refine blk_drew ?_ | refine blk_alloc ?_ _)); exact BK409.out) hb); have n2_ := Aside0.mk (below_step (by repeat (first | (with_reducible first | exact HB.out | apply below_alloc | apply pw_below_drewN | apply below_drew1 | refine below_set ?_ GE405.out | refine below_set ?_ GE409.out) | exact HB.out)) hb); clear BK405; clear BK409; clear HB; have BK405 := n0_; have BK409 := n1_; have HB := n2_; clear n0_ n1_ n2_; (try clear hb); (try clear hb2); (try clear hk); (try clear hi); have hcz81_0 : w80.cell? ⟨gb409, 0, none⟩ = some (.int .i64 t406) := (blk_cell BK409.out 0).trans rfl; have hcz81_1 : w80.cell? ⟨gb409, 1, none⟩ = some (.int .i64 t407) := (blk_cell BK409.out 1).trans rfl; have hfz81_0 := blk_frozen BK409.out 0; have hfz81_1 := blk_frozen BK409.out 1; have hcz82_0 : w80.cell? ⟨gb405, 0, none⟩ = some (.int .i64 a0_0) := (blk_cell BK405.out 0).trans rfl; have hcz82_1 : w80.cell? ⟨gb405, 1, none⟩ = some (.int .i64 a0_1) := (blk_cell BK405.out 1).trans rfl; have hfz82_0 := blk_frozen BK405.out 0; have hfz82_1 := blk_frozen BK405.out 1))
                      go_ret
                      exact ⟨by first | rfl | (simp [errW_none, errW_some] <;> rfl) | (simp [*, errW_none, errW_some] <;> rfl), by repeat (first | (with_reducible first | exact HB.out | apply below_alloc | apply pw_below_drewN | apply below_drew1 | refine below_set ?_ GE405.out | refine below_set ?_ GE409.out) | exact HB.out)⟩
                · replace c62 := Bool.eq_false_iff.mpr c62
                  subst c62
                  have H1 : (some false) = some r := by rw [if_neg (show ¬ (false = true) by decide)] at H; exact H
                  clear H
                  have H := H1
                  clear H1
                  obtain rfl := Option.some.inj H
                  have hnb83 := NB409_405.out
                  have hnc83 := NB405_409.out
                  have hcz84_0 : wc.cell? ⟨gb409, 0, none⟩ = some (.int .i64 t406) := (blk_cell BK409.out 0).trans rfl
                  have hcz84_1 : wc.cell? ⟨gb409, 1, none⟩ = some (.int .i64 t407) := (blk_cell BK409.out 1).trans rfl
                  have hfz84_0 := blk_frozen BK409.out 0
                  have hfz84_1 := blk_frozen BK409.out 1
                  have hcz85_0 : wc.cell? ⟨gb405, 0, none⟩ = some (.int .i64 a0_0) := (blk_cell BK405.out 0).trans rfl
                  have hcz85_1 : wc.cell? ⟨gb405, 1, none⟩ = some (.int .i64 a0_1) := (blk_cell BK405.out 1).trans rfl
                  have hfz85_0 := blk_frozen BK405.out 0
                  have hfz85_1 := blk_frozen BK405.out 1
                  go_wp2_with (first | (go_at_call 17; (with_reducible refine (span_Has.calls t406 t407 a0_0 false _ A61.out).mono ?_); rintro e w86 ⟨rfl, hb⟩; have n0_ := Aside0.mk (blk_below (g := gb405) (o := .cells #[.int .i64 a0_0, .int .i64 a0_1] 23 (0, 0)) (by (with_reducible repeat (first | refine blk_drewN ?_ _ | refine blk_drew ?_ | refine blk_alloc ?_ _)); exact BK405.out) hb); have n1_ := Aside0.mk (blk_below (g := gb409) (o := .cells #[.int .i64 t406, .int .i64 t407] 23 (0, 0)) (by (with_reducible repeat (first | refine blk_drewN ?_ _ | refine blk_drew ?_ | refine blk_alloc ?_ _)); exact BK409.out) hb); have n2_ := Aside0.mk (below_step (by repeat (first | (with_reducible first | exact HB.out | apply below_alloc | apply pw_below_drewN | apply below_drew1 | refine below_set ?_ GE405.out | refine below_set ?_ GE409.out) | exact HB.out)) hb); clear BK405; clear BK409; clear HB; have BK405 := n0_; have BK409 := n1_; have HB := n2_; clear n0_ n1_ n2_; (try clear hb); (try clear hb2); (try clear hk); (try clear hi)))
                  go_ret
                  exact ⟨by first | rfl | (simp [errW_none, errW_some] <;> rfl) | (simp [*, errW_none, errW_some] <;> rfl), by repeat (first | (with_reducible first | exact HB.out | apply below_alloc | apply pw_below_drewN | apply below_drew1 | refine below_set ?_ GE405.out | refine below_set ?_ GE409.out) | exact HB.out)⟩
              · rw [if_neg c60] at H
                have c60b0 : (t407 == 4611686018427387904) = false := beq_eq_false_iff_ne.mpr c60
                have c60b1 : (t407 != 4611686018427387904) = true := bne_iff_ne.mpr c60
                obtain rfl := Option.some.inj H
                have hnb87 := NB409_405.out
                have hnc87 := NB405_409.out
                have hcz88_0 : wc.cell? ⟨gb409, 0, none⟩ = some (.int .i64 t406) := (blk_cell BK409.out 0).trans rfl
                have hcz88_1 : wc.cell? ⟨gb409, 1, none⟩ = some (.int .i64 t407) := (blk_cell BK409.out 1).trans rfl
                have hfz88_0 := blk_frozen BK409.out 0
                have hfz88_1 := blk_frozen BK409.out 1
                go_wp2
                go_ret
                exact ⟨by first | rfl | (simp [errW_none, errW_some] <;> rfl) | (simp [*, errW_none, errW_some] <;> rfl), by repeat (first | (with_reducible first | exact HB.out | apply below_alloc | apply pw_below_drewN | apply below_drew1 | refine below_set ?_ GE405.out | refine below_set ?_ GE409.out) | exact HB.out)⟩
          · rw [if_neg c25] at H
            have c25b0 : ((Int.tmod t406 a1) == 0) = false := beq_eq_false_iff_ne.mpr c25
            have c25b1 : ((Int.tmod t406 a1) != 0) = true := bne_iff_ne.mpr c25
            obtain rfl := Option.some.inj H
            have hnb89 := NB409_405.out
            have hnc89 := NB405_409.out
            have hcz90_0 : wc.cell? ⟨gb409, 0, none⟩ = some (.int .i64 t406) := (blk_cell BK409.out 0).trans rfl
            have hcz90_1 : wc.cell? ⟨gb409, 1, none⟩ = some (.int .i64 t407) := (blk_cell BK409.out 1).trans rfl
            have hfz90_0 := blk_frozen BK409.out 0
            have hfz90_1 := blk_frozen BK409.out 1
            go_wp2
            go_ret
            exact ⟨by first | rfl | (simp [errW_none, errW_some] <;> rfl) | (simp [*, errW_none, errW_some] <;> rfl), by repeat (first | (with_reducible first | exact HB.out | apply below_alloc | apply pw_below_drewN | apply below_drew1 | refine below_set ?_ GE405.out | refine below_set ?_ GE409.out) | exact HB.out)⟩

end Go.Proofs.YtigfmjmdacligaaDoor.X
