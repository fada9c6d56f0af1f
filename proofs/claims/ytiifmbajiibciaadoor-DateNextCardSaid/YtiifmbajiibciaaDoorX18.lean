-- Printed by a program of this session (pp.py: the kit's print.py, run with contracts of its own) out of the translation. Not trusted: Lean checks it.
import Derived.Test.YtiifmbajiibciaaDoorX0
import Derived.Test.YtiifmbajiibciaaDoorX3
import Derived.Test.YtiifmbajiibciaaDoorX8
namespace Go.Proofs.YtiifmbajiibciaaDoor.X
open Go.RowKit Go.Proofs.YtiifmbajiibciaaDoorW.PrintWords Go.Proofs.YtiifmbajiibciaaDoorW.PrintLast Go.Proofs.YtiifmbajiibciaaDoorW.PrintMore
attribute [local go_sem] max2_int min2_int max_two min_two max_three min_three max_four min_four   -- for this text's walks alone
set_option linter.unusedVariables false
set_option linter.unusedSimpArgs false

/-! ### mandolinelaw06_DateNext: function 8 -/
mutual
def mandolinelaw06_DateNext.j0 : Nat → Int → Bool → Option (Bool)
  | 0, _, _ => none
  | k + 1, x0, x14 => if x14 = true then (some true) else ((date_Of.f k x0).bind fun bt222 => ((date_Of.f k (wrap64 (x0 + 86400))).bind fun bt228 => (if bt222.2.2.2.2 = bt228.2.2.2.2 then (mandolinelaw06_DateNext.j1 k (bt228.2.2.2.1 != (Int.tmod (wrap64 (bt222.2.2.2.1 + 1)) 7)) bt222.1 bt222.2.1 bt222.2.2.1 bt222.2.2.2.1 bt228.1 bt228.2.1 bt228.2.2.1 bt228.2.2.2.1) else (mandolinelaw06_DateNext.j1 k true bt222.1 bt222.2.1 bt222.2.2.1 bt222.2.2.2.1 bt228.1 bt228.2.1 bt228.2.2.1 bt228.2.2.2.1))))
def mandolinelaw06_DateNext.j1 : Nat → Bool → Int → Int → Int → Int → Int → Int → Int → Int → Option (Bool)
  | 0, _, _, _, _, _, _, _, _, _ => none
  | k + 1, x37, x228000, x228001, x228002, x228003, x234000, x234001, x234002, x234003 => if x37 = true then (some false) else (if x234002 = 1 then (if x234001 = 1 then (if x228002 = 31 then (if x228001 = 12 then (some (x234000 == (wrap64 (x228000 + 1)))) else (some false)) else (some false)) else (if x228002 ≥ 28 then (if x228002 ≤ 31 then (if x234001 = (wrap64 (x228001 + 1)) then (some (x234000 == x228000)) else (some false)) else (some false)) else (some false))) else (if x234002 = (wrap64 (x228002 + 1)) then (if x234001 = x228001 then (some (x234000 == x228000)) else (some false)) else (some false)))
end
def mandolinelaw06_DateNext.f (k : Nat) (a0 : Int) : Option (Bool) := (mandolinelaw06_wakes.f k).bind fun t221 => (if t221 = true then (if a0 < 0 then (mandolinelaw06_DateNext.j0 k a0 true) else (mandolinelaw06_DateNext.j0 k a0 (decide (a0 > 253402214399)))) else (some false))
theorem mandolinelaw06_DateNext.mono_l : ∀ k, (∀ y0 y1, LeO (mandolinelaw06_DateNext.j0 k y0 y1) (mandolinelaw06_DateNext.j0 (k + 1) y0 y1)) ∧ (∀ y0 y1 y2 y3 y4 y5 y6 y7 y8, LeO (mandolinelaw06_DateNext.j1 k y0 y1 y2 y3 y4 y5 y6 y7 y8) (mandolinelaw06_DateNext.j1 (k + 1) y0 y1 y2 y3 y4 y5 y6 y7 y8))
  | 0 => ⟨fun _ _ r h => by simp [mandolinelaw06_DateNext.j0] at h, fun _ _ _ _ _ _ _ _ _ r h => by simp [mandolinelaw06_DateNext.j1] at h⟩
  | k + 1 => by
    obtain ⟨ih0, ih1⟩ := mandolinelaw06_DateNext.mono_l k
    refine ⟨?_, ?_⟩
    · intro y0 y1
      unfold mandolinelaw06_DateNext.j0
      repeat' first
      | (with_reducible exact ih0 _ _)
      | (with_reducible exact ih1 _ _ _ _ _ _ _ _ _)
      | (with_reducible exact date_Of.mono _ _)
      | (with_reducible exact mandolinelaw06_wakes.mono _)
      | (with_reducible exact LeO.refl _)
      | (with_reducible exact LeO.none _)
      | (with_reducible refine LeO.ite ?_ ?_)
      | (with_reducible refine LeO.bind ?_ (fun _ => ?_))
      | exact ih0 _ _
      | exact ih1 _ _ _ _ _ _ _ _ _
      | exact date_Of.mono _ _
      | exact mandolinelaw06_wakes.mono _
      | exact LeO.none _
      | refine LeO.ite ?_ ?_
      | refine LeO.bind ?_ (fun _ => ?_)
    · intro y0 y1 y2 y3 y4 y5 y6 y7 y8
      unfold mandolinelaw06_DateNext.j1
      repeat' first
      | (with_reducible exact ih0 _ _)
      | (with_reducible exact ih1 _ _ _ _ _ _ _ _ _)
      | (with_reducible exact date_Of.mono _ _)
      | (with_reducible exact mandolinelaw06_wakes.mono _)
      | (with_reducible exact LeO.refl _)
      | (with_reducible exact LeO.none _)
      | (with_reducible refine LeO.ite ?_ ?_)
      | (with_reducible refine LeO.bind ?_ (fun _ => ?_))
      | exact ih0 _ _
      | exact ih1 _ _ _ _ _ _ _ _ _
      | exact date_Of.mono _ _
      | exact mandolinelaw06_wakes.mono _
      | exact LeO.none _
      | refine LeO.ite ?_ ?_
      | refine LeO.bind ?_ (fun _ => ?_)
theorem mandolinelaw06_DateNext.mono : ∀ a0 k, LeO (mandolinelaw06_DateNext.f k a0) (mandolinelaw06_DateNext.f (k + 1) a0) := by
  intro a0 k
  obtain ⟨ih0, ih1⟩ := mandolinelaw06_DateNext.mono_l k
  unfold mandolinelaw06_DateNext.f
  repeat' first
      | (with_reducible exact ih0 _ _)
      | (with_reducible exact ih1 _ _ _ _ _ _ _ _ _)
      | (with_reducible exact date_Of.mono _ _)
      | (with_reducible exact mandolinelaw06_wakes.mono _)
      | (with_reducible exact LeO.refl _)
      | (with_reducible exact LeO.none _)
      | (with_reducible refine LeO.ite ?_ ?_)
      | (with_reducible refine LeO.bind ?_ (fun _ => ?_))
      | exact ih0 _ _
      | exact ih1 _ _ _ _ _ _ _ _ _
      | exact date_Of.mono _ _
      | exact mandolinelaw06_wakes.mono _
      | exact LeO.none _
      | refine LeO.ite ?_ ?_
      | refine LeO.bind ?_ (fun _ => ?_)
set_option maxHeartbeats 8000000 in
set_option maxRecDepth 100000 in
theorem mandolinelaw06_DateNext.calls (k : Nat) (a0 : Int) (r : Bool) (w : World) (hG : Glob w) (h : mandolinelaw06_DateNext.f k a0 = some r) :
    Calls Tryd.prog 8 #[.int .i64 a0] w fun e w' => e = .returned (.bool r) ∧ Below w.heap.size w w' := by
  have HG := Aside0.mk hG
  clear hG
  have hu24 := Tryd.underlying24
  have HB := Aside0.mk (Below.refl w.heap.size w)
  have H : ((mandolinelaw06_wakes.f k).bind fun t221 => (if t221 = true then (if a0 < 0 then (mandolinelaw06_DateNext.j0 k a0 true) else (mandolinelaw06_DateNext.j0 k a0 (decide (a0 > 253402214399)))) else (some false))) = some r := h
  clear h
  replace H := Option.bind_eq_some_iff.mp H
  obtain ⟨t221, A20, H⟩ := H
  replace H : (if t221 = true then (if a0 < 0 then (mandolinelaw06_DateNext.j0 k a0 true) else (mandolinelaw06_DateNext.j0 k a0 (decide (a0 > 253402214399)))) else (some false)) = some r := H
  have A2 := Aside0.mk A20
  clear A20
  by_cases c3 : t221 = true
  · subst c3
    have H1 : (if a0 < 0 then (mandolinelaw06_DateNext.j0 k a0 true) else (mandolinelaw06_DateNext.j0 k a0 (decide (a0 > 253402214399)))) = some r := by rw [if_pos rfl] at H; exact H
    clear H
    have H := H1
    clear H1
    have HC4 := Aside0.mk H
    clear H
    go_enter Tryd.func8, Tryd.ntmps8
    go_upto_region 3 with (first | ((with_reducible refine gate_callee (f := 10) rfl ?_); refine goesL_ (some 7) rfl rfl Tryd.func10 (by kernel_rfl) rfl #[] rfl (by (try simp only [List.map_toArray, List.map_cons, List.map_nil]); first | done | rfl | (simp only [List.length_drop, List.length_take]; rfl)) ?_; (with_reducible refine (mandolinelaw06_wakes.calls k  true _ ?side1 A2.out).mono ?_); (case side1 => exact Glob.below HG.out (by repeat (first | (with_reducible first | exact HB.out | apply below_alloc | apply pw_below_drewN | apply below_drew1) | exact HB.out))); rintro e w5 ⟨rfl, hb⟩; refine ⟨_, rfl, ?_⟩; have n0_ := Aside0.mk (below_step (by repeat (first | (with_reducible first | exact HB.out | apply below_alloc | apply pw_below_drewN | apply below_drew1) | exact HB.out)) hb); clear HB; have HB := n0_; clear n0_; (try clear hb); (try clear hb2); (try clear hk); (try clear hi)))
    (try simp only [Act.put, List.setIfInBounds_toArray, List.set_cons_zero, List.set_cons_succ])
    go_cut [14] (fun v14 wc => ∃ (kq : Nat) (x14_3 : Bool), v14 = .bool x14_3 ∧ Aside0 (mandolinelaw06_DateNext.j0 kq a0 x14_3 = some r) ∧ Aside0 (kq ≤ k) ∧ Aside0 (Below w.heap.size w wc))
    case first =>
      have H := HC4.out
      clear HC4
      by_cases c6 : a0 < 0
      · rw [if_pos c6] at H
        have c6b0 : decide (a0 < 0) = true := decide_eq_true c6
        clear c6
        (first | rw [c6b0] | (simp only [i64_w, i32_w]; rw [c6b0]) | skip)
        have H' := Aside0.mk H
        clear H
        go_wp2
        go_meet
        case rel => exact ⟨_, (true), (by first | rfl | (simp; done) | (simp [*]; done)), H', ⟨by first | omega | exact Nat.le_refl _⟩, ⟨by repeat (first | (with_reducible first | exact HB.out | apply below_alloc | apply pw_below_drewN | apply below_drew1) | exact HB.out)⟩⟩
      · rw [if_neg c6] at H
        have c6b0 : decide (a0 < 0) = false := decide_eq_false c6
        clear c6
        (first | rw [c6b0] | (simp only [i64_w, i32_w]; rw [c6b0]) | skip)
        have H' := Aside0.mk H
        clear H
        go_wp2
        go_meet
        case rel => exact ⟨_, (decide (a0 > 253402214399)), (by first | rfl | (simp; done) | (simp [*]; done)), H', ⟨by first | omega | exact Nat.le_refl _⟩, ⟨by repeat (first | (with_reducible first | exact HB.out | apply below_alloc | apply pw_below_drewN | apply below_drew1) | exact HB.out)⟩⟩
    case rest =>
      clear HC4
      try clear c1
      try clear p2
      try clear c3
      try clear c6
      try clear c6b0
      obtain ⟨kq, x14_3, rfl, HA, HJ3, HB⟩ := hcut
      cases kq with
      | zero => exact absurd HA.out (by simp [mandolinelaw06_DateNext.j0])
      | succ kj3 =>
        have H := HA.out
        clear HA
        simp only [mandolinelaw06_DateNext.j0] at H
        by_cases c7 : x14_3 = true
        · subst c7
          have H1 : (some true) = some r := by rw [if_pos rfl] at H; exact H
          clear H
          have H := H1
          clear H1
          obtain rfl := Option.some.inj H
          go_wp2
          go_ret
          exact ⟨by first | rfl | (simp [errW_none, errW_some] <;> rfl) | (simp [*, errW_none, errW_some] <;> rfl), by repeat (first | (with_reducible first | exact HB.out | apply below_alloc | apply pw_below_drewN | apply below_drew1) | exact HB.out)⟩
        · replace c7 := Bool.eq_false_iff.mpr c7
          subst c7
          have H1 : ((date_Of.f kj3 a0).bind fun bt222 => ((date_Of.f kj3 (wrap64 (a0 + 86400))).bind fun bt228 => (if bt222.2.2.2.2 = bt228.2.2.2.2 then (mandolinelaw06_DateNext.j1 kj3 (bt228.2.2.2.1 != (Int.tmod (wrap64 (bt222.2.2.2.1 + 1)) 7)) bt222.1 bt222.2.1 bt222.2.2.1 bt222.2.2.2.1 bt228.1 bt228.2.1 bt228.2.2.1 bt228.2.2.2.1) else (mandolinelaw06_DateNext.j1 kj3 true bt222.1 bt222.2.1 bt222.2.2.1 bt222.2.2.2.1 bt228.1 bt228.2.1 bt228.2.2.1 bt228.2.2.2.1)))) = some r := by rw [if_neg (show ¬ (false = true) by decide)] at H; exact H
          clear H
          have H := H1
          clear H1
          replace H := Option.bind_eq_some_iff.mp H
          obtain ⟨⟨t222, t223, t224, t225, t226⟩, A80, H⟩ := H
          replace H : ((date_Of.f kj3 (wrap64 (a0 + 86400))).bind fun bt228 => (if t226 = bt228.2.2.2.2 then (mandolinelaw06_DateNext.j1 kj3 (bt228.2.2.2.1 != (Int.tmod (wrap64 (t225 + 1)) 7)) t222 t223 t224 t225 bt228.1 bt228.2.1 bt228.2.2.1 bt228.2.2.2.1) else (mandolinelaw06_DateNext.j1 kj3 true t222 t223 t224 t225 bt228.1 bt228.2.1 bt228.2.2.1 bt228.2.2.2.1))) = some r := H
          have A8 := Aside0.mk A80
          clear A80
          replace H := Option.bind_eq_some_iff.mp H
          obtain ⟨⟨t228, t229, t230, t231, t232⟩, A90, H⟩ := H
          replace H : (if t226 = t232 then (mandolinelaw06_DateNext.j1 kj3 (t231 != (Int.tmod (wrap64 (t225 + 1)) 7)) t222 t223 t224 t225 t228 t229 t230 t231) else (mandolinelaw06_DateNext.j1 kj3 true t222 t223 t224 t225 t228 t229 t230 t231)) = some r := H
          have A9 := Aside0.mk A90
          clear A90
          have HC10 := Aside0.mk H
          clear H
          go_upto_region 7 with (first | ((with_reducible refine gate_callee (f := 11) rfl ?_); refine goesL_ (some 17) rfl rfl Tryd.func11 (by kernel_rfl) rfl #[.int .i64 a0] rfl (by (try simp only [List.map_toArray, List.map_cons, List.map_nil]); first | done | rfl | (simp only [List.length_drop, List.length_take]; rfl)) ?_; (with_reducible refine (date_Of.calls kj3 a0 t222 t223 t224 t225 t226 _ A8.out).mono ?_); rintro e w11 ⟨rfl, hb⟩; refine ⟨_, rfl, ?_⟩; have n0_ := Aside0.mk (below_step (by repeat (first | (with_reducible first | exact HB.out | apply below_alloc | apply pw_below_drewN | apply below_drew1) | exact HB.out)) hb); clear HB; have HB := n0_; clear n0_; (try clear hb); (try clear hb2); (try clear hk); (try clear hi)) | ((with_reducible refine gate_dst (N := 3) rfl ?_); refine box_event ?hg (N := 3) ?hd (cs := #[.int .i64 0, .int .i64 0, .int .i64 0, .int .i64 0]) (t := 24) ?hr ?_; (case hd => rfl); (case hg => rfl); (case hr => first | (go_simp; done) | (go_simp; rfl)); intro gb227 hg w12 hbox hb; have n0_ := Aside0.mk (below_step (by repeat (first | (with_reducible first | exact HB.out | apply below_alloc | apply pw_below_drewN | apply below_drew1) | exact HB.out)) hb); have n1_ := Aside0.mk (hbox); have n2_ := Aside0.mk ((by rw [hg]; exact (below_size (by repeat (first | (with_reducible first | exact HB.out | apply below_alloc | apply pw_below_drewN | apply below_drew1) | exact HB.out))) : w.heap.size ≤ gb227)); have n3_ := Aside0.mk ((by rw [hg]; exact (below_size (by repeat (first | (with_reducible first | exact HB.out | apply below_alloc | apply pw_below_drewN | apply below_drew1) | exact HB.out))) : w.heap.size ≤ gb227)); clear HB; have HB := n0_; have BK227 := n1_; have GW227 := n2_; have GE227 := n3_; clear n0_ n1_ n2_ n3_; clear hb hbox hg; have hcz13_0 : w12.cell? ⟨gb227, 0, none⟩ = some (.int .i64 0) := (blk_cell BK227.out 0).trans rfl; have hcz13_1 : w12.cell? ⟨gb227, 1, none⟩ = some (.int .i64 0) := (blk_cell BK227.out 1).trans rfl; have hcz13_2 : w12.cell? ⟨gb227, 2, none⟩ = some (.int .i64 0) := (blk_cell BK227.out 2).trans rfl; have hcz13_3 : w12.cell? ⟨gb227, 3, none⟩ = some (.int .i64 0) := (blk_cell BK227.out 3).trans rfl; have hfz13_0 := blk_frozen BK227.out 0; have hfz13_1 := blk_frozen BK227.out 1; have hfz13_2 := blk_frozen BK227.out 2; have hfz13_3 := blk_frozen BK227.out 3) | ((with_reducible refine gate_callee (f := 11) rfl ?_); refine goesL_ (some 23) rfl rfl Tryd.func11 (by kernel_rfl) rfl #[.int .i64 (wrap64 (a0 + 86400))] rfl (by (try simp only [List.map_toArray, List.map_cons, List.map_nil]); first | done | rfl | (simp only [List.length_drop, List.length_take]; rfl)) ?_; (with_reducible refine (date_Of.calls kj3 (wrap64 (a0 + 86400)) t228 t229 t230 t231 t232 _ A9.out).mono ?_); rintro e w14 ⟨rfl, hb⟩; refine ⟨_, rfl, ?_⟩; have n0_ := Aside0.mk (blk_below (g := gb227) (o := .cells #[.int .i64 t222, .int .i64 t223, .int .i64 t224, .int .i64 t225] 24 (0, 0)) (by (with_reducible repeat (first | refine blk_drewN ?_ _ | refine blk_drew ?_ | refine blk_alloc ?_ _)); refine blk_put (cs := #[.int .i64 t222, .int .i64 t223, .int .i64 t224, .int .i64 0]) ?_ 3 _ rfl; (with_reducible repeat (first | refine blk_drewN ?_ _ | refine blk_drew ?_ | refine blk_alloc ?_ _)); refine blk_put (cs := #[.int .i64 t222, .int .i64 t223, .int .i64 0, .int .i64 0]) ?_ 2 _ rfl; (with_reducible repeat (first | refine blk_drewN ?_ _ | refine blk_drew ?_ | refine blk_alloc ?_ _)); refine blk_put (cs := #[.int .i64 t222, .int .i64 0, .int .i64 0, .int .i64 0]) ?_ 1 _ rfl; (with_reducible repeat (first | refine blk_drewN ?_ _ | refine blk_drew ?_ | refine blk_alloc ?_ _)); refine blk_put (cs := #[.int .i64 0, .int .i64 0, .int .i64 0, .int .i64 0]) ?_ 0 _ rfl; (with_reducible repeat (first | refine blk_drewN ?_ _ | refine blk_drew ?_ | refine blk_alloc ?_ _)); exact BK227.out) hb); have n1_ := Aside0.mk (below_step (by repeat (first | (with_reducible first | exact HB.out | apply below_alloc | apply pw_below_drewN | apply below_drew1 | refine below_set ?_ GE227.out) | exact HB.out)) hb); clear BK227; clear HB; have BK227 := n0_; have HB := n1_; clear n0_ n1_; (try clear hb); (try clear hb2); (try clear hk); (try clear hi)) | ((with_reducible refine gate_dst (N := 5) rfl ?_); refine box_event ?hg (N := 5) ?hd (cs := #[.int .i64 0, .int .i64 0, .int .i64 0, .int .i64 0]) (t := 24) ?hr ?_; (case hd => rfl); (case hg => rfl); (case hr => first | (go_simp; done) | (go_simp; rfl)); intro gb233 hg w15 hbox hb; have n0_ := Aside0.mk (blk_below (g := gb227) (o := .cells #[.int .i64 t222, .int .i64 t223, .int .i64 t224, .int .i64 t225] 24 (0, 0)) (by (with_reducible repeat (first | refine blk_drewN ?_ _ | refine blk_drew ?_ | refine blk_alloc ?_ _)); exact BK227.out) hb); have n1_ := Aside0.mk (below_step (by repeat (first | (with_reducible first | exact HB.out | apply below_alloc | apply pw_below_drewN | apply below_drew1 | refine below_set ?_ GE227.out) | exact HB.out)) hb); have n2_ := Aside0.mk (hbox); have n3_ := Aside0.mk ((by rw [hg]; exact (below_size (by repeat (first | (with_reducible first | exact HB.out | apply below_alloc | apply pw_below_drewN | apply below_drew1 | refine below_set ?_ GE227.out) | exact HB.out))) : w.heap.size ≤ gb233)); have n4_ := Aside0.mk ((by rw [hg]; exact (below_size (by repeat (first | (with_reducible first | exact HB.out | apply below_alloc | apply pw_below_drewN | apply below_drew1 | refine below_set ?_ GE227.out) | exact HB.out))) : w.heap.size ≤ gb233)); have n5_ := Aside0.mk ((by rw [hg]; exact Nat.ne_of_lt (blk_lt (g := gb227) (o := .cells #[.int .i64 t222, .int .i64 t223, .int .i64 t224, .int .i64 t225] 24 (0, 0)) (by (with_reducible repeat (first | refine blk_drewN ?_ _ | refine blk_drew ?_ | refine blk_alloc ?_ _)); exact BK227.out)) : gb227 ≠ gb233)); have n6_ := Aside0.mk ((by rw [hg]; exact Nat.ne_of_gt (blk_lt (g := gb227) (o := .cells #[.int .i64 t222, .int .i64 t223, .int .i64 t224, .int .i64 t225] 24 (0, 0)) (by (with_reducible repeat (first | refine blk_drewN ?_ _ | refine blk_drew ?_ | refine blk_alloc ?_ _)); exact BK227.out)) : gb233 ≠ gb227)); clear BK227; clear HB; have BK227 := n0_; have HB := n1_; have BK233 := n2_; have GW233 := n3_; have GE233 := n4_; have NB227_233 := n5_; have NB233_227 := n6_; clear n0_ n1_ n2_ n3_ n4_ n5_ n6_; clear hb hbox hg; have hnb16 := NB233_227.out; have hnc16 := NB227_233.out; have hcz17_0 : w15.cell? ⟨gb233, 0, none⟩ = some (.int .i64 0) := (blk_cell BK233.out 0).trans rfl; have hcz17_1 : w15.cell? ⟨gb233, 1, none⟩ = some (.int .i64 0) := (blk_cell BK233.out 1).trans rfl; have hcz17_2 : w15.cell? ⟨gb233, 2, none⟩ = some (.int .i64 0) := (blk_cell BK233.out 2).trans rfl; have hcz17_3 : w15.cell? ⟨gb233, 3, none⟩ = some (.int .i64 0) := (blk_cell BK233.out 3).trans rfl; have hfz17_0 := blk_frozen BK233.out 0; have hfz17_1 := blk_frozen BK233.out 1; have hfz17_2 := blk_frozen BK233.out 2; have hfz17_3 := blk_frozen BK233.out 3))
          (try simp only [Act.put, List.setIfInBounds_toArray, List.set_cons_zero, List.set_cons_succ])
          go_cut [37] (fun v37 wc => ∃ (kq : Nat) (x37_9 : Bool), v37 = .bool x37_9 ∧ Aside0 (mandolinelaw06_DateNext.j1 kq x37_9 t222 t223 t224 t225 t228 t229 t230 t231 = some r) ∧ Aside0 (kq ≤ kj3) ∧ Aside0 (wc.heap[gb227]? = some (.cells #[.int .i64 t222, .int .i64 t223, .int .i64 t224, .int .i64 t225] 24 (0, 0))) ∧ Aside0 (wc.heap[gb233]? = some (.cells #[.int .i64 t228, .int .i64 t229, .int .i64 t230, .int .i64 t231] 24 (0, 0))) ∧ Aside0 (Below w.heap.size w wc))
          case first =>
            have H := HC10.out
            clear HC10
            by_cases c18 : t226 = t232
            · rw [if_pos c18] at H
              have c18b0 : (t226 == t232) = true := beq_iff_eq.mpr c18
              have c18b1 : (t226 != t232) = false := bne_eq_false_iff_eq.mpr c18
              clear c18
              (first | rw [c18b0] | (simp only [i64_w, i32_w]; rw [c18b0]) | skip)
              have H' := Aside0.mk H
              clear H
              have hnb19 := NB233_227.out
              have hnc19 := NB227_233.out
              have hcz20_0 : w15.cell? ⟨gb233, 0, none⟩ = some (.int .i64 0) := (blk_cell BK233.out 0).trans rfl
              have hcz20_1 : w15.cell? ⟨gb233, 1, none⟩ = some (.int .i64 0) := (blk_cell BK233.out 1).trans rfl
              have hcz20_2 : w15.cell? ⟨gb233, 2, none⟩ = some (.int .i64 0) := (blk_cell BK233.out 2).trans rfl
              have hcz20_3 : w15.cell? ⟨gb233, 3, none⟩ = some (.int .i64 0) := (blk_cell BK233.out 3).trans rfl
              have hfz20_0 := blk_frozen BK233.out 0
              have hfz20_1 := blk_frozen BK233.out 1
              have hfz20_2 := blk_frozen BK233.out 2
              have hfz20_3 := blk_frozen BK233.out 3
              have hcz21_0 : w15.cell? ⟨gb227, 0, none⟩ = some (.int .i64 t222) := (blk_cell BK227.out 0).trans rfl
              have hcz21_1 : w15.cell? ⟨gb227, 1, none⟩ = some (.int .i64 t223) := (blk_cell BK227.out 1).trans rfl
              have hcz21_2 : w15.cell? ⟨gb227, 2, none⟩ = some (.int .i64 t224) := (blk_cell BK227.out 2).trans rfl
              have hcz21_3 : w15.cell? ⟨gb227, 3, none⟩ = some (.int .i64 t225) := (blk_cell BK227.out 3).trans rfl
              have hfz21_0 := blk_frozen BK227.out 0
              have hfz21_1 := blk_frozen BK227.out 1
              have hfz21_2 := blk_frozen BK227.out 2
              have hfz21_3 := blk_frozen BK227.out 3
              go_wp2
              go_meet
              case rel => exact ⟨_, ((t231 != (Int.tmod (wrap64 (t225 + 1)) 7))), (by first | rfl | (simp; done) | (simp [*]; done)), H', ⟨by have := HJ3.out; first | omega | exact Nat.le_refl _⟩, ⟨by (with_reducible repeat (first | refine blk_drewN ?_ _ | refine blk_drew ?_ | refine blk_alloc ?_ _)); refine blk_far ?_ NB227_233.out _; (with_reducible repeat (first | refine blk_drewN ?_ _ | refine blk_drew ?_ | refine blk_alloc ?_ _)); refine blk_far ?_ NB227_233.out _; (with_reducible repeat (first | refine blk_drewN ?_ _ | refine blk_drew ?_ | refine blk_alloc ?_ _)); refine blk_far ?_ NB227_233.out _; (with_reducible repeat (first | refine blk_drewN ?_ _ | refine blk_drew ?_ | refine blk_alloc ?_ _)); refine blk_far ?_ NB227_233.out _; (with_reducible repeat (first | refine blk_drewN ?_ _ | refine blk_drew ?_ | refine blk_alloc ?_ _)); exact BK227.out⟩, ⟨by (with_reducible repeat (first | refine blk_drewN ?_ _ | refine blk_drew ?_ | refine blk_alloc ?_ _)); refine blk_put (cs := #[.int .i64 t228, .int .i64 t229, .int .i64 t230, .int .i64 0]) ?_ 3 _ rfl; (with_reducible repeat (first | refine blk_drewN ?_ _ | refine blk_drew ?_ | refine blk_alloc ?_ _)); refine blk_put (cs := #[.int .i64 t228, .int .i64 t229, .int .i64 0, .int .i64 0]) ?_ 2 _ rfl; (with_reducible repeat (first | refine blk_drewN ?_ _ | refine blk_drew ?_ | refine blk_alloc ?_ _)); refine blk_put (cs := #[.int .i64 t228, .int .i64 0, .int .i64 0, .int .i64 0]) ?_ 1 _ rfl; (with_reducible repeat (first | refine blk_drewN ?_ _ | refine blk_drew ?_ | refine blk_alloc ?_ _)); refine blk_put (cs := #[.int .i64 0, .int .i64 0, .int .i64 0, .int .i64 0]) ?_ 0 _ rfl; (with_reducible repeat (first | refine blk_drewN ?_ _ | refine blk_drew ?_ | refine blk_alloc ?_ _)); exact BK233.out⟩, ⟨by repeat (first | (with_reducible first | exact HB.out | apply below_alloc | apply pw_below_drewN | apply below_drew1 | refine below_set ?_ GE227.out | refine below_set ?_ GE233.out) | exact HB.out)⟩⟩
            · rw [if_neg c18] at H
              have c18b0 : (t226 == t232) = false := beq_eq_false_iff_ne.mpr c18
              have c18b1 : (t226 != t232) = true := bne_iff_ne.mpr c18
              (first | rw [c18b0] | (simp only [i64_w, i32_w]; rw [c18b0]) | skip)
              have H' := Aside0.mk H
              clear H
              go_wp2
              go_meet
              case rel => exact ⟨_, (true), (by first | rfl | (simp; done) | (simp [*]; done)), H', ⟨by have := HJ3.out; first | omega | exact Nat.le_refl _⟩, ⟨by (with_reducible repeat (first | refine blk_drewN ?_ _ | refine blk_drew ?_ | refine blk_alloc ?_ _)); refine blk_far ?_ NB227_233.out _; (with_reducible repeat (first | refine blk_drewN ?_ _ | refine blk_drew ?_ | refine blk_alloc ?_ _)); refine blk_far ?_ NB227_233.out _; (with_reducible repeat (first | refine blk_drewN ?_ _ | refine blk_drew ?_ | refine blk_alloc ?_ _)); refine blk_far ?_ NB227_233.out _; (with_reducible repeat (first | refine blk_drewN ?_ _ | refine blk_drew ?_ | refine blk_alloc ?_ _)); refine blk_far ?_ NB227_233.out _; (with_reducible repeat (first | refine blk_drewN ?_ _ | refine blk_drew ?_ | refine blk_alloc ?_ _)); exact BK227.out⟩, ⟨by (with_reducible repeat (first | refine blk_drewN ?_ _ | refine blk_drew ?_ | refine blk_alloc ?_ _)); refine blk_put (cs := #[.int .i64 t228, .int .i64 t229, .int .i64 t230, .int .i64 0]) ?_ 3 _ rfl; (with_reducible repeat (first | refine blk_drewN ?_ _ | refine blk_drew ?_ | refine blk_alloc ?_ _)); refine blk_put (cs := #[.int .i64 t228, .int .i64 t229, .int .i64 0, .int .i64 0]) ?_ 2 _ rfl; (with_reducible repeat (first | refine blk_drewN ?_ _ | refine blk_drew ?_ | refine blk_alloc ?_ _)); refine blk_put (cs := #[.int .i64 t228, .int .i64 0, .int .i64 0, .int .i64 0]) ?_ 1 _ rfl; (with_reducible repeat (first | refine blk_drewN ?_ _ | refine blk_drew ?_ | refine blk_alloc ?_ _)); refine blk_put (cs := #[.int .i64 0, .int .i64 0, .int .i64 0, .int .i64 0]) ?_ 0 _ rfl; (with_reducible repeat (first | refine blk_drewN ?_ _ | refine blk_drew ?_ | refine blk_alloc ?_ _)); exact BK233.out⟩, ⟨by repeat (first | (with_reducible first | exact HB.out | apply below_alloc | apply pw_below_drewN | apply below_drew1 | refine below_set ?_ GE227.out | refine below_set ?_ GE233.out) | exact HB.out)⟩⟩
          case rest =>
            clear HC10
            try clear c1
            try clear p2
            try clear c3
            try clear c6
            try clear c6b0
            try clear p6
            try clear c7
            try clear c8
            try clear c10
            try clear c11
            try clear c16
            try clear c18
            try clear c18b0
            try clear c18b1
            try clear c19
            try clear hcz13_0
            try clear hcz13_1
            try clear hcz13_2
            try clear hcz13_3
            try clear hcz17_0
            try clear hcz17_1
            try clear hcz17_2
            try clear hcz17_3
            try clear hcz20_0
            try clear hcz20_1
            try clear hcz20_2
            try clear hcz20_3
            try clear hcz21_0
            try clear hcz21_1
            try clear hcz21_2
            try clear hcz21_3
            try clear hfz13_0
            try clear hfz13_1
            try clear hfz13_2
            try clear hfz13_3
            try clear hfz17_0
            try clear hfz17_1
            try clear hfz17_2
            try clear hfz17_3
            try clear hfz20_0
            try clear hfz20_1
            try clear hfz20_2
            try clear hfz20_3
            try clear hfz21_0
            try clear hfz21_1
            try clear hfz21_2
            try clear hfz21_3
            try clear p2
            obtain ⟨kq, x37_9, rfl, HA, HJ9, BK227, BK233, HB⟩ := hcut
            cases kq with
            | zero => exact absurd HA.out (by simp [mandolinelaw06_DateNext.j1])
            | succ kj9 =>
              have H := HA.out
              clear HA
              simp only [mandolinelaw06_DateNext.j1] at H
              by_cases c22 : x37_9 = true
              · subst c22
                have H1 : (some false) = some r := by rw [if_pos rfl] at H; exact H
                clear H
                have H := H1
                clear H1
                obtain rfl := Option.some.inj H
                go_wp2
                go_ret
                exact ⟨by first | rfl | (simp [errW_none, errW_some] <;> rfl) | (simp [*, errW_none, errW_some] <;> rfl), by repeat (first | (with_reducible first | exact HB.out | apply below_alloc | apply pw_below_drewN | apply below_drew1 | refine below_set ?_ GE227.out | refine below_set ?_ GE233.out) | exact HB.out)⟩
              · replace c22 := Bool.eq_false_iff.mpr c22
                subst c22
                have H1 : (if t230 = 1 then (if t229 = 1 then (if t224 = 31 then (if t223 = 12 then (some (t228 == (wrap64 (t222 + 1)))) else (some false)) else (some false)) else (if t224 ≥ 28 then (if t224 ≤ 31 then (if t229 = (wrap64 (t223 + 1)) then (some (t228 == t222)) else (some false)) else (some false)) else (some false))) else (if t230 = (wrap64 (t224 + 1)) then (if t229 = t223 then (some (t228 == t222)) else (some false)) else (some false))) = some r := by rw [if_neg (show ¬ (false = true) by decide)] at H; exact H
                clear H
                have H := H1
                clear H1
                by_cases c23 : t230 = 1
                · rw [if_pos c23] at H
                  have c23b0 : (t230 == 1) = true := beq_iff_eq.mpr c23
                  have c23b1 : (t230 != 1) = false := bne_eq_false_iff_eq.mpr c23
                  clear c23
                  by_cases c24 : t229 = 1
                  · rw [if_pos c24] at H
                    have c24b0 : (t229 == 1) = true := beq_iff_eq.mpr c24
                    have c24b1 : (t229 != 1) = false := bne_eq_false_iff_eq.mpr c24
                    clear c24
                    by_cases c25 : t224 = 31
                    · rw [if_pos c25] at H
                      have c25b0 : (t224 == 31) = true := beq_iff_eq.mpr c25
                      have c25b1 : (t224 != 31) = false := bne_eq_false_iff_eq.mpr c25
                      clear c25
                      by_cases c26 : t223 = 12
                      · rw [if_pos c26] at H
                        have c26b0 : (t223 == 12) = true := beq_iff_eq.mpr c26
                        have c26b1 : (t223 != 12) = false := bne_eq_false_iff_eq.mpr c26
                        clear c26
                        obtain rfl := Option.some.inj H
                        have hnb27 := NB233_227.out
                        have hnc27 := NB227_233.out
                        have hcz28_0 : wc.cell? ⟨gb233, 0, none⟩ = some (.int .i64 t228) := (blk_cell BK233.out 0).trans rfl
                        have hcz28_1 : wc.cell? ⟨gb233, 1, none⟩ = some (.int .i64 t229) := (blk_cell BK233.out 1).trans rfl
                        have hcz28_2 : wc.cell? ⟨gb233, 2, none⟩ = some (.int .i64 t230) := (blk_cell BK233.out 2).trans rfl
                        have hcz28_3 : wc.cell? ⟨gb233, 3, none⟩ = some (.int .i64 t231) := (blk_cell BK233.out 3).trans rfl
                        have hfz28_0 := blk_frozen BK233.out 0
                        have hfz28_1 := blk_frozen BK233.out 1
                        have hfz28_2 := blk_frozen BK233.out 2
                        have hfz28_3 := blk_frozen BK233.out 3
                        have hcz29_0 : wc.cell? ⟨gb227, 0, none⟩ = some (.int .i64 t222) := (blk_cell BK227.out 0).trans rfl
                        have hcz29_1 : wc.cell? ⟨gb227, 1, none⟩ = some (.int .i64 t223) := (blk_cell BK227.out 1).trans rfl
                        have hcz29_2 : wc.cell? ⟨gb227, 2, none⟩ = some (.int .i64 t224) := (blk_cell BK227.out 2).trans rfl
                        have hcz29_3 : wc.cell? ⟨gb227, 3, none⟩ = some (.int .i64 t225) := (blk_cell BK227.out 3).trans rfl
                        have hfz29_0 := blk_frozen BK227.out 0
                        have hfz29_1 := blk_frozen BK227.out 1
                        have hfz29_2 := blk_frozen BK227.out 2
                        have hfz29_3 := blk_frozen BK227.out 3
                        go_wp2
                        go_ret
                        exact ⟨by first | rfl | (simp [errW_none, errW_some] <;> rfl) | (simp [*, errW_none, errW_some] <;> rfl), by repeat (first | (with_reducible first | exact HB.out | apply below_alloc | apply pw_below_drewN | apply below_drew1 | refine below_set ?_ GE227.out | refine below_set ?_ GE233.out) | exact HB.out)⟩
                      · rw [if_neg c26] at H
                        have c26b0 : (t223 == 12) = false := beq_eq_false_iff_ne.mpr c26
                        have c26b1 : (t223 != 12) = true := bne_iff_ne.mpr c26
                        obtain rfl := Option.some.inj H
                        have hnb30 := NB233_227.out
                        have hnc30 := NB227_233.out
                        have hcz31_0 : wc.cell? ⟨gb233, 0, none⟩ = some (.int .i64 t228) := (blk_cell BK233.out 0).trans rfl
                        have hcz31_1 : wc.cell? ⟨gb233, 1, none⟩ = some (.int .i64 t229) := (blk_cell BK233.out 1).trans rfl
                        have hcz31_2 : wc.cell? ⟨gb233, 2, none⟩ = some (.int .i64 t230) := (blk_cell BK233.out 2).trans rfl
                        have hcz31_3 : wc.cell? ⟨gb233, 3, none⟩ = some (.int .i64 t231) := (blk_cell BK233.out 3).trans rfl
                        have hfz31_0 := blk_frozen BK233.out 0
                        have hfz31_1 := blk_frozen BK233.out 1
                        have hfz31_2 := blk_frozen BK233.out 2
                        have hfz31_3 := blk_frozen BK233.out 3
                        have hcz32_0 : wc.cell? ⟨gb227, 0, none⟩ = some (.int .i64 t222) := (blk_cell BK227.out 0).trans rfl
                        have hcz32_1 : wc.cell? ⟨gb227, 1, none⟩ = some (.int .i64 t223) := (blk_cell BK227.out 1).trans rfl
                        have hcz32_2 : wc.cell? ⟨gb227, 2, none⟩ = some (.int .i64 t224) := (blk_cell BK227.out 2).trans rfl
                        have hcz32_3 : wc.cell? ⟨gb227, 3, none⟩ = some (.int .i64 t225) := (blk_cell BK227.out 3).trans rfl
                        have hfz32_0 := blk_frozen BK227.out 0
                        have hfz32_1 := blk_frozen BK227.out 1
                        have hfz32_2 := blk_frozen BK227.out 2
                        have hfz32_3 := blk_frozen BK227.out 3
                        go_wp2
                        go_ret
                        exact ⟨by first | rfl | (simp [errW_none, errW_some] <;> rfl) | (simp [*, errW_none, errW_some] <;> rfl), by repeat (first | (with_reducible first | exact HB.out | apply below_alloc | apply pw_below_drewN | apply below_drew1 | refine below_set ?_ GE227.out | refine below_set ?_ GE233.out) | exact HB.out)⟩
                    · rw [if_neg c25] at H
                      have c25b0 : (t224 == 31) = false := beq_eq_false_iff_ne.mpr c25
                      have c25b1 : (t224 != 31) = true := bne_iff_ne.mpr c25
                      obtain rfl := Option.some.inj H
                      have hnb33 := NB233_227.out
                      have hnc33 := NB227_233.out
                      have hcz34_0 : wc.cell? ⟨gb233, 0, none⟩ = some (.int .i64 t228) := (blk_cell BK233.out 0).trans rfl
                      have hcz34_1 : wc.cell? ⟨gb233, 1, none⟩ = some (.int .i64 t229) := (blk_cell BK233.out 1).trans rfl
                      have hcz34_2 : wc.cell? ⟨gb233, 2, none⟩ = some (.int .i64 t230) := (blk_cell BK233.out 2).trans rfl
                      have hcz34_3 : wc.cell? ⟨gb233, 3, none⟩ = some (.int .i64 t231) := (blk_cell BK233.out 3).trans rfl
                      have hfz34_0 := blk_frozen BK233.out 0
                      have hfz34_1 := blk_frozen BK233.out 1
                      have hfz34_2 := blk_frozen BK233.out 2
                      have hfz34_3 := blk_frozen BK233.out 3
                      have hcz35_0 : wc.cell? ⟨gb227, 0, none⟩ = some (.int .i64 t222) := (blk_cell BK227.out 0).trans rfl
                      have hcz35_1 : wc.cell? ⟨gb227, 1, none⟩ = some (.int .i64 t223) := (blk_cell BK227.out 1).trans rfl
                      have hcz35_2 : wc.cell? ⟨gb227, 2, none⟩ = some (.int .i64 t224) := (blk_cell BK227.out 2).trans rfl
                      have hcz35_3 : wc.cell? ⟨gb227, 3, none⟩ = some (.int .i64 t225) := (blk_cell BK227.out 3).trans rfl
                      have hfz35_0 := blk_frozen BK227.out 0
                      have hfz35_1 := blk_frozen BK227.out 1
                      have hfz35_2 := blk_frozen BK227.out 2
                      have hfz35_3 := blk_frozen BK227.out 3
                      go_wp2
                      go_ret
                      exact ⟨by first | rfl | (simp [errW_none, errW_some] <;> rfl) | (simp [*, errW_none, errW_some] <;> rfl), by repeat (first | (with_reducible first | exact HB.out | apply below_alloc | apply pw_below_drewN | apply below_drew1 | refine below_set ?_ GE227.out | refine below_set ?_ GE233.out) | exact HB.out)⟩
                  · rw [if_neg c24] at H
                    have c24b0 : (t229 == 1) = false := beq_eq_false_iff_ne.mpr c24
                    have c24b1 : (t229 != 1) = true := bne_iff_ne.mpr c24
                    by_cases c36 : t224 ≥ 28
                    · rw [if_pos c36] at H
                      have c36b0 : decide (28 ≤ t224) = true := decide_eq_true c36
                      clear c36
                      by_cases c37 : t224 ≤ 31
                      · rw [if_pos c37] at H
                        have c37b0 : decide (t224 ≤ 31) = true := decide_eq_true c37
                        clear c37
                        by_cases c38 : t229 = (wrap64 (t223 + 1))
                        · rw [if_pos c38] at H
                          have c38b0 : (t229 == (wrap64 (t223 + 1))) = true := beq_iff_eq.mpr c38
                          have c38b1 : (t229 != (wrap64 (t223 + 1))) = false := bne_eq_false_iff_eq.mpr c38
                          clear c38
                          obtain rfl := Option.some.inj H
                          have hnb39 := NB233_227.out
                          have hnc39 := NB227_233.out
                          have hcz40_0 : wc.cell? ⟨gb233, 0, none⟩ = some (.int .i64 t228) := (blk_cell BK233.out 0).trans rfl
                          have hcz40_1 : wc.cell? ⟨gb233, 1, none⟩ = some (.int .i64 t229) := (blk_cell BK233.out 1).trans rfl
                          have hcz40_2 : wc.cell? ⟨gb233, 2, none⟩ = some (.int .i64 t230) := (blk_cell BK233.out 2).trans rfl
                          have hcz40_3 : wc.cell? ⟨gb233, 3, none⟩ = some (.int .i64 t231) := (blk_cell BK233.out 3).trans rfl
                          have hfz40_0 := blk_frozen BK233.out 0
                          have hfz40_1 := blk_frozen BK233.out 1
                          have hfz40_2 := blk_frozen BK233.out 2
                          have hfz40_3 := blk_frozen BK233.out 3
                          have hcz41_0 : wc.cell? ⟨gb227, 0, none⟩ = some (.int .i64 t222) := (blk_cell BK227.out 0).trans rfl
                          have hcz41_1 : wc.cell? ⟨gb227, 1, none⟩ = some (.int .i64 t223) := (blk_cell BK227.out 1).trans rfl
                          have hcz41_2 : wc.cell? ⟨gb227, 2, none⟩ = some (.int .i64 t224) := (blk_cell BK227.out 2).trans rfl
                          have hcz41_3 : wc.cell? ⟨gb227, 3, none⟩ = some (.int .i64 t225) := (blk_cell BK227.out 3).trans rfl
                          have hfz41_0 := blk_frozen BK227.out 0
                          have hfz41_1 := blk_frozen BK227.out 1
                          have hfz41_2 := blk_frozen BK227.out 2
                          have hfz41_3 := blk_frozen BK227.out 3
                          go_wp2
                          go_ret
                          exact ⟨by first | rfl | (simp [errW_none, errW_some] <;> rfl) | (simp [*, errW_none, errW_some] <;> rfl), by repeat (first | (with_reducible first | exact HB.out | apply below_alloc | apply pw_below_drewN | apply below_drew1 | refine below_set ?_ GE227.out | refine below_set ?_ GE233.out) | exact HB.out)⟩
                        · rw [if_neg c38] at H
                          have c38b0 : (t229 == (wrap64 (t223 + 1))) = false := beq_eq_false_iff_ne.mpr c38
                          have c38b1 : (t229 != (wrap64 (t223 + 1))) = true := bne_iff_ne.mpr c38
                          obtain rfl := Option.some.inj H
                          have hnb42 := NB233_227.out
                          have hnc42 := NB227_233.out
                          have hcz43_0 : wc.cell? ⟨gb233, 0, none⟩ = some (.int .i64 t228) := (blk_cell BK233.out 0).trans rfl
                          have hcz43_1 : wc.cell? ⟨gb233, 1, none⟩ = some (.int .i64 t229) := (blk_cell BK233.out 1).trans rfl
                          have hcz43_2 : wc.cell? ⟨gb233, 2, none⟩ = some (.int .i64 t230) := (blk_cell BK233.out 2).trans rfl
                          have hcz43_3 : wc.cell? ⟨gb233, 3, none⟩ = some (.int .i64 t231) := (blk_cell BK233.out 3).trans rfl
                          have hfz43_0 := blk_frozen BK233.out 0
                          have hfz43_1 := blk_frozen BK233.out 1
                          have hfz43_2 := blk_frozen BK233.out 2
                          have hfz43_3 := blk_frozen BK233.out 3
                          have hcz44_0 : wc.cell? ⟨gb227, 0, none⟩ = some (.int .i64 t222) := (blk_cell BK227.out 0).trans rfl
                          have hcz44_1 : wc.cell? ⟨gb227, 1, none⟩ = some (.int .i64 t223) := (blk_cell BK227.out 1).trans rfl
                          have hcz44_2 : wc.cell? ⟨gb227, 2, none⟩ = some (.int .i64 t224) := (blk_cell BK227.out 2).trans rfl
                          have hcz44_3 : wc.cell? ⟨gb227, 3, none⟩ = some (.int .i64 t225) := (blk_cell BK227.out 3).trans rfl
                          have hfz44_0 := blk_frozen BK227.out 0
                          have hfz44_1 := blk_frozen BK227.out 1
                          have hfz44_2 := blk_frozen BK227.out 2
                          have hfz44_3 := blk_frozen BK227.out 3
                          go_wp2
                          go_ret
                          exact ⟨by first | rfl | (simp [errW_none, errW_some] <;> rfl) | (simp [*, errW_none, errW_some] <;> rfl), by repeat (first | (with_reducible first | exact HB.out | apply below_alloc | apply pw_below_drewN | apply below_drew1 | refine below_set ?_ GE227.out | refine below_set ?_ GE233.out) | exact HB.out)⟩
                      · rw [if_neg c37] at H
                        have c37b0 : decide (t224 ≤ 31) = false := decide_eq_false c37
                        clear c37
                        obtain rfl := Option.some.inj H
                        have hnb45 := NB233_227.out
                        have hnc45 := NB227_233.out
                        have hcz46_0 : wc.cell? ⟨gb233, 0, none⟩ = some (.int .i64 t228) := (blk_cell BK233.out 0).trans rfl
                        have hcz46_1 : wc.cell? ⟨gb233, 1, none⟩ = some (.int .i64 t229) := (blk_cell BK233.out 1).trans rfl
                        have hcz46_2 : wc.cell? ⟨gb233, 2, none⟩ = some (.int .i64 t230) := (blk_cell BK233.out 2).trans rfl
                        have hcz46_3 : wc.cell? ⟨gb233, 3, none⟩ = some (.int .i64 t231) := (blk_cell BK233.out 3).trans rfl
                        have hfz46_0 := blk_frozen BK233.out 0
                        have hfz46_1 := blk_frozen BK233.out 1
                        have hfz46_2 := blk_frozen BK233.out 2
                        have hfz46_3 := blk_frozen BK233.out 3
                        have hcz47_0 : wc.cell? ⟨gb227, 0, none⟩ = some (.int .i64 t222) := (blk_cell BK227.out 0).trans rfl
                        have hcz47_1 : wc.cell? ⟨gb227, 1, none⟩ = some (.int .i64 t223) := (blk_cell BK227.out 1).trans rfl
                        have hcz47_2 : wc.cell? ⟨gb227, 2, none⟩ = some (.int .i64 t224) := (blk_cell BK227.out 2).trans rfl
                        have hcz47_3 : wc.cell? ⟨gb227, 3, none⟩ = some (.int .i64 t225) := (blk_cell BK227.out 3).trans rfl
                        have hfz47_0 := blk_frozen BK227.out 0
                        have hfz47_1 := blk_frozen BK227.out 1
                        have hfz47_2 := blk_frozen BK227.out 2
                        have hfz47_3 := blk_frozen BK227.out 3
                        go_wp2
                        go_ret
                        exact ⟨by first | rfl | (simp [errW_none, errW_some] <;> rfl) | (simp [*, errW_none, errW_some] <;> rfl), by repeat (first | (with_reducible first | exact HB.out | apply below_alloc | apply pw_below_drewN | apply below_drew1 | refine below_set ?_ GE227.out | refine below_set ?_ GE233.out) | exact HB.out)⟩
                    · rw [if_neg c36] at H
                      have c36b0 : decide (28 ≤ t224) = false := decide_eq_false c36
                      clear c36
                      obtain rfl := Option.some.inj H
                      have hnb48 := NB233_227.out
                      have hnc48 := NB227_233.out
                      have hcz49_0 : wc.cell? ⟨gb233, 0, none⟩ = some (.int .i64 t228) := (blk_cell BK233.out 0).trans rfl
                      have hcz49_1 : wc.cell? ⟨gb233, 1, none⟩ = some (.int .i64 t229) := (blk_cell BK233.out 1).trans rfl
                      have hcz49_2 : wc.cell? ⟨gb233, 2, none⟩ = some (.int .i64 t230) := (blk_cell BK233.out 2).trans rfl
                      have hcz49_3 : wc.cell? ⟨gb233, 3, none⟩ = some (.int .i64 t231) := (blk_cell BK233.out 3).trans rfl
                      have hfz49_0 := blk_frozen BK233.out 0
                      have hfz49_1 := blk_frozen BK233.out 1
                      have hfz49_2 := blk_frozen BK233.out 2
                      have hfz49_3 := blk_frozen BK233.out 3
                      have hcz50_0 : wc.cell? ⟨gb227, 0, none⟩ = some (.int .i64 t222) := (blk_cell BK227.out 0).trans rfl
                      have hcz50_1 : wc.cell? ⟨gb227, 1, none⟩ = some (.int .i64 t223) := (blk_cell BK227.out 1).trans rfl
                      have hcz50_2 : wc.cell? ⟨gb227, 2, none⟩ = some (.int .i64 t224) := (blk_cell BK227.out 2).trans rfl
                      have hcz50_3 : wc.cell? ⟨gb227, 3, none⟩ = some (.int .i64 t225) := (blk_cell BK227.out 3).trans rfl
                      have hfz50_0 := blk_frozen BK227.out 0
                      have hfz50_1 := blk_frozen BK227.out 1
                      have hfz50_2 := blk_frozen BK227.out 2
                      have hfz50_3 := blk_frozen BK227.out 3
                      go_wp2
                      go_ret
                      exact ⟨by first | rfl | (simp [errW_none, errW_some] <;> rfl) | (simp [*, errW_none, errW_some] <;> rfl), by repeat (first | (with_reducible first | exact HB.out | apply below_alloc | apply pw_below_drewN | apply below_drew1 | refine below_set ?_ GE227.out | refine below_set ?_ GE233.out) | exact HB.out)⟩
                · rw [if_neg c23] at H
                  have c23b0 : (t230 == 1) = false := beq_eq_false_iff_ne.mpr c23
                  have c23b1 : (t230 != 1) = true := bne_iff_ne.mpr c23
                  by_cases c51 : t230 = (wrap64 (t224 + 1))
                  · rw [if_pos c51] at H
                    have c51b0 : (t230 == (wrap64 (t224 + 1))) = true := beq_iff_eq.mpr c51
                    have c51b1 : (t230 != (wrap64 (t224 + 1))) = false := bne_eq_false_iff_eq.mpr c51
                    clear c51
                    by_cases c52 : t229 = t223
                    · rw [if_pos c52] at H
                      have c52b0 : (t229 == t223) = true := beq_iff_eq.mpr c52
                      have c52b1 : (t229 != t223) = false := bne_eq_false_iff_eq.mpr c52
                      clear c52
                      obtain rfl := Option.some.inj H
                      have hnb53 := NB233_227.out
                      have hnc53 := NB227_233.out
                      have hcz54_0 : wc.cell? ⟨gb233, 0, none⟩ = some (.int .i64 t228) := (blk_cell BK233.out 0).trans rfl
                      have hcz54_1 : wc.cell? ⟨gb233, 1, none⟩ = some (.int .i64 t229) := (blk_cell BK233.out 1).trans rfl
                      have hcz54_2 : wc.cell? ⟨gb233, 2, none⟩ = some (.int .i64 t230) := (blk_cell BK233.out 2).trans rfl
                      have hcz54_3 : wc.cell? ⟨gb233, 3, none⟩ = some (.int .i64 t231) := (blk_cell BK233.out 3).trans rfl
                      have hfz54_0 := blk_frozen BK233.out 0
                      have hfz54_1 := blk_frozen BK233.out 1
                      have hfz54_2 := blk_frozen BK233.out 2
                      have hfz54_3 := blk_frozen BK233.out 3
                      have hcz55_0 : wc.cell? ⟨gb227, 0, none⟩ = some (.int .i64 t222) := (blk_cell BK227.out 0).trans rfl
                      have hcz55_1 : wc.cell? ⟨gb227, 1, none⟩ = some (.int .i64 t223) := (blk_cell BK227.out 1).trans rfl
                      have hcz55_2 : wc.cell? ⟨gb227, 2, none⟩ = some (.int .i64 t224) := (blk_cell BK227.out 2).trans rfl
                      have hcz55_3 : wc.cell? ⟨gb227, 3, none⟩ = some (.int .i64 t225) := (blk_cell BK227.out 3).trans rfl
                      have hfz55_0 := blk_frozen BK227.out 0
                      have hfz55_1 := blk_frozen BK227.out 1
                      have hfz55_2 := blk_frozen BK227.out 2
                      have hfz55_3 := blk_frozen BK227.out 3
                      go_wp2
                      go_ret
                      exact ⟨by first | rfl | (simp [errW_none, errW_some] <;> rfl) | (simp [*, errW_none, errW_some] <;> rfl), by repeat (first | (with_reducible first | exact HB.out | apply below_alloc | apply pw_below_drewN | apply below_drew1 | refine below_set ?_ GE227.out | refine below_set ?_ GE233.out) | exact HB.out)⟩
                    · rw [if_neg c52] at H
                      have c52b0 : (t229 == t223) = false := beq_eq_false_iff_ne.mpr c52
                      have c52b1 : (t229 != t223) = true := bne_iff_ne.mpr c52
                      obtain rfl := Option.some.inj H
                      have hnb56 := NB233_227.out
                      have hnc56 := NB227_233.out
                      have hcz57_0 : wc.cell? ⟨gb233, 0, none⟩ = some (.int .i64 t228) := (blk_cell BK233.out 0).trans rfl
                      have hcz57_1 : wc.cell? ⟨gb233, 1, none⟩ = some (.int .i64 t229) := (blk_cell BK233.out 1).trans rfl
                      have hcz57_2 : wc.cell? ⟨gb233, 2, none⟩ = some (.int .i64 t230) := (blk_cell BK233.out 2).trans rfl
                      have hcz57_3 : wc.cell? ⟨gb233, 3, none⟩ = some (.int .i64 t231) := (blk_cell BK233.out 3).trans rfl
                      have hfz57_0 := blk_frozen BK233.out 0
                      have hfz57_1 := blk_frozen BK233.out 1
                      have hfz57_2 := blk_frozen BK233.out 2
                      have hfz57_3 := blk_frozen BK233.out 3
                      have hcz58_0 : wc.cell? ⟨gb227, 0, none⟩ = some (.int .i64 t222) := (blk_cell BK227.out 0).trans rfl
                      have hcz58_1 : wc.cell? ⟨gb227, 1, none⟩ = some (.int .i64 t223) := (blk_cell BK227.out 1).trans rfl
                      have hcz58_2 : wc.cell? ⟨gb227, 2, none⟩ = some (.int .i64 t224) := (blk_cell BK227.out 2).trans rfl
                      have hcz58_3 : wc.cell? ⟨gb227, 3, none⟩ = some (.int .i64 t225) := (blk_cell BK227.out 3).trans rfl
                      have hfz58_0 := blk_frozen BK227.out 0
                      have hfz58_1 := blk_frozen BK227.out 1
                      have hfz58_2 := blk_frozen BK227.out 2
                      have hfz58_3 := blk_frozen BK227.out 3
                      go_wp2
                      go_ret
                      exact ⟨by first | rfl | (simp [errW_none, errW_some] <;> rfl) | (simp [*, errW_none, errW_some] <;> rfl), by repeat (first | (with_reducible first | exact HB.out | apply below_alloc | apply pw_below_drewN | apply below_drew1 | refine below_set ?_ GE227.out | refine below_set ?_ GE233.out) | exact HB.out)⟩
                  · rw [if_neg c51] at H
                    have c51b0 : (t230 == (wrap64 (t224 + 1))) = false := beq_eq_false_iff_ne.mpr c51
                    have c51b1 : (t230 != (wrap64 (t224 + 1))) = true := bne_iff_ne.mpr c51
                    obtain rfl := Option.some.inj H
                    have hnb59 := NB233_227.out
                    have hnc59 := NB227_233.out
                    have hcz60_0 : wc.cell? ⟨gb233, 0, none⟩ = some (.int .i64 t228) := (blk_cell BK233.out 0).trans rfl
                    have hcz60_1 : wc.cell? ⟨gb233, 1, none⟩ = some (.int .i64 t229) := (blk_cell BK233.out 1).trans rfl
                    have hcz60_2 : wc.cell? ⟨gb233, 2, none⟩ = some (.int .i64 t230) := (blk_cell BK233.out 2).trans rfl
                    have hcz60_3 : wc.cell? ⟨gb233, 3, none⟩ = some (.int .i64 t231) := (blk_cell BK233.out 3).trans rfl
                    have hfz60_0 := blk_frozen BK233.out 0
                    have hfz60_1 := blk_frozen BK233.out 1
                    have hfz60_2 := blk_frozen BK233.out 2
                    have hfz60_3 := blk_frozen BK233.out 3
                    have hcz61_0 : wc.cell? ⟨gb227, 0, none⟩ = some (.int .i64 t222) := (blk_cell BK227.out 0).trans rfl
                    have hcz61_1 : wc.cell? ⟨gb227, 1, none⟩ = some (.int .i64 t223) := (blk_cell BK227.out 1).trans rfl
                    have hcz61_2 : wc.cell? ⟨gb227, 2, none⟩ = some (.int .i64 t224) := (blk_cell BK227.out 2).trans rfl
                    have hcz61_3 : wc.cell? ⟨gb227, 3, none⟩ = some (.int .i64 t225) := (blk_cell BK227.out 3).trans rfl
                    have hfz61_0 := blk_frozen BK227.out 0
                    have hfz61_1 := blk_frozen BK227.out 1
                    have hfz61_2 := blk_frozen BK227.out 2
                    have hfz61_3 := blk_frozen BK227.out 3
                    go_wp2
                    go_ret
                    exact ⟨by first | rfl | (simp [errW_none, errW_some] <;> rfl) | (simp [*, errW_none, errW_some] <;> rfl), by repeat (first | (with_reducible first | exact HB.out | apply below_alloc | apply pw_below_drewN | apply below_drew1 | refine below_set ?_ GE227.out | refine below_set ?_ GE233.out) | exact HB.out)⟩
  · replace c3 := Bool.eq_false_iff.mpr c3
    subst c3
    have H1 : (some false) = some r := by rw [if_neg (show ¬ (false = true) by decide)] at H; exact H
    clear H
    have H := H1
    clear H1
    obtain rfl := Option.some.inj H
    go_enter Tryd.func8, Tryd.ntmps8
    go_wp2_with (first | ((with_reducible refine gate_callee (f := 10) rfl ?_); refine goesL_ (some 7) rfl rfl Tryd.func10 (by kernel_rfl) rfl #[] rfl (by (try simp only [List.map_toArray, List.map_cons, List.map_nil]); first | done | rfl | (simp only [List.length_drop, List.length_take]; rfl)) ?_; (with_reducible refine (mandolinelaw06_wakes.calls k  false _ ?side1 A2.out).mono ?_); (case side1 => exact Glob.below HG.out (by repeat (first | (with_reducible first | exact HB.out | apply below_alloc | apply pw_below_drewN | apply below_drew1) | exact HB.out))); rintro e w62 ⟨rfl, hb⟩; refine ⟨_, rfl, ?_⟩; have n0_ := Aside0.mk (below_step (by repeat (first | (with_reducible first | exact HB.out | apply below_alloc | apply pw_below_drewN | apply below_drew1) | exact HB.out)) hb); clear HB; have HB := n0_; clear n0_; (try clear hb); (try clear hb2); (try clear hk); (try clear hi)))
    go_ret
    exact ⟨by first | rfl | (simp [errW_none, errW_some] <;> rfl) | (simp [*, errW_none, errW_some] <;> rfl), by repeat (first | (with_reducible first | exact HB.out | apply below_alloc | apply pw_below_drewN | apply below_drew1) | exact HB.out)⟩

end Go.Proofs.YtiifmbajiibciaaDoor.X
