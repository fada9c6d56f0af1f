-- Printed by a program of this session (pp.py: the kit's print.py, run with contracts of its own) out of the translation. Not trusted: Lean checks it.
import Derived.Test.YtbgbbpmbmccgiaaDoorX0
import Derived.Test.YtbgbbpmbmccgiaaDoorX1
import Derived.Test.YtbgbbpmbmccgiaaDoorX2
import Derived.Test.YtbgbbpmbmccgiaaDoorX3
namespace Go.Proofs.YtbgbbpmbmccgiaaDoor.X
open Go.RowKit Go.Proofs.YtbgbbpmbmccgiaaDoorW.PrintWords Go.Proofs.YtbgbbpmbmccgiaaDoorW.PrintLast Go.Proofs.YtbgbbpmbmccgiaaDoorW.PrintMore
attribute [local go_sem] max2_int min2_int max_two min_two max_three min_three max_four min_four   -- for this text's walks alone
set_option linter.unusedVariables false
set_option linter.unusedSimpArgs false

attribute [local go_sem high] eqA23
/-! ### tag_Strong: function 23 -/
def tag_Strong.f (k : Nat) (a0_0 : ByteArray) (a0_1 : Bool) (a1_0 : ByteArray) (a1_1 : Bool) : Option (Bool) := (tag_Weak.f k a0_0 a0_1 a1_0 a1_1).bind fun t144 => (if t144 = true then (if a0_1 = true then (some false) else (some (!a1_1))) else (some false))
theorem tag_Strong.mono : ∀ a0 a1 a2 a3 k, LeO (tag_Strong.f k a0 a1 a2 a3) (tag_Strong.f (k + 1) a0 a1 a2 a3) := by
  intro a0 a1 a2 a3 k
  unfold tag_Strong.f
  repeat' first
      | (with_reducible exact tag_Weak.mono _ _ _ _ _)
      | (with_reducible exact LeO.refl _)
      | (with_reducible exact LeO.none _)
      | (with_reducible refine LeO.ite ?_ ?_)
      | (with_reducible refine LeO.bind ?_ (fun _ => ?_))
      | exact tag_Weak.mono _ _ _ _ _
      | exact LeO.none _
      | refine LeO.ite ?_ ?_
      | refine LeO.bind ?_ (fun _ => ?_)
set_option maxHeartbeats 8000000 in
set_option maxRecDepth 100000 in
theorem tag_Strong.calls (k : Nat) (a0_0 : ByteArray) (a0_1 : Bool) (a1_0 : ByteArray) (a1_1 : Bool) (r : Bool) (w : World) (h : tag_Strong.f k a0_0 a0_1 a1_0 a1_1 = some r) :
    Calls Tryd.prog 23 #[.agg #[.string a0_0, .bool a0_1], .agg #[.string a1_0, .bool a1_1]] w fun e w' => e = .returned (.bool r) ∧ Below w.heap.size w w' := by
  have hu23 := Tryd.underlying23
  have HB := Aside0.mk (Below.refl w.heap.size w)
  have H : ((tag_Weak.f k a0_0 a0_1 a1_0 a1_1).bind fun t144 => (if t144 = true then (if a0_1 = true then (some false) else (some (!a1_1))) else (some false))) = some r := h
  clear h
  replace H := Option.bind_eq_some_iff.mp H
  obtain ⟨t144, A30, H⟩ := H
  replace H : (if t144 = true then (if a0_1 = true then (some false) else (some (!a1_1))) else (some false)) = some r := H
  have A3 := Aside0.mk A30
  clear A30
  by_cases c4 : t144 = true
  · subst c4
    have H1 : (if a0_1 = true then (some false) else (some (!a1_1))) = some r := by rw [if_pos rfl] at H; exact H
    clear H
    have H := H1
    clear H1
    by_cases c5 : a0_1 = true
    · subst c5
      have H1 : (some false) = some r := by rw [if_pos rfl] at H; exact H
      clear H
      have H := H1
      clear H1
      obtain rfl := Option.some.inj H
      go_enter Tryd.func23, Tryd.ntmps23
      go_wp2_with (first | ((with_reducible refine gate_dst (N := 2) rfl ?_); refine box_event ?hg (N := 2) ?hd (cs := #[.string a0_0, .bool true]) (t := 23) ?hr ?_; (case hd => rfl); (case hg => rfl); (case hr => first | (go_simp; done) | (go_simp; rfl)); intro gb142 hg w6 hbox hb; have n0_ := Aside0.mk (below_step (by repeat (first | (with_reducible first | exact HB.out | apply below_alloc | apply pw_below_drewN | apply below_drew1) | exact HB.out)) hb); have n1_ := Aside0.mk (hbox); have n2_ := Aside0.mk ((by rw [hg]; exact (below_size (by repeat (first | (with_reducible first | exact HB.out | apply below_alloc | apply pw_below_drewN | apply below_drew1) | exact HB.out))) : w.heap.size ≤ gb142)); have n3_ := Aside0.mk ((by rw [hg]; exact (below_size (by repeat (first | (with_reducible first | exact HB.out | apply below_alloc | apply pw_below_drewN | apply below_drew1) | exact HB.out))) : w.heap.size ≤ gb142)); clear HB; have HB := n0_; have BK142 := n1_; have GW142 := n2_; have GE142 := n3_; clear n0_ n1_ n2_ n3_; clear hb hbox hg) | ((with_reducible refine gate_dst (N := 3) rfl ?_); refine box_event ?hg (N := 3) ?hd (cs := #[.string a1_0, .bool a1_1]) (t := 23) ?hr ?_; (case hd => rfl); (case hg => rfl); (case hr => first | (go_simp; done) | (go_simp; rfl)); intro gb143 hg w7 hbox hb; have n0_ := Aside0.mk (blk_below (g := gb142) (o := .cells #[.string a0_0, .bool true] 23 (0, 0)) (by (with_reducible repeat (first | refine blk_drewN ?_ _ | refine blk_drew ?_ | refine blk_alloc ?_ _)); exact BK142.out) hb); have n1_ := Aside0.mk (below_step (by repeat (first | (with_reducible first | exact HB.out | apply below_alloc | apply pw_below_drewN | apply below_drew1 | refine below_set ?_ GE142.out) | exact HB.out)) hb); have n2_ := Aside0.mk (hbox); have n3_ := Aside0.mk ((by rw [hg]; exact (below_size (by repeat (first | (with_reducible first | exact HB.out | apply below_alloc | apply pw_below_drewN | apply below_drew1 | refine below_set ?_ GE142.out) | exact HB.out))) : w.heap.size ≤ gb143)); have n4_ := Aside0.mk ((by rw [hg]; exact (below_size (by repeat (first | (with_reducible first | exact HB.out | apply below_alloc | apply pw_below_drewN | apply below_drew1 | refine below_set ?_ GE142.out) | exact HB.out))) : w.heap.size ≤ gb143)); have n5_ := Aside0.mk ((by rw [hg]; exact Nat.ne_of_lt (blk_lt (g := gb142) (o := .cells #[.string a0_0, .bool true] 23 (0, 0)) (by (with_reducible repeat (first | refine blk_drewN ?_ _ | refine blk_drew ?_ | refine blk_alloc ?_ _)); exact BK142.out)) : gb142 ≠ gb143)); have n6_ := Aside0.mk ((by rw [hg]; exact Nat.ne_of_gt (blk_lt (g := gb142) (o := .cells #[.string a0_0, .bool true] 23 (0, 0)) (by (with_reducible repeat (first | refine blk_drewN ?_ _ | refine blk_drew ?_ | refine blk_alloc ?_ _)); exact BK142.out)) : gb143 ≠ gb142)); clear BK142; clear HB; have BK142 := n0_; have HB := n1_; have BK143 := n2_; have GW143 := n3_; have GE143 := n4_; have NB142_143 := n5_; have NB143_142 := n6_; clear n0_ n1_ n2_ n3_ n4_ n5_ n6_; clear hb hbox hg; have hnb8 := NB142_143.out; have hnc8 := NB143_142.out; have hcz9_0 : w7.cell? ⟨gb142, 0, none⟩ = some (.string a0_0) := (blk_cell BK142.out 0).trans rfl; have hcz9_1 : w7.cell? ⟨gb142, 1, none⟩ = some (.bool true) := (blk_cell BK142.out 1).trans rfl; have hfz9_0 := blk_frozen BK142.out 0; have hfz9_1 := blk_frozen BK142.out 1; have hcz10_0 : w7.cell? ⟨gb143, 0, none⟩ = some (.string a1_0) := (blk_cell BK143.out 0).trans rfl; have hcz10_1 : w7.cell? ⟨gb143, 1, none⟩ = some (.bool a1_1) := (blk_cell BK143.out 1).trans rfl; have hfz10_0 := blk_frozen BK143.out 0; have hfz10_1 := blk_frozen BK143.out 1) | ((with_reducible refine gate_callee (f := 25) rfl ?_); refine goesL_ (some 7) rfl rfl Tryd.func25 (by kernel_rfl) rfl #[.agg #[.string a0_0, .bool true], .agg #[.string a1_0, .bool a1_1]] rfl (by (try simp only [List.map_toArray, List.map_cons, List.map_nil]); first | done | rfl | (simp only [List.length_drop, List.length_take]; rfl)) ?_; (with_reducible refine (tag_Weak.calls k a0_0 true a1_0 a1_1 true _ A3.out).mono ?_); rintro e w11 ⟨rfl, hb⟩; refine ⟨_, rfl, ?_⟩; have n0_ := Aside0.mk (blk_below (g := gb142) (o := .cells #[.string a0_0, .bool true] 23 (0, 0)) (by (with_reducible repeat (first | refine blk_drewN ?_ _ | refine blk_drew ?_ | refine blk_alloc ?_ _)); exact BK142.out) hb); have n1_ := Aside0.mk (blk_below (g := gb143) (o := .cells #[.string a1_0, .bool a1_1] 23 (0, 0)) (by (with_reducible repeat (first | refine blk_drewN ?_ _ | refine blk_drew ?_ | refine blk_alloc ?_ _)); exact BK143.out) hb); have n2_ := Aside0.mk (below_step (by repeat (first | (with_reducible first | exact HB.out | apply below_alloc | apply pw_below_drewN | apply below_drew1 | refine below_set ?_ GE142.out | refine below_set ?_ GE143.out) | exact HB.out)) hb); clear BK142; clear BK143; clear HB; have BK142 := n0_; have BK143 := n1_; have HB := n2_; clear n0_ n1_ n2_; (try clear hb); (try clear hb2); (try clear hk); (try clear hi); have hcz12_0 : w11.cell? ⟨gb142, 0, none⟩ = some (.string a0_0) := (blk_cell BK142.out 0).trans rfl; have hcz12_1 : w11.cell? ⟨gb142, 1, none⟩ = some (.bool true) := (blk_cell BK142.out 1).trans rfl; have hfz12_0 := blk_frozen BK142.out 0; have hfz12_1 := blk_frozen BK142.out 1))
      go_ret
      exact ⟨by first | rfl | (simp [errW_none, errW_some] <;> rfl) | (simp [*, errW_none, errW_some] <;> rfl), by repeat (first | (with_reducible first | exact HB.out | apply below_alloc | apply pw_below_drewN | apply below_drew1 | refine below_set ?_ GE142.out | refine below_set ?_ GE143.out) | exact HB.out)⟩
    · replace c5 := Bool.eq_false_iff.mpr c5
      subst c5
      have H1 : (some (!a1_1)) = some r := by rw [if_neg (show ¬ (false = true) by decide)] at H; exact H
      clear H
      have H := H1
      clear H1
      obtain rfl := Option.some.inj H
      go_enter Tryd.func23, Tryd.ntmps23
      go_wp2_with (first | ((with_reducible refine gate_dst (N := 2) rfl ?_); refine box_event ?hg (N := 2) ?hd (cs := #[.string a0_0, .bool false]) (t := 23) ?hr ?_; (case hd => rfl); (case hg => rfl); (case hr => first | (go_simp; done) | (go_simp; rfl)); intro gb142 hg w13 hbox hb; have n0_ := Aside0.mk (below_step (by repeat (first | (with_reducible first | exact HB.out | apply below_alloc | apply pw_below_drewN | apply below_drew1) | exact HB.out)) hb); have n1_ := Aside0.mk (hbox); have n2_ := Aside0.mk ((by rw [hg]; exact (below_size (by repeat (first | (with_reducible first | exact HB.out | apply below_alloc | apply pw_below_drewN | apply below_drew1) | exact HB.out))) : w.heap.size ≤ gb142)); have n3_ := Aside0.mk ((by rw [hg]; exact (below_size (by repeat (first | (with_reducible first | exact HB.out | apply below_alloc | apply pw_below_drewN | apply below_drew1) | exact HB.out))) : w.heap.size ≤ gb142)); clear HB; have HB := n0_; have BK142 := n1_; have GW142 := n2_; have GE142 := n3_; clear n0_ n1_ n2_ n3_; clear hb hbox hg) | ((with_reducible refine gate_dst (N := 3) rfl ?_); refine box_event ?hg (N := 3) ?hd (cs := #[.string a1_0, .bool a1_1]) (t := 23) ?hr ?_; (case hd => rfl); (case hg => rfl); (case hr => first | (go_simp; done) | (go_simp; rfl)); intro gb143 hg w14 hbox hb; have n0_ := Aside0.mk (blk_below (g := gb142) (o := .cells #[.string a0_0, .bool false] 23 (0, 0)) (by (with_reducible repeat (first | refine blk_drewN ?_ _ | refine blk_drew ?_ | refine blk_alloc ?_ _)); exact BK142.out) hb); have n1_ := Aside0.mk (below_step (by repeat (first | (with_reducible first | exact HB.out | apply below_alloc | apply pw_below_drewN | apply below_drew1 | refine below_set ?_ GE142.out) | exact HB.out)) hb); have n2_ := Aside0.mk (hbox); have n3_ := Aside0.mk ((by rw [hg]; exact (below_size (by repeat (first | (with_reducible first | exact HB.out | apply below_alloc | apply pw_below_drewN | apply below_drew1 | refine below_set ?_ GE142.out) | exact HB.out))) : w.heap.size ≤ gb143)); have n4_ := Aside0.mk ((by rw [hg]; exact (below_size (by repeat (first | (with_reducible first | exact HB.out | apply below_alloc | apply pw_below_drewN | apply below_drew1 | refine below_set ?_ GE142.out) | exact HB.out))) : w.heap.size ≤ gb143)); have n5_ := Aside0.mk ((by rw [hg]; exact Nat.ne_of_lt (blk_lt (g := gb142) (o := .cells #[.string a0_0, .bool false] 23 (0, 0)) (by (with_reducible repeat (first | refine blk_drewN ?_ _ | refine blk_drew ?_ | refine blk_alloc ?_ _)); exact BK142.out)) : gb142 ≠ gb143)); have n6_ := Aside0.mk ((by rw [hg]; exact Nat.ne_of_gt (blk_lt (g := gb142) (o := .cells #[.string a0_0, .bool false] 23 (0, 0)) (by (with_reducible repeat (first | refine blk_drewN ?_ _ | refine blk_drew ?_ | refine blk_alloc ?_ _)); exact BK142.out)) : gb143 ≠ gb142)); clear BK142; clear HB; have BK142 := n0_; have HB := n1_; have BK143 := n2_; have GW143 := n3_; have GE143 := n4_; have NB142_143 := n5_; have NB143_142 := n6_; clear n0_ n1_ n2_ n3_ n4_ n5_ n6_; clear hb hbox hg; have hnb15 := NB142_143.out; have hnc15 := NB143_142.out; have hcz16_0 : w14.cell? ⟨gb142, 0, none⟩ = some (.string a0_0) := (blk_cell BK142.out 0).trans rfl; have hcz16_1 : w14.cell? ⟨gb142, 1, none⟩ = some (.bool false) := (blk_cell BK142.out 1).trans rfl; have hfz16_0 := blk_frozen BK142.out 0; have hfz16_1 := blk_frozen BK142.out 1; have hcz17_0 : w14.cell? ⟨gb143, 0, none⟩ = some (.string a1_0) := (blk_cell BK143.out 0).trans rfl; have hcz17_1 : w14.cell? ⟨gb143, 1, none⟩ = some (.bool a1_1) := (blk_cell BK143.out 1).trans rfl; have hfz17_0 := blk_frozen BK143.out 0; have hfz17_1 := blk_frozen BK143.out 1) | ((with_reducible refine gate_callee (f := 25) rfl ?_); refine goesL_ (some 7) rfl rfl Tryd.func25 (by kernel_rfl) rfl #[.agg #[.string a0_0, .bool false], .agg #[.string a1_0, .bool a1_1]] rfl (by (try simp only [List.map_toArray, List.map_cons, List.map_nil]); first | done | rfl | (simp only [List.length_drop, List.length_take]; rfl)) ?_; (with_reducible refine (tag_Weak.calls k a0_0 false a1_0 a1_1 true _ A3.out).mono ?_); rintro e w18 ⟨rfl, hb⟩; refine ⟨_, rfl, ?_⟩; have n0_ := Aside0.mk (blk_below (g := gb142) (o := .cells #[.string a0_0, .bool false] 23 (0, 0)) (by (with_reducible repeat (first | refine blk_drewN ?_ _ | refine blk_drew ?_ | refine blk_alloc ?_ _)); exact BK142.out) hb); have n1_ := Aside0.mk (blk_below (g := gb143) (o := .cells #[.string a1_0, .bool a1_1] 23 (0, 0)) (by (with_reducible repeat (first | refine blk_drewN ?_ _ | refine blk_drew ?_ | refine blk_alloc ?_ _)); exact BK143.out) hb); have n2_ := Aside0.mk (below_step (by repeat (first | (with_reducible first | exact HB.out | apply below_alloc | apply pw_below_drewN | apply below_drew1 | refine below_set ?_ GE142.out | refine below_set ?_ GE143.out) | exact HB.out)) hb); clear BK142; clear BK143; clear HB; have BK142 := n0_; have BK143 := n1_; have HB := n2_; clear n0_ n1_ n2_; (try clear hb); (try clear hb2); (try clear hk); (try clear hi); have hcz19_0 : w18.cell? ⟨gb142, 0, none⟩ = some (.string a0_0) := (blk_cell BK142.out 0).trans rfl; have hcz19_1 : w18.cell? ⟨gb142, 1, none⟩ = some (.bool false) := (blk_cell BK142.out 1).trans rfl; have hfz19_0 := blk_frozen BK142.out 0; have hfz19_1 := blk_frozen BK142.out 1; have hcz20_0 : w18.cell? ⟨gb143, 0, none⟩ = some (.string a1_0) := (blk_cell BK143.out 0).trans rfl; have hcz20_1 : w18.cell? ⟨gb143, 1, none⟩ = some (.bool a1_1) := (blk_cell BK143.out 1).trans rfl; have hfz20_0 := blk_frozen BK143.out 0; have hfz20_1 := blk_frozen BK143.out 1))
      go_ret
      exact ⟨by first | rfl | (simp [errW_none, errW_some] <;> rfl) | (simp [*, errW_none, errW_some] <;> rfl), by repeat (first | (with_reducible first | exact HB.out | apply below_alloc | apply pw_below_drewN | apply below_drew1 | refine below_set ?_ GE142.out | refine below_set ?_ GE143.out) | exact HB.out)⟩
  · replace c4 := Bool.eq_false_iff.mpr c4
    subst c4
    have H1 : (some false) = some r := by rw [if_neg (show ¬ (false = true) by decide)] at H; exact H
    clear H
    have H := H1
    clear H1
    obtain rfl := Option.some.inj H
    go_enter Tryd.func23, Tryd.ntmps23
    go_wp2_with (first | ((with_reducible refine gate_dst (N := 2) rfl ?_); refine box_event ?hg (N := 2) ?hd (cs := #[.string a0_0, .bool a0_1]) (t := 23) ?hr ?_; (case hd => rfl); (case hg => rfl); (case hr => first | (go_simp; done) | (go_simp; rfl)); intro gb142 hg w21 hbox hb; have n0_ := Aside0.mk (below_step (by repeat (first | (with_reducible first | exact HB.out | apply below_alloc | apply pw_below_drewN | apply below_drew1) | exact HB.out)) hb); have n1_ := Aside0.mk (hbox); have n2_ := Aside0.mk ((by rw [hg]; exact (below_size (by repeat (first | (with_reducible first | exact HB.out | apply below_alloc | apply pw_below_drewN | apply below_drew1) | exact HB.out))) : w.heap.size ≤ gb142)); have n3_ := Aside0.mk ((by rw [hg]; exact (below_size (by repeat (first | (with_reducible first | exact HB.out | apply below_alloc | apply pw_below_drewN | apply below_drew1) | exact HB.out))) : w.heap.size ≤ gb142)); clear HB; have HB := n0_; have BK142 := n1_; have GW142 := n2_; have GE142 := n3_; clear n0_ n1_ n2_ n3_; clear hb hbox hg) | ((with_reducible refine gate_dst (N := 3) rfl ?_); refine box_event ?hg (N := 3) ?hd (cs := #[.string a1_0, .bool a1_1]) (t := 23) ?hr ?_; (case hd => rfl); (case hg => rfl); (case hr => first | (go_simp; done) | (go_simp; rfl)); intro gb143 hg w22 hbox hb; have n0_ := Aside0.mk (blk_below (g := gb142) (o := .cells #[.string a0_0, .bool a0_1] 23 (0, 0)) (by (with_reducible repeat (first | refine blk_drewN ?_ _ | refine blk_drew ?_ | refine blk_alloc ?_ _)); exact BK142.out) hb); have n1_ := Aside0.mk (below_step (by repeat (first | (with_reducible first | exact HB.out | apply below_alloc | apply pw_below_drewN | apply below_drew1 | refine below_set ?_ GE142.out) | exact HB.out)) hb); have n2_ := Aside0.mk (hbox); have n3_ := Aside0.mk ((by rw [hg]; exact (below_size (by repeat (first | (with_reducible first | exact HB.out | apply below_alloc | apply pw_below_drewN | apply below_drew1 | refine below_set ?_ GE142.out) | exact HB.out))) : w.heap.size ≤ gb143)); have n4_ := Aside0.mk ((by rw [hg]; exact (below_size (by repeat (first | (with_reducible first | exact HB.out | apply below_alloc | apply pw_below_drewN | apply below_drew1 | refine below_set ?_ GE142.out) | exact HB.out))) : w.heap.size ≤ gb143)); have n5_ := Aside0.mk ((by rw [hg]; exact Nat.ne_of_lt (blk_lt (g := gb142) (o := .cells #[.string a0_0, .bool a0_1] 23 (0, 0)) (by (with_reducible repeat (first | refine blk_drewN ?_ _ | refine blk_drew ?_ | refine blk_alloc ?_ _)); exact BK142.out)) : gb142 ≠ gb143)); have n6_ := Aside0.mk ((by rw [hg]; exact Nat.ne_of_gt (blk_lt (g := gb142) (o := .cells #[.string a0_0, .bool a0_1] 23 (0, 0)) (by (with_reducible repeat (first | refine blk_drewN ?_ _ | refine blk_drew ?_ | refine blk_alloc ?_ _)); exact BK142.out)) : gb143 ≠ gb142)); clear BK142; clear HB; have BK142 := n0_; have HB := n1_; have BK143 := n2_; have GW143 := n3_; have GE143 := n4_; have NB142_143 := n5_; have NB143_142 := n6_; clear n0_ n1_ n2_ n3_ n4_ n5_ n6_; clear hb hbox hg; have hnb23 := NB142_143.out; have hnc23 := NB143_142.out; have hcz24_0 : w22.cell? ⟨gb142, 0, none⟩ = some (.string a0_0) := (blk_cell BK142.out 0).trans rfl; have hcz24_1 : w22.cell? ⟨gb142, 1, none⟩ = some (.bool a0_1) := (blk_cell BK142.out 1).trans rfl; have hfz24_0 := blk_frozen BK142.out 0; have hfz24_1 := blk_frozen BK142.out 1; have hcz25_0 : w22.cell? ⟨gb143, 0, none⟩ = some (.string a1_0) := (blk_cell BK143.out 0).trans rfl; have hcz25_1 : w22.cell? ⟨gb143, 1, none⟩ = some (.bool a1_1) := (blk_cell BK143.out 1).trans rfl; have hfz25_0 := blk_frozen BK143.out 0; have hfz25_1 := blk_frozen BK143.out 1) | ((with_reducible refine gate_callee (f := 25) rfl ?_); refine goesL_ (some 7) rfl rfl Tryd.func25 (by kernel_rfl) rfl #[.agg #[.string a0_0, .bool a0_1], .agg #[.string a1_0, .bool a1_1]] rfl (by (try simp only [List.map_toArray, List.map_cons, List.map_nil]); first | done | rfl | (simp only [List.length_drop, List.length_take]; rfl)) ?_; (with_reducible refine (tag_Weak.calls k a0_0 a0_1 a1_0 a1_1 false _ A3.out).mono ?_); rintro e w26 ⟨rfl, hb⟩; refine ⟨_, rfl, ?_⟩; have n0_ := Aside0.mk (blk_below (g := gb142) (o := .cells #[.string a0_0, .bool a0_1] 23 (0, 0)) (by (with_reducible repeat (first | refine blk_drewN ?_ _ | refine blk_drew ?_ | refine blk_alloc ?_ _)); exact BK142.out) hb); have n1_ := Aside0.mk (blk_below (g := gb143) (o := .cells #[.string a1_0, .bool a1_1] 23 (0, 0)) (by (with_reducible repeat (first | refine blk_drewN ?_ _ | refine blk_drew ?_ | refine blk_alloc ?_ _)); exact BK143.out) hb); have n2_ := Aside0.mk (below_step (by repeat (first | (with_reducible first | exact HB.out | apply below_alloc | apply pw_below_drewN | apply below_drew1 | refine below_set ?_ GE142.out | refine below_set ?_ GE143.out) | exact HB.out)) hb); clear BK142; clear BK143; clear HB; have BK142 := n0_; have BK143 := n1_; have HB := n2_; clear n0_ n1_ n2_; (try clear hb); (try clear hb2); (try clear hk); (try clear hi)))
    go_ret
    exact ⟨by first | rfl | (simp [errW_none, errW_some] <;> rfl) | (simp [*, errW_none, errW_some] <;> rfl), by repeat (first | (with_reducible first | exact HB.out | apply below_alloc | apply pw_below_drewN | apply below_drew1 | refine below_set ?_ GE142.out | refine below_set ?_ GE143.out) | exact HB.out)⟩

-- NOT PRINTED: function 48 (api_Tag_48)

-- NOT PRINTED: function 34 (api_Tag_34)

/-! ### tag_In: function 27 -/
def tag_In.one (k : Nat) (st : Bool) (x : S23) (tx : ByteArray) (wk : Bool) : Option Bool := if st = true then tag_Strong.f k x.f0 x.f1 tx wk else tag_Weak.f k x.f0 x.f1 tx wk
def tag_In.go (k : Nat) (tx : ByteArray) (wk : Bool) (st : Bool) : List S23 → Option Bool
  | [] => some false
  | x :: r => (tag_In.one k st x tx wk).bind fun b => if b = true then some true else tag_In.go k tx wk st r

/-- The closure: one of the two, at an element and the tag that was captured. -/
theorem tag_In.pred (k : Nat) (st : Bool) (x : S23) (tx : ByteArray) (wk : Bool) (bs bt : Nat) (r : Bool) (w : World)
    (h1 : w.cell? ⟨bs, 0, none⟩ = some (.func (.func (if st = true then 23 else 25)) #[] #[])) (h2 : w.cell? ⟨bt, 0, none⟩ = some (.string tx)) (h3 : w.cell? ⟨bt, 1, none⟩ = some (.bool wk))
    (h : tag_In.one k st x tx wk = some r) :
    Calls Tryd.prog 35 #[.agg #[.string x.f0, .bool x.f1], .pointer (some ⟨bs, 0, none⟩), .pointer (some ⟨bt, 0, none⟩)] w fun e w' => e = .returned (.bool r) ∧ Below w.heap.size w w' := by
  have hu23 := Tryd.underlying23
  have hbs := World.block_lt_of_cell? w _ h1
  have hbt := World.block_lt_of_cell? w _ h2
  cases st with
  | true =>
    have h1' : w.cell? ⟨bs, 0, none⟩ = some (.func (.func 23) #[] #[]) := h1
    clear h1
    have H := Aside0.mk (show tag_Strong.f k x.f0 x.f1 tx wk = some r from h)
    clear h
    go_enter Tryd.func35, Tryd.ntmps35
    go_wp2_with (go_at_call 23; refine (tag_Strong.calls k _ _ _ _ _ _ H.out).mono ?_; rintro e w' ⟨rfl, hb⟩)
    go_ret
    exact ⟨rfl, below_then (below_alloc (Below.refl _ _) _) (by simp) hb⟩
  | false =>
    have h1' : w.cell? ⟨bs, 0, none⟩ = some (.func (.func 25) #[] #[]) := h1
    clear h1
    have H := Aside0.mk (show tag_Weak.f k x.f0 x.f1 tx wk = some r from h)
    clear h
    go_enter Tryd.func35, Tryd.ntmps35
    go_wp2_with (go_at_call 25; refine (tag_Weak.calls k _ _ _ _ _ _ H.out).mono ?_; rintro e w' ⟨rfl, hb⟩)
    go_ret
    exact ⟨rfl, below_then (below_alloc (Below.refl _ _) _) (by simp) hb⟩

/-- The loop of the library, at this closure. -/
theorem tag_In.index (k : Nat) (A : Option Addr) (c : Nat) (l : List S23) (st : Bool) (tx : ByteArray) (wk : Bool) (bs bt : Nat) (r : Bool) (w : World) (hr : Kd.C k23 w A l.length l)
    (h1 : w.cell? ⟨bs, 0, none⟩ = some (.func (.func (if st = true then 23 else 25)) #[] #[])) (h2 : w.cell? ⟨bt, 0, none⟩ = some (.string tx)) (h3 : w.cell? ⟨bt, 1, none⟩ = some (.bool wk))
    (h : tag_In.go k tx wk st l = some r) :
    Calls Tryd.prog 48 #[.slice A l.length c, .func (.func 35) #[] #[.pointer (some ⟨bs, 0, none⟩), .pointer (some ⟨bt, 0, none⟩)]] w fun e w' => (∃ i : Int, e = .returned (.int .i64 i) ∧ decide (i ≥ 0) = r) ∧ Below w.heap.size w w' := by
  have hu23 := Tryd.underlying23
  have HR := Aside0.mk hr
  have H1 := Aside0.mk h1
  have H2 := Aside0.mk h2
  have H3 := Aside0.mk h3
  have HA := Aside0.mk h
  have hlen : (l.length : Int) ≤ 9223372036854775807 := by have := hr.2.1; omega
  clear hr h1 h2 h3 h
  have hl0 : (0 : Int) ≤ (l.length : Int) := by omega
  go_enter Tryd.func48, Tryd.ntmps48
  go_wp2
  go_loopw [8] (fun v8 w' => ∃ j : Nat, v8 = .int .i64 j ∧ j ≤ l.length ∧ Aside0 (tag_In.go k tx wk st (l.drop j) = some r) ∧ Aside0 (Below w.heap.size w w')) (fun v8 _ => l.length - (intOf v8).toNat)
  case atStart => exact ⟨0, rfl, Nat.zero_le _, HA, ⟨Below.refl _ _⟩⟩
  case round =>
    obtain ⟨j, rfl, hj, HA, HB⟩ := hrel
    by_cases hlt : j < l.length
    · have hd : l.drop j = rd_T23 l j :: l.drop (j + 1) := by
        rw [List.drop_eq_getElem_cons hlt]
        simp [rd_T23, List.getD, hlt]
      have HA' := HA.out
      rw [hd, tag_In.go] at HA'
      obtain ⟨b, hb1, hb2⟩ := Option.bind_eq_some_iff.mp HA'
      have HP := Aside0.mk hb1
      have HN := Aside0.mk hb2
      clear hb1 hb2 HA' HA
      have HD := Aside0.mk hd
      clear hd
      obtain ⟨ad, e, hx0, hx1⟩ := at_T23 HR.out (j : Int) (by omega) (by omega)
      subst e
      replace hx0 := (HB.out.cell (World.block_lt_of_cell? w _ hx0)).trans hx0
      replace hx1 := (HB.out.cell (World.block_lt_of_cell? w _ hx1)).trans hx1
      rw [Int.toNat_natCast] at hx0 hx1
      have hlt' : ((j : Int) < (l.length : Int)) := by omega
      have g1 := (HB.out.cell (World.block_lt_of_cell? w _ H1.out)).trans H1.out
      have g2 := (HB.out.cell (World.block_lt_of_cell? w _ H2.out)).trans H2.out
      have g3 := (HB.out.cell (World.block_lt_of_cell? w _ H3.out)).trans H3.out
      have G1 := Aside0.mk g1
      have G2 := Aside0.mk g2
      have G3 := Aside0.mk g3
      clear g1 g2 g3
      cases b with
      | true =>
        have hr : true = r := Option.some.inj HN.out
        subst hr
        go_wp2_with (go_at_call 35; refine (tag_In.pred k st (rd_T23 l j) tx wk bs bt _ _ G1.out G2.out G3.out HP.out).mono ?_; rintro e w1 ⟨rfl, hb⟩)
        go_ret
        exact ⟨⟨j, rfl, by simp⟩, below_then HB.out HB.out.size hb⟩
      | false =>
        have HN' : Aside0 (tag_In.go k tx wk st (l.drop (j + 1)) = some r) := ⟨HN.out⟩
        clear HN
        go_wp2_with (go_at_call 35; refine (tag_In.pred k st (rd_T23 l j) tx wk bs bt _ _ G1.out G2.out G3.out HP.out).mono ?_; rintro e w1 ⟨rfl, hb⟩)
        go_roundw
        case rel => exact ⟨j + 1, by go_num, by omega, HN', ⟨below_then HB.out HB.out.size hb⟩⟩
        case measure => simp [intOf]; omega
    · have hlt' : ¬ ((j : Int) < (l.length : Int)) := by omega
      have hj' : j = l.length := by omega
      have hd : l.drop j = [] := by rw [hj']; simp
      have HA' := HA.out
      rw [hd, tag_In.go] at HA'
      obtain rfl := Option.some.inj HA'
      clear HA' HA hd hj'
      go_wp2
      go_ret
      exact ⟨⟨-1, rfl, by decide⟩, HB.out⟩

theorem tag_In.contains (k : Nat) (A : Option Addr) (c : Nat) (l : List S23) (st : Bool) (tx : ByteArray) (wk : Bool) (bs bt : Nat) (r : Bool) (w : World) (hr : Kd.C k23 w A l.length l)
    (h1 : w.cell? ⟨bs, 0, none⟩ = some (.func (.func (if st = true then 23 else 25)) #[] #[])) (h2 : w.cell? ⟨bt, 0, none⟩ = some (.string tx)) (h3 : w.cell? ⟨bt, 1, none⟩ = some (.bool wk))
    (h : tag_In.go k tx wk st l = some r) :
    Calls Tryd.prog 34 #[.slice A l.length c, .func (.func 35) #[] #[.pointer (some ⟨bs, 0, none⟩), .pointer (some ⟨bt, 0, none⟩)]] w fun e w' => e = .returned (.bool r) ∧ Below w.heap.size w w' := by
  have HI := Aside0.mk (tag_In.index k A c l st tx wk bs bt r w hr h1 h2 h3 h)
  clear hr h1 h2 h3 h
  go_enter Tryd.func34, Tryd.ntmps34
  go_wp2_with (go_at_call 48; refine HI.out.mono ?_; rintro e w1 ⟨⟨i, rfl, hi⟩, hb⟩; have HD := Aside0.mk hi; clear hi)
  go_ret
  exact ⟨by rw [← HD.out]; rfl, hb⟩

def tag_In.f (k : Nat) (l0 : List S23) (a1_0 : ByteArray) (a1_1 : Bool) (a2 : Bool) : Option (Bool) := tag_In.go k a1_0 a1_1 a2 l0
theorem tag_In.mono : ∀ a0 a1 a2 a3 k, LeO (tag_In.f k a0 a1 a2 a3) (tag_In.f (k + 1) a0 a1 a2 a3) := by
  intro a0 a1 a2 a3 k
  unfold tag_In.f
  induction a0 with
  | nil => exact LeO.refl _
  | cons x r ih =>
    unfold tag_In.go
    refine LeO.bind ?_ (fun b => LeO.ite (LeO.refl _) ih)
    unfold tag_In.one
    exact LeO.ite (tag_Strong.mono _ _ _ _ k) (tag_Weak.mono _ _ _ _ k)
theorem tag_In.calls (k : Nat) (A0 : Option Addr) (c0 : Nat) (l0 : List (S23)) (a1_0 : ByteArray) (a1_1 : Bool) (a2 : Bool) (r : Bool) (w : World) (hr0 : Kd.C k23 w A0 l0.length l0) (hc0 : l0.length ≤ c0) (h : tag_In.f k l0 a1_0 a1_1 a2 = some r) :
    Calls Tryd.prog 27 #[.slice A0 l0.length c0, .agg #[.string a1_0, .bool a1_1], .bool a2] w fun e w' => e = .returned (.bool r) ∧ Below w.heap.size w w' := by
  have hu23 := Tryd.underlying23
  have HR := Aside0.mk hr0
  have H := Aside0.mk (show tag_In.go k a1_0 a1_1 a2 l0 = some r from h)
  clear hr0 hc0 h
  cases a2 with
  | true =>
    have HK := Aside0.mk (tag_In.contains k A0 c0 l0 true a1_0 a1_1 (w.heap.size + 1) w.heap.size r ((w.alloc (.cells #[.string a1_0, .bool a1_1] 23)).alloc (.cells #[.func (.func 23) #[] #[]] 39)) (Kd.C_below HR.out (below_alloc (below_alloc (Below.refl _ _) _) _)) (by simp) (by simp) (by simp) H.out)
    go_enter Tryd.func27, Tryd.ntmps27
    go_wp2_with (go_at_call 34; refine HK.out.mono ?_; rintro e w1 ⟨rfl, hb⟩)
    go_ret
    exact ⟨rfl, below_then (below_alloc (below_alloc (Below.refl _ _) _) _) (by simp; omega) hb⟩
  | false =>
    have HK := Aside0.mk (tag_In.contains k A0 c0 l0 false a1_0 a1_1 (w.heap.size + 1) w.heap.size r ((w.alloc (.cells #[.string a1_0, .bool a1_1] 23)).alloc (.cells #[.func (.func 25) #[] #[]] 39)) (Kd.C_below HR.out (below_alloc (below_alloc (Below.refl _ _) _) _)) (by simp) (by simp) (by simp) H.out)
    go_enter Tryd.func27, Tryd.ntmps27
    go_wp2_with (go_at_call 34; refine HK.out.mono ?_; rintro e w1 ⟨rfl, hb⟩)
    go_ret
    exact ⟨rfl, below_then (below_alloc (below_alloc (Below.refl _ _) _) _) (by simp; omega) hb⟩


/-! ### mandolinelaw05_awake: function 10 -/
def mandolinelaw05_awake.f (k : Nat)  : Option (Bool) := (tag_List.f k (⟨#[34, 97, 44, 98, 34, 44, 44, 32, 87, 47, 34, 99, 34]⟩ : ByteArray)).bind fun bt147 => ((tag_List.f k (⟨#[32, 42, 32]⟩ : ByteArray)).bind fun bt152 => ((tag_Parse.f k (⟨#[32, 34, 97, 34, 9]⟩ : ByteArray)).bind fun bt157 => ((tag_Parse.f k (⟨#[119, 47, 34, 97, 34]⟩ : ByteArray)).bind fun bt161 => (if (bt147.1.length : Int) = 2 then (if 0 < (bt147.1.length : Int) then (if ((rd_T23 bt147.1 0).f0).toList = ([97, 44, 98] : List UInt8) then (if 1 < (bt147.1.length : Int) then (if (rd_T23 bt147.1 1).f1 = true then (if bt147.2.1 = true then (none) else (if bt147.2.2 = 0 then (if bt152.2.1 = true then (if bt152.2.2 = 0 then (if (bt157.1.toList == ([97] : List UInt8) && (!bt157.2.1)) = true then (if bt157.2.2 = 0 then (if bt161.2.2 = 2 then ((tag_Text.f k (⟨#[97]⟩ : ByteArray) true).bind fun t167 => (if t167.toList = ([87, 47, 34, 97, 34] : List UInt8) then ((tag_Texts.f k (([(⟨(⟨#[97]⟩ : ByteArray), false⟩ : S23), (⟨(⟨#[97]⟩ : ByteArray), true⟩ : S23)] : List (S23))) false).bind fun t171 => (if t171.toList = ([34, 97, 34, 44, 32, 87, 47, 34, 97, 34] : List UInt8) then ((tag_Weak.f k (⟨#[97]⟩ : ByteArray) false (⟨#[97]⟩ : ByteArray) true).bind fun t172 => (if t172 = true then ((tag_Strong.f k (⟨#[97]⟩ : ByteArray) false (⟨#[97]⟩ : ByteArray) true).bind fun t173 => (if t173 = true then (none) else ((tag_Strong.f k (⟨#[97]⟩ : ByteArray) false (⟨#[97]⟩ : ByteArray) false).bind fun t174 => (if t174 = true then ((tag_In.f k (([(⟨(⟨#[97]⟩ : ByteArray), true⟩ : S23), (⟨(⟨#[97]⟩ : ByteArray), false⟩ : S23)] : List (S23))) (⟨#[97]⟩ : ByteArray) false true).bind fun t178 => (if t178 = true then ((tag_Right.f k (⟨#[]⟩ : ByteArray) false).bind fun t179 => (if t179 = true then (none) else ((tag_Right.f k (⟨#[97]⟩ : ByteArray) false).bind fun t180 => (some t180)))) else (none))) else (none))))) else (none))) else (none))) else (none))) else (none)) else (none)) else (none)) else (none)) else (none)) else (none))) else (none)) else (none)) else (none)) else (none)) else (none)))))
theorem mandolinelaw05_awake.mono : ∀ k, LeO (mandolinelaw05_awake.f k ) (mandolinelaw05_awake.f (k + 1) ) := by
  intro  k
  unfold mandolinelaw05_awake.f
  repeat' first
      | (with_reducible exact tag_In.mono _ _ _ _ _)
      | (with_reducible exact tag_List.mono _ _)
      | (with_reducible exact tag_Parse.mono _ _)
      | (with_reducible exact tag_Right.mono _ _ _)
      | (with_reducible exact tag_Strong.mono _ _ _ _ _)
      | (with_reducible exact tag_Text.mono _ _ _)
      | (with_reducible exact tag_Texts.mono _ _ _)
      | (with_reducible exact tag_Weak.mono _ _ _ _ _)
      | (with_reducible exact LeO.refl _)
      | (with_reducible exact LeO.none _)
      | (with_reducible refine LeO.ite ?_ ?_)
      | (with_reducible refine LeO.bind ?_ (fun _ => ?_))
      | exact tag_In.mono _ _ _ _ _
      | exact tag_List.mono _ _
      | exact tag_Parse.mono _ _
      | exact tag_Right.mono _ _ _
      | exact tag_Strong.mono _ _ _ _ _
      | exact tag_Text.mono _ _ _
      | exact tag_Texts.mono _ _ _
      | exact tag_Weak.mono _ _ _ _ _
      | exact LeO.none _
      | refine LeO.ite ?_ ?_
      | refine LeO.bind ?_ (fun _ => ?_)
set_option maxHeartbeats 8000000 in
set_option maxRecDepth 100000 in
theorem mandolinelaw05_awake.calls (k : Nat)  (r : Bool) (w : World) (h : mandolinelaw05_awake.f k  = some r) :
    Calls Tryd.prog 10 #[] w fun e w' => e = .returned (.bool r) ∧ Below w.heap.size w w' := by
  have hu23 := Tryd.underlying23
  have HB := Aside0.mk (Below.refl w.heap.size w)
  have H : ((tag_List.f k (⟨#[34, 97, 44, 98, 34, 44, 44, 32, 87, 47, 34, 99, 34]⟩ : ByteArray)).bind fun bt147 => ((tag_List.f k (⟨#[32, 42, 32]⟩ : ByteArray)).bind fun bt152 => ((tag_Parse.f k (⟨#[32, 34, 97, 34, 9]⟩ : ByteArray)).bind fun bt157 => ((tag_Parse.f k (⟨#[119, 47, 34, 97, 34]⟩ : ByteArray)).bind fun bt161 => (if (bt147.1.length : Int) = 2 then (if 0 < (bt147.1.length : Int) then (if ((rd_T23 bt147.1 0).f0).toList = ([97, 44, 98] : List UInt8) then (if 1 < (bt147.1.length : Int) then (if (rd_T23 bt147.1 1).f1 = true then (if bt147.2.1 = true then (none) else (if bt147.2.2 = 0 then (if bt152.2.1 = true then (if bt152.2.2 = 0 then (if (bt157.1.toList == ([97] : List UInt8) && (!bt157.2.1)) = true then (if bt157.2.2 = 0 then (if bt161.2.2 = 2 then ((tag_Text.f k (⟨#[97]⟩ : ByteArray) true).bind fun t167 => (if t167.toList = ([87, 47, 34, 97, 34] : List UInt8) then ((tag_Texts.f k (([(⟨(⟨#[97]⟩ : ByteArray), false⟩ : S23), (⟨(⟨#[97]⟩ : ByteArray), true⟩ : S23)] : List (S23))) false).bind fun t171 => (if t171.toList = ([34, 97, 34, 44, 32, 87, 47, 34, 97, 34] : List UInt8) then ((tag_Weak.f k (⟨#[97]⟩ : ByteArray) false (⟨#[97]⟩ : ByteArray) true).bind fun t172 => (if t172 = true then ((tag_Strong.f k (⟨#[97]⟩ : ByteArray) false (⟨#[97]⟩ : ByteArray) true).bind fun t173 => (if t173 = true then (none) else ((tag_Strong.f k (⟨#[97]⟩ : ByteArray) false (⟨#[97]⟩ : ByteArray) false).bind fun t174 => (if t174 = true then ((tag_In.f k (([(⟨(⟨#[97]⟩ : ByteArray), true⟩ : S23), (⟨(⟨#[97]⟩ : ByteArray), false⟩ : S23)] : List (S23))) (⟨#[97]⟩ : ByteArray) false true).bind fun t178 => (if t178 = true then ((tag_Right.f k (⟨#[]⟩ : ByteArray) false).bind fun t179 => (if t179 = true then (none) else ((tag_Right.f k (⟨#[97]⟩ : ByteArray) false).bind fun t180 => (some t180)))) else (none))) else (none))))) else (none))) else (none))) else (none))) else (none)) else (none)) else (none)) else (none)) else (none)) else (none))) else (none)) else (none)) else (none)) else (none)) else (none)))))) = some r := h
  clear h
  replace H := Option.bind_eq_some_iff.mp H
  obtain ⟨⟨t147, t148, t149⟩, A10, H⟩ := H
  replace H : ((tag_List.f k (⟨#[32, 42, 32]⟩ : ByteArray)).bind fun bt152 => ((tag_Parse.f k (⟨#[32, 34, 97, 34, 9]⟩ : ByteArray)).bind fun bt157 => ((tag_Parse.f k (⟨#[119, 47, 34, 97, 34]⟩ : ByteArray)).bind fun bt161 => (if (t147.length : Int) = 2 then (if 0 < (t147.length : Int) then (if ((rd_T23 t147 0).f0).toList = ([97, 44, 98] : List UInt8) then (if 1 < (t147.length : Int) then (if (rd_T23 t147 1).f1 = true then (if t148 = true then (none) else (if t149 = 0 then (if bt152.2.1 = true then (if bt152.2.2 = 0 then (if (bt157.1.toList == ([97] : List UInt8) && (!bt157.2.1)) = true then (if bt157.2.2 = 0 then (if bt161.2.2 = 2 then ((tag_Text.f k (⟨#[97]⟩ : ByteArray) true).bind fun t167 => (if t167.toList = ([87, 47, 34, 97, 34] : List UInt8) then ((tag_Texts.f k (([(⟨(⟨#[97]⟩ : ByteArray), false⟩ : S23), (⟨(⟨#[97]⟩ : ByteArray), true⟩ : S23)] : List (S23))) false).bind fun t171 => (if t171.toList = ([34, 97, 34, 44, 32, 87, 47, 34, 97, 34] : List UInt8) then ((tag_Weak.f k (⟨#[97]⟩ : ByteArray) false (⟨#[97]⟩ : ByteArray) true).bind fun t172 => (if t172 = true then ((tag_Strong.f k (⟨#[97]⟩ : ByteArray) false (⟨#[97]⟩ : ByteArray) true).bind fun t173 => (if t173 = true then (none) else ((tag_Strong.f k (⟨#[97]⟩ : ByteArray) false (⟨#[97]⟩ : ByteArray) false).bind fun t174 => (if t174 = true then ((tag_In.f k (([(⟨(⟨#[97]⟩ : ByteArray), true⟩ : S23), (⟨(⟨#[97]⟩ : ByteArray), false⟩ : S23)] : List (S23))) (⟨#[97]⟩ : ByteArray) false true).bind fun t178 => (if t178 = true then ((tag_Right.f k (⟨#[]⟩ : ByteArray) false).bind fun t179 => (if t179 = true then (none) else ((tag_Right.f k (⟨#[97]⟩ : ByteArray) false).bind fun t180 => (some t180)))) else (none))) else (none))))) else (none))) else (none))) else (none))) else (none)) else (none)) else (none)) else (none)) else (none)) else (none))) else (none)) else (none)) else (none)) else (none)) else (none))))) = some r := H
  have A1 := Aside0.mk A10
  clear A10
  replace H := Option.bind_eq_some_iff.mp H
  obtain ⟨⟨t152, t153, t154⟩, A20, H⟩ := H
  replace H : ((tag_Parse.f k (⟨#[32, 34, 97, 34, 9]⟩ : ByteArray)).bind fun bt157 => ((tag_Parse.f k (⟨#[119, 47, 34, 97, 34]⟩ : ByteArray)).bind fun bt161 => (if (t147.length : Int) = 2 then (if 0 < (t147.length : Int) then (if ((rd_T23 t147 0).f0).toList = ([97, 44, 98] : List UInt8) then (if 1 < (t147.length : Int) then (if (rd_T23 t147 1).f1 = true then (if t148 = true then (none) else (if t149 = 0 then (if t153 = true then (if t154 = 0 then (if (bt157.1.toList == ([97] : List UInt8) && (!bt157.2.1)) = true then (if bt157.2.2 = 0 then (if bt161.2.2 = 2 then ((tag_Text.f k (⟨#[97]⟩ : ByteArray) true).bind fun t167 => (if t167.toList = ([87, 47, 34, 97, 34] : List UInt8) then ((tag_Texts.f k (([(⟨(⟨#[97]⟩ : ByteArray), false⟩ : S23), (⟨(⟨#[97]⟩ : ByteArray), true⟩ : S23)] : List (S23))) false).bind fun t171 => (if t171.toList = ([34, 97, 34, 44, 32, 87, 47, 34, 97, 34] : List UInt8) then ((tag_Weak.f k (⟨#[97]⟩ : ByteArray) false (⟨#[97]⟩ : ByteArray) true).bind fun t172 => (if t172 = true then ((tag_Strong.f k (⟨#[97]⟩ : ByteArray) false (⟨#[97]⟩ : ByteArray) true).bind fun t173 => (if t173 = true then (none) else ((tag_Strong.f k (⟨#[97]⟩ : ByteArray) false (⟨#[97]⟩ : ByteArray) false).bind fun t174 => (if t174 = true then ((tag_In.f k (([(⟨(⟨#[97]⟩ : ByteArray), true⟩ : S23), (⟨(⟨#[97]⟩ : ByteArray), false⟩ : S23)] : List (S23))) (⟨#[97]⟩ : ByteArray) false true).bind fun t178 => (if t178 = true then ((tag_Right.f k (⟨#[]⟩ : ByteArray) false).bind fun t179 => (if t179 = true then (none) else ((tag_Right.f k (⟨#[97]⟩ : ByteArray) false).bind fun t180 => (some t180)))) else (none))) else (none))))) else (none))) else (none))) else (none))) else (none)) else (none)) else (none)) else (none)) else (none)) else (none))) else (none)) else (none)) else (none)) else (none)) else (none)))) = some r := H
  have A2 := Aside0.mk A20
  clear A20
  replace H := Option.bind_eq_some_iff.mp H
  obtain ⟨⟨t157, t158, t159⟩, A30, H⟩ := H
  replace H : ((tag_Parse.f k (⟨#[119, 47, 34, 97, 34]⟩ : ByteArray)).bind fun bt161 => (if (t147.length : Int) = 2 then (if 0 < (t147.length : Int) then (if ((rd_T23 t147 0).f0).toList = ([97, 44, 98] : List UInt8) then (if 1 < (t147.length : Int) then (if (rd_T23 t147 1).f1 = true then (if t148 = true then (none) else (if t149 = 0 then (if t153 = true then (if t154 = 0 then (if (t157.toList == ([97] : List UInt8) && (!t158)) = true then (if t159 = 0 then (if bt161.2.2 = 2 then ((tag_Text.f k (⟨#[97]⟩ : ByteArray) true).bind fun t167 => (if t167.toList = ([87, 47, 34, 97, 34] : List UInt8) then ((tag_Texts.f k (([(⟨(⟨#[97]⟩ : ByteArray), false⟩ : S23), (⟨(⟨#[97]⟩ : ByteArray), true⟩ : S23)] : List (S23))) false).bind fun t171 => (if t171.toList = ([34, 97, 34, 44, 32, 87, 47, 34, 97, 34] : List UInt8) then ((tag_Weak.f k (⟨#[97]⟩ : ByteArray) false (⟨#[97]⟩ : ByteArray) true).bind fun t172 => (if t172 = true then ((tag_Strong.f k (⟨#[97]⟩ : ByteArray) false (⟨#[97]⟩ : ByteArray) true).bind fun t173 => (if t173 = true then (none) else ((tag_Strong.f k (⟨#[97]⟩ : ByteArray) false (⟨#[97]⟩ : ByteArray) false).bind fun t174 => (if t174 = true then ((tag_In.f k (([(⟨(⟨#[97]⟩ : ByteArray), true⟩ : S23), (⟨(⟨#[97]⟩ : ByteArray), false⟩ : S23)] : List (S23))) (⟨#[97]⟩ : ByteArray) false true).bind fun t178 => (if t178 = true then ((tag_Right.f k (⟨#[]⟩ : ByteArray) false).bind fun t179 => (if t179 = true then (none) else ((tag_Right.f k (⟨#[97]⟩ : ByteArray) false).bind fun t180 => (some t180)))) else (none))) else (none))))) else (none))) else (none))) else (none))) else (none)) else (none)) else (none)) else (none)) else (none)) else (none))) else (none)) else (none)) else (none)) else (none)) else (none))) = some r := H
  have A3 := Aside0.mk A30
  clear A30
  replace H := Option.bind_eq_some_iff.mp H
  obtain ⟨⟨t161, t162, t163⟩, A40, H⟩ := H
  replace H : (if (t147.length : Int) = 2 then (if 0 < (t147.length : Int) then (if ((rd_T23 t147 0).f0).toList = ([97, 44, 98] : List UInt8) then (if 1 < (t147.length : Int) then (if (rd_T23 t147 1).f1 = true then (if t148 = true then (none) else (if t149 = 0 then (if t153 = true then (if t154 = 0 then (if (t157.toList == ([97] : List UInt8) && (!t158)) = true then (if t159 = 0 then (if t163 = 2 then ((tag_Text.f k (⟨#[97]⟩ : ByteArray) true).bind fun t167 => (if t167.toList = ([87, 47, 34, 97, 34] : List UInt8) then ((tag_Texts.f k (([(⟨(⟨#[97]⟩ : ByteArray), false⟩ : S23), (⟨(⟨#[97]⟩ : ByteArray), true⟩ : S23)] : List (S23))) false).bind fun t171 => (if t171.toList = ([34, 97, 34, 44, 32, 87, 47, 34, 97, 34] : List UInt8) then ((tag_Weak.f k (⟨#[97]⟩ : ByteArray) false (⟨#[97]⟩ : ByteArray) true).bind fun t172 => (if t172 = true then ((tag_Strong.f k (⟨#[97]⟩ : ByteArray) false (⟨#[97]⟩ : ByteArray) true).bind fun t173 => (if t173 = true then (none) else ((tag_Strong.f k (⟨#[97]⟩ : ByteArray) false (⟨#[97]⟩ : ByteArray) false).bind fun t174 => (if t174 = true then ((tag_In.f k (([(⟨(⟨#[97]⟩ : ByteArray), true⟩ : S23), (⟨(⟨#[97]⟩ : ByteArray), false⟩ : S23)] : List (S23))) (⟨#[97]⟩ : ByteArray) false true).bind fun t178 => (if t178 = true then ((tag_Right.f k (⟨#[]⟩ : ByteArray) false).bind fun t179 => (if t179 = true then (none) else ((tag_Right.f k (⟨#[97]⟩ : ByteArray) false).bind fun t180 => (some t180)))) else (none))) else (none))))) else (none))) else (none))) else (none))) else (none)) else (none)) else (none)) else (none)) else (none)) else (none))) else (none)) else (none)) else (none)) else (none)) else (none)) = some r := H
  have A4 := Aside0.mk A40
  clear A40
  by_cases c5 : (t147.length : Int) = 2
  · rw [if_pos c5] at H
    have c5b0 : ((t147.length : Int) == 2) = true := beq_iff_eq.mpr c5
    have c5b1 : ((t147.length : Int) != 2) = false := bne_eq_false_iff_eq.mpr c5
    clear c5
    by_cases c6 : 0 < (t147.length : Int)
    · rw [if_pos c6] at H
      have c6b0 : decide (0 < (t147.length : Int)) = true := decide_eq_true c6
      have c6b1 : decide (0 < t147.length) = true := decide_eq_true (by omega)
      clear c6
      by_cases c7 : ((rd_T23 t147 0).f0).toList = ([97, 44, 98] : List UInt8)
      · rw [if_pos c7] at H
        have c7b0 : (((rd_T23 t147 0).f0).toList == ([97, 44, 98] : List UInt8)) = true := beq_iff_eq.mpr c7
        have c7b1 : (((rd_T23 t147 0).f0).toList != ([97, 44, 98] : List UInt8)) = false := bne_eq_false_iff_eq.mpr c7
        clear c7
        by_cases c8 : 1 < (t147.length : Int)
        · rw [if_pos c8] at H
          have c8b0 : decide (1 < (t147.length : Int)) = true := decide_eq_true c8
          have c8b1 : decide (1 < t147.length) = true := decide_eq_true (by omega)
          clear c8
          obtain ⟨bq9, hbq9⟩ : ∃ b_ : Bool, b_ = ((rd_T23 t147 1).f1) := ⟨_, rfl⟩
          replace H : (if bq9 = true then (if t148 = true then (none) else (if t149 = 0 then (if t153 = true then (if t154 = 0 then (if (t157.toList == ([97] : List UInt8) && (!t158)) = true then (if t159 = 0 then (if t163 = 2 then ((tag_Text.f k (⟨#[97]⟩ : ByteArray) true).bind fun t167 => (if t167.toList = ([87, 47, 34, 97, 34] : List UInt8) then ((tag_Texts.f k (([(⟨(⟨#[97]⟩ : ByteArray), false⟩ : S23), (⟨(⟨#[97]⟩ : ByteArray), true⟩ : S23)] : List (S23))) false).bind fun t171 => (if t171.toList = ([34, 97, 34, 44, 32, 87, 47, 34, 97, 34] : List UInt8) then ((tag_Weak.f k (⟨#[97]⟩ : ByteArray) false (⟨#[97]⟩ : ByteArray) true).bind fun t172 => (if t172 = true then ((tag_Strong.f k (⟨#[97]⟩ : ByteArray) false (⟨#[97]⟩ : ByteArray) true).bind fun t173 => (if t173 = true then (none) else ((tag_Strong.f k (⟨#[97]⟩ : ByteArray) false (⟨#[97]⟩ : ByteArray) false).bind fun t174 => (if t174 = true then ((tag_In.f k (([(⟨(⟨#[97]⟩ : ByteArray), true⟩ : S23), (⟨(⟨#[97]⟩ : ByteArray), false⟩ : S23)] : List (S23))) (⟨#[97]⟩ : ByteArray) false true).bind fun t178 => (if t178 = true then ((tag_Right.f k (⟨#[]⟩ : ByteArray) false).bind fun t179 => (if t179 = true then (none) else ((tag_Right.f k (⟨#[97]⟩ : ByteArray) false).bind fun t180 => (some t180)))) else (none))) else (none))))) else (none))) else (none))) else (none))) else (none)) else (none)) else (none)) else (none)) else (none)) else (none))) else (none)) = some r := by rw [← hbq9] at H; exact H
          have Nbq9 := Aside0.mk hbq9
          clear hbq9
          by_cases c10 : bq9 = true
          · subst c10
            have H1 : (if t148 = true then (none) else (if t149 = 0 then (if t153 = true then (if t154 = 0 then (if (t157.toList == ([97] : List UInt8) && (!t158)) = true then (if t159 = 0 then (if t163 = 2 then ((tag_Text.f k (⟨#[97]⟩ : ByteArray) true).bind fun t167 => (if t167.toList = ([87, 47, 34, 97, 34] : List UInt8) then ((tag_Texts.f k (([(⟨(⟨#[97]⟩ : ByteArray), false⟩ : S23), (⟨(⟨#[97]⟩ : ByteArray), true⟩ : S23)] : List (S23))) false).bind fun t171 => (if t171.toList = ([34, 97, 34, 44, 32, 87, 47, 34, 97, 34] : List UInt8) then ((tag_Weak.f k (⟨#[97]⟩ : ByteArray) false (⟨#[97]⟩ : ByteArray) true).bind fun t172 => (if t172 = true then ((tag_Strong.f k (⟨#[97]⟩ : ByteArray) false (⟨#[97]⟩ : ByteArray) true).bind fun t173 => (if t173 = true then (none) else ((tag_Strong.f k (⟨#[97]⟩ : ByteArray) false (⟨#[97]⟩ : ByteArray) false).bind fun t174 => (if t174 = true then ((tag_In.f k (([(⟨(⟨#[97]⟩ : ByteArray), true⟩ : S23), (⟨(⟨#[97]⟩ : ByteArray), false⟩ : S23)] : List (S23))) (⟨#[97]⟩ : ByteArray) false true).bind fun t178 => (if t178 = true then ((tag_Right.f k (⟨#[]⟩ : ByteArray) false).bind fun t179 => (if t179 = true then (none) else ((tag_Right.f k (⟨#[97]⟩ : ByteArray) false).bind fun t180 => (some t180)))) else (none))) else (none))))) else (none))) else (none))) else (none))) else (none)) else (none)) else (none)) else (none)) else (none)) else (none))) = some r := by rw [if_pos rfl] at H; exact H
            clear H
            have H := H1
            clear H1
            by_cases c11 : t148 = true
            · subst c11
              have H1 : (none) = some r := by rw [if_pos rfl] at H; exact H
              clear H
              have H := H1
              clear H1
              exact absurd H (by simp)
            · replace c11 := Bool.eq_false_iff.mpr c11
              subst c11
              have H1 : (if t149 = 0 then (if t153 = true then (if t154 = 0 then (if (t157.toList == ([97] : List UInt8) && (!t158)) = true then (if t159 = 0 then (if t163 = 2 then ((tag_Text.f k (⟨#[97]⟩ : ByteArray) true).bind fun t167 => (if t167.toList = ([87, 47, 34, 97, 34] : List UInt8) then ((tag_Texts.f k (([(⟨(⟨#[97]⟩ : ByteArray), false⟩ : S23), (⟨(⟨#[97]⟩ : ByteArray), true⟩ : S23)] : List (S23))) false).bind fun t171 => (if t171.toList = ([34, 97, 34, 44, 32, 87, 47, 34, 97, 34] : List UInt8) then ((tag_Weak.f k (⟨#[97]⟩ : ByteArray) false (⟨#[97]⟩ : ByteArray) true).bind fun t172 => (if t172 = true then ((tag_Strong.f k (⟨#[97]⟩ : ByteArray) false (⟨#[97]⟩ : ByteArray) true).bind fun t173 => (if t173 = true then (none) else ((tag_Strong.f k (⟨#[97]⟩ : ByteArray) false (⟨#[97]⟩ : ByteArray) false).bind fun t174 => (if t174 = true then ((tag_In.f k (([(⟨(⟨#[97]⟩ : ByteArray), true⟩ : S23), (⟨(⟨#[97]⟩ : ByteArray), false⟩ : S23)] : List (S23))) (⟨#[97]⟩ : ByteArray) false true).bind fun t178 => (if t178 = true then ((tag_Right.f k (⟨#[]⟩ : ByteArray) false).bind fun t179 => (if t179 = true then (none) else ((tag_Right.f k (⟨#[97]⟩ : ByteArray) false).bind fun t180 => (some t180)))) else (none))) else (none))))) else (none))) else (none))) else (none))) else (none)) else (none)) else (none)) else (none)) else (none)) else (none)) = some r := by rw [if_neg (show ¬ (false = true) by decide)] at H; exact H
              clear H
              have H := H1
              clear H1
              by_cases c12 : t149 = 0
              · rw [if_pos c12] at H
                have c12b0 : (t149 == 0) = true := beq_iff_eq.mpr c12
                have c12b1 : (t149 != 0) = false := bne_eq_false_iff_eq.mpr c12
                clear c12
                by_cases c13 : t153 = true
                · subst c13
                  have H1 : (if t154 = 0 then (if (t157.toList == ([97] : List UInt8) && (!t158)) = true then (if t159 = 0 then (if t163 = 2 then ((tag_Text.f k (⟨#[97]⟩ : ByteArray) true).bind fun t167 => (if t167.toList = ([87, 47, 34, 97, 34] : List UInt8) then ((tag_Texts.f k (([(⟨(⟨#[97]⟩ : ByteArray), false⟩ : S23), (⟨(⟨#[97]⟩ : ByteArray), true⟩ : S23)] : List (S23))) false).bind fun t171 => (if t171.toList = ([34, 97, 34, 44, 32, 87, 47, 34, 97, 34] : List UInt8) then ((tag_Weak.f k (⟨#[97]⟩ : ByteArray) false (⟨#[97]⟩ : ByteArray) true).bind fun t172 => (if t172 = true then ((tag_Strong.f k (⟨#[97]⟩ : ByteArray) false (⟨#[97]⟩ : ByteArray) true).bind fun t173 => (if t173 = true then (none) else ((tag_Strong.f k (⟨#[97]⟩ : ByteArray) false (⟨#[97]⟩ : ByteArray) false).bind fun t174 => (if t174 = true then ((tag_In.f k (([(⟨(⟨#[97]⟩ : ByteArray), true⟩ : S23), (⟨(⟨#[97]⟩ : ByteArray), false⟩ : S23)] : List (S23))) (⟨#[97]⟩ : ByteArray) false true).bind fun t178 => (if t178 = true then ((tag_Right.f k (⟨#[]⟩ : ByteArray) false).bind fun t179 => (if t179 = true then (none) else ((tag_Right.f k (⟨#[97]⟩ : ByteArray) false).bind fun t180 => (some t180)))) else (none))) else (none))))) else (none))) else (none))) else (none))) else (none)) else (none)) else (none)) else (none)) = some r := by rw [if_pos rfl] at H; exact H
                  clear H
                  have H := H1
                  clear H1
                  by_cases c14 : t154 = 0
                  · rw [if_pos c14] at H
                    have c14b0 : (t154 == 0) = true := beq_iff_eq.mpr c14
                    have c14b1 : (t154 != 0) = false := bne_eq_false_iff_eq.mpr c14
                    clear c14
                    by_cases c15 : (t157.toList == ([97] : List UInt8) && (!t158)) = true
                    · rw [if_pos c15] at H
                      have c15b0 : (t157.toList == ([97] : List UInt8) && (!t158)) = true := c15
                      (try (have c15b1 : decide (t157.toList = ([97] : List UInt8) && (!t158)) = true := by simpa using c15))
                      (try (have c15b2 : (t157.toList == ([97] : List UInt8) && (!t158)) = true := by simpa using c15))
                      clear c15
                      by_cases c16 : t159 = 0
                      · rw [if_pos c16] at H
                        have c16b0 : (t159 == 0) = true := beq_iff_eq.mpr c16
                        have c16b1 : (t159 != 0) = false := bne_eq_false_iff_eq.mpr c16
                        clear c16
                        by_cases c17 : t163 = 2
                        · rw [if_pos c17] at H
                          have c17b0 : (t163 == 2) = true := beq_iff_eq.mpr c17
                          have c17b1 : (t163 != 2) = false := bne_eq_false_iff_eq.mpr c17
                          clear c17
                          replace H := Option.bind_eq_some_iff.mp H
                          obtain ⟨t167, A180, H⟩ := H
                          replace H : (if t167.toList = ([87, 47, 34, 97, 34] : List UInt8) then ((tag_Texts.f k (([(⟨(⟨#[97]⟩ : ByteArray), false⟩ : S23), (⟨(⟨#[97]⟩ : ByteArray), true⟩ : S23)] : List (S23))) false).bind fun t171 => (if t171.toList = ([34, 97, 34, 44, 32, 87, 47, 34, 97, 34] : List UInt8) then ((tag_Weak.f k (⟨#[97]⟩ : ByteArray) false (⟨#[97]⟩ : ByteArray) true).bind fun t172 => (if t172 = true then ((tag_Strong.f k (⟨#[97]⟩ : ByteArray) false (⟨#[97]⟩ : ByteArray) true).bind fun t173 => (if t173 = true then (none) else ((tag_Strong.f k (⟨#[97]⟩ : ByteArray) false (⟨#[97]⟩ : ByteArray) false).bind fun t174 => (if t174 = true then ((tag_In.f k (([(⟨(⟨#[97]⟩ : ByteArray), true⟩ : S23), (⟨(⟨#[97]⟩ : ByteArray), false⟩ : S23)] : List (S23))) (⟨#[97]⟩ : ByteArray) false true).bind fun t178 => (if t178 = true then ((tag_Right.f k (⟨#[]⟩ : ByteArray) false).bind fun t179 => (if t179 = true then (none) else ((tag_Right.f k (⟨#[97]⟩ : ByteArray) false).bind fun t180 => (some t180)))) else (none))) else (none))))) else (none))) else (none))) else (none)) = some r := H
                          have A18 := Aside0.mk A180
                          clear A180
                          by_cases c19 : t167.toList = ([87, 47, 34, 97, 34] : List UInt8)
                          · rw [if_pos c19] at H
                            have c19b0 : (t167.toList == ([87, 47, 34, 97, 34] : List UInt8)) = true := beq_iff_eq.mpr c19
                            have c19b1 : (t167.toList != ([87, 47, 34, 97, 34] : List UInt8)) = false := bne_eq_false_iff_eq.mpr c19
                            clear c19
                            obtain ⟨y168, hy168⟩ : ∃ y_ : List (S23), y_ = (([(⟨(⟨#[97]⟩ : ByteArray), false⟩ : S23), (⟨(⟨#[97]⟩ : ByteArray), true⟩ : S23)] : List (S23))) := ⟨_, rfl⟩
                            replace H : ((tag_Texts.f k y168 false).bind fun t171 => (if t171.toList = ([34, 97, 34, 44, 32, 87, 47, 34, 97, 34] : List UInt8) then ((tag_Weak.f k (⟨#[97]⟩ : ByteArray) false (⟨#[97]⟩ : ByteArray) true).bind fun t172 => (if t172 = true then ((tag_Strong.f k (⟨#[97]⟩ : ByteArray) false (⟨#[97]⟩ : ByteArray) true).bind fun t173 => (if t173 = true then (none) else ((tag_Strong.f k (⟨#[97]⟩ : ByteArray) false (⟨#[97]⟩ : ByteArray) false).bind fun t174 => (if t174 = true then ((tag_In.f k (([(⟨(⟨#[97]⟩ : ByteArray), true⟩ : S23), (⟨(⟨#[97]⟩ : ByteArray), false⟩ : S23)] : List (S23))) (⟨#[97]⟩ : ByteArray) false true).bind fun t178 => (if t178 = true then ((tag_Right.f k (⟨#[]⟩ : ByteArray) false).bind fun t179 => (if t179 = true then (none) else ((tag_Right.f k (⟨#[97]⟩ : ByteArray) false).bind fun t180 => (some t180)))) else (none))) else (none))))) else (none))) else (none))) = some r := by first | (rw [hy168]; with_reducible exact H) | (have H2_ := (Option.bind_some _ _).symm.trans H; rw [hy168]; with_reducible exact H2_) | (have H2_ := (Option.bind_some _ _).symm.trans H; with_reducible exact H2_) | with_reducible exact H | (rw [hy168]; exact H) | exact H
                            have Ny168 := Aside0.mk hy168
                            clear hy168
                            replace H := Option.bind_eq_some_iff.mp H
                            obtain ⟨t171, A200, H⟩ := H
                            replace H : (if t171.toList = ([34, 97, 34, 44, 32, 87, 47, 34, 97, 34] : List UInt8) then ((tag_Weak.f k (⟨#[97]⟩ : ByteArray) false (⟨#[97]⟩ : ByteArray) true).bind fun t172 => (if t172 = true then ((tag_Strong.f k (⟨#[97]⟩ : ByteArray) false (⟨#[97]⟩ : ByteArray) true).bind fun t173 => (if t173 = true then (none) else ((tag_Strong.f k (⟨#[97]⟩ : ByteArray) false (⟨#[97]⟩ : ByteArray) false).bind fun t174 => (if t174 = true then ((tag_In.f k (([(⟨(⟨#[97]⟩ : ByteArray), true⟩ : S23), (⟨(⟨#[97]⟩ : ByteArray), false⟩ : S23)] : List (S23))) (⟨#[97]⟩ : ByteArray) false true).bind fun t178 => (if t178 = true then ((tag_Right.f k (⟨#[]⟩ : ByteArray) false).bind fun t179 => (if t179 = true then (none) else ((tag_Right.f k (⟨#[97]⟩ : ByteArray) false).bind fun t180 => (some t180)))) else (none))) else (none))))) else (none))) else (none)) = some r := H
                            have A20 := Aside0.mk A200
                            clear A200
                            by_cases c21 : t171.toList = ([34, 97, 34, 44, 32, 87, 47, 34, 97, 34] : List UInt8)
                            · rw [if_pos c21] at H
                              have c21b0 : (t171.toList == ([34, 97, 34, 44, 32, 87, 47, 34, 97, 34] : List UInt8)) = true := beq_iff_eq.mpr c21
                              have c21b1 : (t171.toList != ([34, 97, 34, 44, 32, 87, 47, 34, 97, 34] : List UInt8)) = false := bne_eq_false_iff_eq.mpr c21
                              clear c21
                              replace H := Option.bind_eq_some_iff.mp H
                              obtain ⟨t172, A220, H⟩ := H
                              replace H : (if t172 = true then ((tag_Strong.f k (⟨#[97]⟩ : ByteArray) false (⟨#[97]⟩ : ByteArray) true).bind fun t173 => (if t173 = true then (none) else ((tag_Strong.f k (⟨#[97]⟩ : ByteArray) false (⟨#[97]⟩ : ByteArray) false).bind fun t174 => (if t174 = true then ((tag_In.f k (([(⟨(⟨#[97]⟩ : ByteArray), true⟩ : S23), (⟨(⟨#[97]⟩ : ByteArray), false⟩ : S23)] : List (S23))) (⟨#[97]⟩ : ByteArray) false true).bind fun t178 => (if t178 = true then ((tag_Right.f k (⟨#[]⟩ : ByteArray) false).bind fun t179 => (if t179 = true then (none) else ((tag_Right.f k (⟨#[97]⟩ : ByteArray) false).bind fun t180 => (some t180)))) else (none))) else (none))))) else (none)) = some r := H
                              have A22 := Aside0.mk A220
                              clear A220
                              by_cases c23 : t172 = true
                              · subst c23
                                have H1 : ((tag_Strong.f k (⟨#[97]⟩ : ByteArray) false (⟨#[97]⟩ : ByteArray) true).bind fun t173 => (if t173 = true then (none) else ((tag_Strong.f k (⟨#[97]⟩ : ByteArray) false (⟨#[97]⟩ : ByteArray) false).bind fun t174 => (if t174 = true then ((tag_In.f k (([(⟨(⟨#[97]⟩ : ByteArray), true⟩ : S23), (⟨(⟨#[97]⟩ : ByteArray), false⟩ : S23)] : List (S23))) (⟨#[97]⟩ : ByteArray) false true).bind fun t178 => (if t178 = true then ((tag_Right.f k (⟨#[]⟩ : ByteArray) false).bind fun t179 => (if t179 = true then (none) else ((tag_Right.f k (⟨#[97]⟩ : ByteArray) false).bind fun t180 => (some t180)))) else (none))) else (none))))) = some r := by rw [if_pos rfl] at H; exact H
                                clear H
                                have H := H1
                                clear H1
                                replace H := Option.bind_eq_some_iff.mp H
                                obtain ⟨t173, A240, H⟩ := H
                                replace H : (if t173 = true then (none) else ((tag_Strong.f k (⟨#[97]⟩ : ByteArray) false (⟨#[97]⟩ : ByteArray) false).bind fun t174 => (if t174 = true then ((tag_In.f k (([(⟨(⟨#[97]⟩ : ByteArray), true⟩ : S23), (⟨(⟨#[97]⟩ : ByteArray), false⟩ : S23)] : List (S23))) (⟨#[97]⟩ : ByteArray) false true).bind fun t178 => (if t178 = true then ((tag_Right.f k (⟨#[]⟩ : ByteArray) false).bind fun t179 => (if t179 = true then (none) else ((tag_Right.f k (⟨#[97]⟩ : ByteArray) false).bind fun t180 => (some t180)))) else (none))) else (none)))) = some r := H
                                have A24 := Aside0.mk A240
                                clear A240
                                by_cases c25 : t173 = true
                                · subst c25
                                  have H1 : (none) = some r := by rw [if_pos rfl] at H; exact H
                                  clear H
                                  have H := H1
                                  clear H1
                                  exact absurd H (by simp)
                                · replace c25 := Bool.eq_false_iff.mpr c25
                                  subst c25
                                  have H1 : ((tag_Strong.f k (⟨#[97]⟩ : ByteArray) false (⟨#[97]⟩ : ByteArray) false).bind fun t174 => (if t174 = true then ((tag_In.f k (([(⟨(⟨#[97]⟩ : ByteArray), true⟩ : S23), (⟨(⟨#[97]⟩ : ByteArray), false⟩ : S23)] : List (S23))) (⟨#[97]⟩ : ByteArray) false true).bind fun t178 => (if t178 = true then ((tag_Right.f k (⟨#[]⟩ : ByteArray) false).bind fun t179 => (if t179 = true then (none) else ((tag_Right.f k (⟨#[97]⟩ : ByteArray) false).bind fun t180 => (some t180)))) else (none))) else (none))) = some r := by rw [if_neg (show ¬ (false = true) by decide)] at H; exact H
                                  clear H
                                  have H := H1
                                  clear H1
                                  replace H := Option.bind_eq_some_iff.mp H
                                  obtain ⟨t174, A260, H⟩ := H
                                  replace H : (if t174 = true then ((tag_In.f k (([(⟨(⟨#[97]⟩ : ByteArray), true⟩ : S23), (⟨(⟨#[97]⟩ : ByteArray), false⟩ : S23)] : List (S23))) (⟨#[97]⟩ : ByteArray) false true).bind fun t178 => (if t178 = true then ((tag_Right.f k (⟨#[]⟩ : ByteArray) false).bind fun t179 => (if t179 = true then (none) else ((tag_Right.f k (⟨#[97]⟩ : ByteArray) false).bind fun t180 => (some t180)))) else (none))) else (none)) = some r := H
                                  have A26 := Aside0.mk A260
                                  clear A260
                                  by_cases c27 : t174 = true
                                  · subst c27
                                    have H1 : ((tag_In.f k (([(⟨(⟨#[97]⟩ : ByteArray), true⟩ : S23), (⟨(⟨#[97]⟩ : ByteArray), false⟩ : S23)] : List (S23))) (⟨#[97]⟩ : ByteArray) false true).bind fun t178 => (if t178 = true then ((tag_Right.f k (⟨#[]⟩ : ByteArray) false).bind fun t179 => (if t179 = true then (none) else ((tag_Right.f k (⟨#[97]⟩ : ByteArray) false).bind fun t180 => (some t180)))) else (none))) = some r := by rw [if_pos rfl] at H; exact H
                                    clear H
                                    have H := H1
                                    clear H1
                                    obtain ⟨y175, hy175⟩ : ∃ y_ : List (S23), y_ = (([(⟨(⟨#[97]⟩ : ByteArray), true⟩ : S23), (⟨(⟨#[97]⟩ : ByteArray), false⟩ : S23)] : List (S23))) := ⟨_, rfl⟩
                                    replace H : ((tag_In.f k y175 (⟨#[97]⟩ : ByteArray) false true).bind fun t178 => (if t178 = true then ((tag_Right.f k (⟨#[]⟩ : ByteArray) false).bind fun t179 => (if t179 = true then (none) else ((tag_Right.f k (⟨#[97]⟩ : ByteArray) false).bind fun t180 => (some t180)))) else (none))) = some r := by first | (rw [hy175]; with_reducible exact H) | (have H2_ := (Option.bind_some _ _).symm.trans H; rw [hy175]; with_reducible exact H2_) | (have H2_ := (Option.bind_some _ _).symm.trans H; with_reducible exact H2_) | with_reducible exact H | (rw [hy175]; exact H) | exact H
                                    have Ny175 := Aside0.mk hy175
                                    clear hy175
                                    replace H := Option.bind_eq_some_iff.mp H
                                    obtain ⟨t178, A280, H⟩ := H
                                    replace H : (if t178 = true then ((tag_Right.f k (⟨#[]⟩ : ByteArray) false).bind fun t179 => (if t179 = true then (none) else ((tag_Right.f k (⟨#[97]⟩ : ByteArray) false).bind fun t180 => (some t180)))) else (none)) = some r := H
                                    have A28 := Aside0.mk A280
                                    clear A280
                                    by_cases c29 : t178 = true
                                    · subst c29
                                      have H1 : ((tag_Right.f k (⟨#[]⟩ : ByteArray) false).bind fun t179 => (if t179 = true then (none) else ((tag_Right.f k (⟨#[97]⟩ : ByteArray) false).bind fun t180 => (some t180)))) = some r := by rw [if_pos rfl] at H; exact H
                                      clear H
                                      have H := H1
                                      clear H1
                                      replace H := Option.bind_eq_some_iff.mp H
                                      obtain ⟨t179, A300, H⟩ := H
                                      replace H : (if t179 = true then (none) else ((tag_Right.f k (⟨#[97]⟩ : ByteArray) false).bind fun t180 => (some t180))) = some r := H
                                      have A30 := Aside0.mk A300
                                      clear A300
                                      by_cases c31 : t179 = true
                                      · subst c31
                                        have H1 : (none) = some r := by rw [if_pos rfl] at H; exact H
                                        clear H
                                        have H := H1
                                        clear H1
                                        exact absurd H (by simp)
                                      · replace c31 := Bool.eq_false_iff.mpr c31
                                        subst c31
                                        have H1 : ((tag_Right.f k (⟨#[97]⟩ : ByteArray) false).bind fun t180 => (some t180)) = some r := by rw [if_neg (show ¬ (false = true) by decide)] at H; exact H
                                        clear H
                                        have H := H1
                                        clear H1
                                        replace H := Option.bind_eq_some_iff.mp H
                                        obtain ⟨t180, A320, H⟩ := H
                                        replace H : (some t180) = some r := H
                                        have A32 := Aside0.mk A320
                                        clear A320
                                        obtain rfl := Option.some.inj H
                                        go_enter Tryd.func10, Tryd.ntmps10
                                        go_wp2_with (first | ((with_reducible refine gate_dst (N := 1) rfl ?_); (try (refine gate_guard (by rfl) ?_; dsimp only)); refine box_event ?hg (N := 1) ?hd (cs := #[.string (⟨#[]⟩ : ByteArray), .bool false]) (t := 23) ?hr ?_; (case hd => rfl); (case hg => rfl); (case hr => first | (go_simp; done) | (go_simp; rfl)); intro gb145 hg w33 hbox hb; have n0_ := Aside0.mk (below_step (by repeat (first | (with_reducible first | exact HB.out | apply below_alloc | apply pw_below_drewN | apply below_drew1) | exact HB.out)) hb); have n1_ := Aside0.mk (hbox); have n2_ := Aside0.mk ((by rw [hg]; exact (below_size (by repeat (first | (with_reducible first | exact HB.out | apply below_alloc | apply pw_below_drewN | apply below_drew1) | exact HB.out))) : w.heap.size ≤ gb145)); have n3_ := Aside0.mk ((by rw [hg]; exact (below_size (by repeat (first | (with_reducible first | exact HB.out | apply below_alloc | apply pw_below_drewN | apply below_drew1) | exact HB.out))) : w.heap.size ≤ gb145)); clear HB; have HB := n0_; have BK145 := n1_; have GW145 := n2_; have GE145 := n3_; clear n0_ n1_ n2_ n3_; clear hb hbox hg) | ((with_reducible refine gate_dst (N := 2) rfl ?_); (try (refine gate_guard (by rfl) ?_; dsimp only)); refine box_event ?hg (N := 2) ?hd (cs := #[.string (⟨#[]⟩ : ByteArray), .bool false]) (t := 23) ?hr ?_; (case hd => rfl); (case hg => rfl); (case hr => first | (go_simp; done) | (go_simp; rfl)); intro gb146 hg w34 hbox hb; have n0_ := Aside0.mk (blk_below (g := gb145) (o := .cells #[.string (⟨#[]⟩ : ByteArray), .bool false] 23 (0, 0)) (by (with_reducible repeat (first | refine blk_drewN ?_ _ | refine blk_drew ?_ | refine blk_alloc ?_ _)); exact BK145.out) hb); have n1_ := Aside0.mk (below_step (by repeat (first | (with_reducible first | exact HB.out | apply below_alloc | apply pw_below_drewN | apply below_drew1 | refine below_set ?_ GE145.out) | exact HB.out)) hb); have n2_ := Aside0.mk (hbox); have n3_ := Aside0.mk ((by rw [hg]; exact (below_size (by repeat (first | (with_reducible first | exact HB.out | apply below_alloc | apply pw_below_drewN | apply below_drew1 | refine below_set ?_ GE145.out) | exact HB.out))) : w.heap.size ≤ gb146)); have n4_ := Aside0.mk ((by rw [hg]; exact (below_size (by repeat (first | (with_reducible first | exact HB.out | apply below_alloc | apply pw_below_drewN | apply below_drew1 | refine below_set ?_ GE145.out) | exact HB.out))) : w.heap.size ≤ gb146)); have n5_ := Aside0.mk ((by rw [hg]; exact Nat.ne_of_lt (blk_lt (g := gb145) (o := .cells #[.string (⟨#[]⟩ : ByteArray), .bool false] 23 (0, 0)) (by (with_reducible repeat (first | refine blk_drewN ?_ _ | refine blk_drew ?_ | refine blk_alloc ?_ _)); exact BK145.out)) : gb145 ≠ gb146)); have n6_ := Aside0.mk ((by rw [hg]; exact Nat.ne_of_gt (blk_lt (g := gb145) (o := .cells #[.string (⟨#[]⟩ : ByteArray), .bool false] 23 (0, 0)) (by (with_reducible repeat (first | refine blk_drewN ?_ _ | refine blk_drew ?_ | refine blk_alloc ?_ _)); exact BK145.out)) : gb146 ≠ gb145)); clear BK145; clear HB; have BK145 := n0_; have HB := n1_; have BK146 := n2_; have GW146 := n3_; have GE146 := n4_; have NB145_146 := n5_; have NB146_145 := n6_; clear n0_ n1_ n2_ n3_ n4_ n5_ n6_; clear hb hbox hg; have hnb35 := NB145_146.out; have hnc35 := NB146_145.out; have hcz36_0 : w34.cell? ⟨gb145, 0, none⟩ = some (.string (⟨#[]⟩ : ByteArray)) := (blk_cell BK145.out 0).trans rfl; have hcz36_1 : w34.cell? ⟨gb145, 1, none⟩ = some (.bool false) := (blk_cell BK145.out 1).trans rfl; have hfz36_0 := blk_frozen BK145.out 0; have hfz36_1 := blk_frozen BK145.out 1; have hcz37_0 : w34.cell? ⟨gb146, 0, none⟩ = some (.string (⟨#[]⟩ : ByteArray)) := (blk_cell BK146.out 0).trans rfl; have hcz37_1 : w34.cell? ⟨gb146, 1, none⟩ = some (.bool false) := (blk_cell BK146.out 1).trans rfl; have hfz37_0 := blk_frozen BK146.out 0; have hfz37_1 := blk_frozen BK146.out 1) | ((with_reducible refine gate_callee (f := 20) rfl ?_); refine goesL_ (some 16) rfl rfl Tryd.func20 (by kernel_rfl) rfl #[.string (⟨#[34, 97, 44, 98, 34, 44, 44, 32, 87, 47, 34, 99, 34]⟩ : ByteArray)] rfl (by (try simp only [List.map_toArray, List.map_cons, List.map_nil]); first | done | rfl | (simp only [List.length_drop, List.length_take]; rfl)) ?_; (with_reducible refine (tag_List.calls k (⟨#[34, 97, 44, 98, 34, 44, 44, 32, 87, 47, 34, 99, 34]⟩ : ByteArray) t147 false t149 _ A1.out).mono ?_); rintro e w38 ⟨v150, rfl, ho0, hb⟩; refine ⟨_, rfl, ?_⟩; have n0_ := Aside0.mk (Kd.R_lower (Kd.R_newB (Kd.R_newB ho0 (g := gb145) (o := .cells #[.string (⟨#[97]⟩ : ByteArray), .bool false] 23 (0, 0)) (by (with_reducible repeat (first | refine blk_drewN ?_ _ | refine blk_drew ?_ | refine blk_alloc ?_ _)); refine blk_far ?_ NB145_146.out _; (with_reducible repeat (first | refine blk_drewN ?_ _ | refine blk_drew ?_ | refine blk_alloc ?_ _)); refine blk_far ?_ NB145_146.out _; (with_reducible repeat (first | refine blk_drewN ?_ _ | refine blk_drew ?_ | refine blk_alloc ?_ _)); refine blk_put (cs := #[.string (⟨#[97]⟩ : ByteArray), .bool false]) ?_ 1 _ rfl; (with_reducible repeat (first | refine blk_drewN ?_ _ | refine blk_drew ?_ | refine blk_alloc ?_ _)); refine blk_put (cs := #[.string (⟨#[]⟩ : ByteArray), .bool false]) ?_ 0 _ rfl; (with_reducible repeat (first | refine blk_drewN ?_ _ | refine blk_drew ?_ | refine blk_alloc ?_ _)); exact BK145.out)) (g := gb146) (o := .cells #[.string (⟨#[97]⟩ : ByteArray), .bool true] 23 (0, 0)) (by (with_reducible repeat (first | refine blk_drewN ?_ _ | refine blk_drew ?_ | refine blk_alloc ?_ _)); refine blk_put (cs := #[.string (⟨#[97]⟩ : ByteArray), .bool false]) ?_ 1 _ rfl; (with_reducible repeat (first | refine blk_drewN ?_ _ | refine blk_drew ?_ | refine blk_alloc ?_ _)); refine blk_put (cs := #[.string (⟨#[]⟩ : ByteArray), .bool false]) ?_ 0 _ rfl; (with_reducible repeat (first | refine blk_drewN ?_ _ | refine blk_drew ?_ | refine blk_alloc ?_ _)); refine blk_far ?_ NB146_145.out _; (with_reducible repeat (first | refine blk_drewN ?_ _ | refine blk_drew ?_ | refine blk_alloc ?_ _)); refine blk_far ?_ NB146_145.out _; (with_reducible repeat (first | refine blk_drewN ?_ _ | refine blk_drew ?_ | refine blk_alloc ?_ _)); exact BK146.out)) (below_size (by repeat (first | (with_reducible first | exact HB.out | apply below_alloc | apply pw_below_drewN | apply below_drew1 | refine below_set ?_ GE145.out | refine below_set ?_ GE146.out) | exact HB.out)))); have n1_ := Aside0.mk (blk_below (g := gb145) (o := .cells #[.string (⟨#[97]⟩ : ByteArray), .bool false] 23 (0, 0)) (by (with_reducible repeat (first | refine blk_drewN ?_ _ | refine blk_drew ?_ | refine blk_alloc ?_ _)); refine blk_far ?_ NB145_146.out _; (with_reducible repeat (first | refine blk_drewN ?_ _ | refine blk_drew ?_ | refine blk_alloc ?_ _)); refine blk_far ?_ NB145_146.out _; (with_reducible repeat (first | refine blk_drewN ?_ _ | refine blk_drew ?_ | refine blk_alloc ?_ _)); refine blk_put (cs := #[.string (⟨#[97]⟩ : ByteArray), .bool false]) ?_ 1 _ rfl; (with_reducible repeat (first | refine blk_drewN ?_ _ | refine blk_drew ?_ | refine blk_alloc ?_ _)); refine blk_put (cs := #[.string (⟨#[]⟩ : ByteArray), .bool false]) ?_ 0 _ rfl; (with_reducible repeat (first | refine blk_drewN ?_ _ | refine blk_drew ?_ | refine blk_alloc ?_ _)); exact BK145.out) hb); have n2_ := Aside0.mk (blk_below (g := gb146) (o := .cells #[.string (⟨#[97]⟩ : ByteArray), .bool true] 23 (0, 0)) (by (with_reducible repeat (first | refine blk_drewN ?_ _ | refine blk_drew ?_ | refine blk_alloc ?_ _)); refine blk_put (cs := #[.string (⟨#[97]⟩ : ByteArray), .bool false]) ?_ 1 _ rfl; (with_reducible repeat (first | refine blk_drewN ?_ _ | refine blk_drew ?_ | refine blk_alloc ?_ _)); refine blk_put (cs := #[.string (⟨#[]⟩ : ByteArray), .bool false]) ?_ 0 _ rfl; (with_reducible repeat (first | refine blk_drewN ?_ _ | refine blk_drew ?_ | refine blk_alloc ?_ _)); refine blk_far ?_ NB146_145.out _; (with_reducible repeat (first | refine blk_drewN ?_ _ | refine blk_drew ?_ | refine blk_alloc ?_ _)); refine blk_far ?_ NB146_145.out _; (with_reducible repeat (first | refine blk_drewN ?_ _ | refine blk_drew ?_ | refine blk_alloc ?_ _)); exact BK146.out) hb); have n3_ := Aside0.mk (below_step (by repeat (first | (with_reducible first | exact HB.out | apply below_alloc | apply pw_below_drewN | apply below_drew1 | refine below_set ?_ GE145.out | refine below_set ?_ GE146.out) | exact HB.out)) hb); clear BK145; clear BK146; clear HB; have HO151 := n0_; have BK145 := n1_; have BK146 := n2_; have HB := n3_; clear n0_ n1_ n2_ n3_; (try clear hb); (try clear hb2); (try clear hk); (try clear hi); (try clear ho0)) | ((with_reducible refine gate_callee (f := 20) rfl ?_); refine goesL_ (some 21) rfl rfl Tryd.func20 (by kernel_rfl) rfl #[.string (⟨#[32, 42, 32]⟩ : ByteArray)] rfl (by (try simp only [List.map_toArray, List.map_cons, List.map_nil]); first | done | rfl | (simp only [List.length_drop, List.length_take]; rfl)) ?_; (with_reducible refine (tag_List.calls k (⟨#[32, 42, 32]⟩ : ByteArray) t152 true t154 _ A2.out).mono ?_); rintro e w39 ⟨v155, rfl, ho0, hb⟩; refine ⟨_, rfl, ?_⟩; have n0_ := Aside0.mk (Kd.R_elder' (by (with_reducible repeat (first | apply Kd.R_alloc | apply Kd.R_drewN | apply Kd.R_drew)); exact HO151.out) (Kd.R_base ho0) hb); have n1_ := Aside0.mk (Kd.R_lower (Kd.R_newB (Kd.R_newB (Kd.R_new' ho0 (Kd.R_lt (by (with_reducible repeat (first | apply Kd.R_alloc | apply Kd.R_drewN | apply Kd.R_drew)); exact HO151.out))) (g := gb145) (o := .cells #[.string (⟨#[97]⟩ : ByteArray), .bool false] 23 (0, 0)) (by (with_reducible repeat (first | refine blk_drewN ?_ _ | refine blk_drew ?_ | refine blk_alloc ?_ _)); exact BK145.out)) (g := gb146) (o := .cells #[.string (⟨#[97]⟩ : ByteArray), .bool true] 23 (0, 0)) (by (with_reducible repeat (first | refine blk_drewN ?_ _ | refine blk_drew ?_ | refine blk_alloc ?_ _)); exact BK146.out)) (below_size (by repeat (first | (with_reducible first | exact HB.out | apply below_alloc | apply pw_below_drewN | apply below_drew1 | refine below_set ?_ GE145.out | refine below_set ?_ GE146.out) | exact HB.out)))); have n2_ := Aside0.mk (blk_below (g := gb145) (o := .cells #[.string (⟨#[97]⟩ : ByteArray), .bool false] 23 (0, 0)) (by (with_reducible repeat (first | refine blk_drewN ?_ _ | refine blk_drew ?_ | refine blk_alloc ?_ _)); exact BK145.out) hb); have n3_ := Aside0.mk (blk_below (g := gb146) (o := .cells #[.string (⟨#[97]⟩ : ByteArray), .bool true] 23 (0, 0)) (by (with_reducible repeat (first | refine blk_drewN ?_ _ | refine blk_drew ?_ | refine blk_alloc ?_ _)); exact BK146.out) hb); have n4_ := Aside0.mk (below_step (by repeat (first | (with_reducible first | exact HB.out | apply below_alloc | apply pw_below_drewN | apply below_drew1 | refine below_set ?_ GE145.out | refine below_set ?_ GE146.out) | exact HB.out)) hb); clear HO151; clear BK145; clear BK146; clear HB; have HO151 := n0_; have HO156 := n1_; have BK145 := n2_; have BK146 := n3_; have HB := n4_; clear n0_ n1_ n2_ n3_ n4_; (try clear hb); (try clear hb2); (try clear hk); (try clear hi); (try clear ho0)) | ((with_reducible refine gate_callee (f := 11) rfl ?_); refine goesL_ (some 26) rfl rfl Tryd.func11 (by kernel_rfl) rfl #[.string (⟨#[32, 34, 97, 34, 9]⟩ : ByteArray)] rfl (by (try simp only [List.map_toArray, List.map_cons, List.map_nil]); first | done | rfl | (simp only [List.length_drop, List.length_take]; rfl)) ?_; (with_reducible refine (tag_Parse.calls k (⟨#[32, 34, 97, 34, 9]⟩ : ByteArray) t157 t158 t159 _ A3.out).mono ?_); rintro e w40 ⟨rfl, hb⟩; refine ⟨_, rfl, ?_⟩; have n0_ := Aside0.mk (Kd.R_below (by (with_reducible repeat (first | apply Kd.R_alloc | apply Kd.R_drewN | apply Kd.R_drew)); exact HO151.out) hb); have n1_ := Aside0.mk (Kd.R_below (by (with_reducible repeat (first | apply Kd.R_alloc | apply Kd.R_drewN | apply Kd.R_drew)); exact HO156.out) hb); have n2_ := Aside0.mk (blk_below (g := gb145) (o := .cells #[.string (⟨#[97]⟩ : ByteArray), .bool false] 23 (0, 0)) (by (with_reducible repeat (first | refine blk_drewN ?_ _ | refine blk_drew ?_ | refine blk_alloc ?_ _)); exact BK145.out) hb); have n3_ := Aside0.mk (blk_below (g := gb146) (o := .cells #[.string (⟨#[97]⟩ : ByteArray), .bool true] 23 (0, 0)) (by (with_reducible repeat (first | refine blk_drewN ?_ _ | refine blk_drew ?_ | refine blk_alloc ?_ _)); exact BK146.out) hb); have n4_ := Aside0.mk (below_step (by repeat (first | (with_reducible first | exact HB.out | apply below_alloc | apply pw_below_drewN | apply below_drew1 | refine below_set ?_ GE145.out | refine below_set ?_ GE146.out) | exact HB.out)) hb); clear HO151; clear HO156; clear BK145; clear BK146; clear HB; have HO151 := n0_; have HO156 := n1_; have BK145 := n2_; have BK146 := n3_; have HB := n4_; clear n0_ n1_ n2_ n3_ n4_; (try clear hb); (try clear hb2); (try clear hk); (try clear hi)) | ((with_reducible refine gate_dst (N := 9) rfl ?_); (try (refine gate_guard (by rfl) ?_; dsimp only)); refine box_event ?hg (N := 9) ?hd (cs := #[.string (⟨#[]⟩ : ByteArray), .bool false]) (t := 23) ?hr ?_; (case hd => rfl); (case hg => rfl); (case hr => first | (go_simp; done) | (go_simp; rfl)); intro gb160 hg w41 hbox hb; have n0_ := Aside0.mk (Kd.R_below (Kd.R_elderB (by (with_reducible repeat (first | apply Kd.R_alloc | apply Kd.R_drewN | apply Kd.R_drew)); exact HO151.out) gb160 (Nat.le_of_eq hg.symm)) hb); have n1_ := Aside0.mk (Kd.R_below (Kd.R_elderB (by (with_reducible repeat (first | apply Kd.R_alloc | apply Kd.R_drewN | apply Kd.R_drew)); exact HO156.out) gb160 (Nat.le_of_eq hg.symm)) hb); have n2_ := Aside0.mk (blk_below (g := gb145) (o := .cells #[.string (⟨#[97]⟩ : ByteArray), .bool false] 23 (0, 0)) (by (with_reducible repeat (first | refine blk_drewN ?_ _ | refine blk_drew ?_ | refine blk_alloc ?_ _)); exact BK145.out) hb); have n3_ := Aside0.mk (blk_below (g := gb146) (o := .cells #[.string (⟨#[97]⟩ : ByteArray), .bool true] 23 (0, 0)) (by (with_reducible repeat (first | refine blk_drewN ?_ _ | refine blk_drew ?_ | refine blk_alloc ?_ _)); exact BK146.out) hb); have n4_ := Aside0.mk (below_step (by repeat (first | (with_reducible first | exact HB.out | apply below_alloc | apply pw_below_drewN | apply below_drew1 | refine below_set ?_ GE145.out | refine below_set ?_ GE146.out) | exact HB.out)) hb); have n5_ := Aside0.mk (hbox); have n6_ := Aside0.mk ((by rw [hg]; exact (below_size (by repeat (first | (with_reducible first | exact HB.out | apply below_alloc | apply pw_below_drewN | apply below_drew1 | refine below_set ?_ GE145.out | refine below_set ?_ GE146.out) | exact HB.out))) : w.heap.size ≤ gb160)); have n7_ := Aside0.mk ((by rw [hg]; exact (below_size (by repeat (first | (with_reducible first | exact HB.out | apply below_alloc | apply pw_below_drewN | apply below_drew1 | refine below_set ?_ GE145.out | refine below_set ?_ GE146.out) | exact HB.out))) : w.heap.size ≤ gb160)); have n8_ := Aside0.mk ((by rw [hg]; exact Nat.ne_of_lt (blk_lt (g := gb145) (o := .cells #[.string (⟨#[97]⟩ : ByteArray), .bool false] 23 (0, 0)) (by (with_reducible repeat (first | refine blk_drewN ?_ _ | refine blk_drew ?_ | refine blk_alloc ?_ _)); exact BK145.out)) : gb145 ≠ gb160)); have n9_ := Aside0.mk ((by rw [hg]; exact Nat.ne_of_gt (blk_lt (g := gb145) (o := .cells #[.string (⟨#[97]⟩ : ByteArray), .bool false] 23 (0, 0)) (by (with_reducible repeat (first | refine blk_drewN ?_ _ | refine blk_drew ?_ | refine blk_alloc ?_ _)); exact BK145.out)) : gb160 ≠ gb145)); have n10_ := Aside0.mk ((by rw [hg]; exact Nat.ne_of_lt (blk_lt (g := gb146) (o := .cells #[.string (⟨#[97]⟩ : ByteArray), .bool true] 23 (0, 0)) (by (with_reducible repeat (first | refine blk_drewN ?_ _ | refine blk_drew ?_ | refine blk_alloc ?_ _)); exact BK146.out)) : gb146 ≠ gb160)); have n11_ := Aside0.mk ((by rw [hg]; exact Nat.ne_of_gt (blk_lt (g := gb146) (o := .cells #[.string (⟨#[97]⟩ : ByteArray), .bool true] 23 (0, 0)) (by (with_reducible repeat (first | refine blk_drewN ?_ _ | refine blk_drew ?_ | refine blk_alloc ?_ _)); exact BK146.out)) : gb160 ≠ gb146)); clear HO151; clear HO156; clear BK145; clear BK146; clear HB; have HO151 := n0_; have HO156 := n1_; have BK145 := n2_; have BK146 := n3_; have HB := n4_; have BK160 := n5_; have GW160 := n6_; have GE160 := n7_; have NB145_160 := n8_; have NB160_145 := n9_; have NB146_160 := n10_; have NB160_146 := n11_; clear n0_ n1_ n2_ n3_ n4_ n5_ n6_ n7_ n8_ n9_ n10_ n11_; clear hb hbox hg; have hnb42 := NB160_145.out; have hnc42 := NB145_160.out; have hnb43 := NB160_146.out; have hnc43 := NB146_160.out; have hcz44_0 : w41.cell? ⟨gb160, 0, none⟩ = some (.string (⟨#[]⟩ : ByteArray)) := (blk_cell BK160.out 0).trans rfl; have hcz44_1 : w41.cell? ⟨gb160, 1, none⟩ = some (.bool false) := (blk_cell BK160.out 1).trans rfl; have hfz44_0 := blk_frozen BK160.out 0; have hfz44_1 := blk_frozen BK160.out 1) | ((with_reducible refine gate_callee (f := 11) rfl ?_); refine goesL_ (some 30) rfl rfl Tryd.func11 (by kernel_rfl) rfl #[.string (⟨#[119, 47, 34, 97, 34]⟩ : ByteArray)] rfl (by (try simp only [List.map_toArray, List.map_cons, List.map_nil]); first | done | rfl | (simp only [List.length_drop, List.length_take]; rfl)) ?_; (with_reducible refine (tag_Parse.calls k (⟨#[119, 47, 34, 97, 34]⟩ : ByteArray) t161 t162 t163 _ A4.out).mono ?_); rintro e w45 ⟨rfl, hb⟩; refine ⟨_, rfl, ?_⟩; have n0_ := Aside0.mk (Kd.R_below (by (with_reducible repeat (first | apply Kd.R_alloc | apply Kd.R_drewN | apply Kd.R_drew)); exact (Kd.R_mono (Kd.R_far (p := ⟨gb160, 1, none⟩) (Kd.R_far (p := ⟨gb160, 0, none⟩) (Kd.R_mono HO151.out (fun k_ hk => (⟨hk, hk.2⟩ : _ ∧ k_ ≠ gb160))) (fun _ hk => hk.2) (.string t157)) (fun _ hk => hk.2) (.bool t158)) (fun _ h_ => h_.1))) hb); have n1_ := Aside0.mk (Kd.R_below (by (with_reducible repeat (first | apply Kd.R_alloc | apply Kd.R_drewN | apply Kd.R_drew)); exact (Kd.R_mono (Kd.R_far (p := ⟨gb160, 1, none⟩) (Kd.R_far (p := ⟨gb160, 0, none⟩) (Kd.R_mono HO156.out (fun k_ hk => (⟨hk, hk.2⟩ : _ ∧ k_ ≠ gb160))) (fun _ hk => hk.2) (.string t157)) (fun _ hk => hk.2) (.bool t158)) (fun _ h_ => h_.1))) hb); have n2_ := Aside0.mk (blk_below (g := gb145) (o := .cells #[.string (⟨#[97]⟩ : ByteArray), .bool false] 23 (0, 0)) (by (with_reducible repeat (first | refine blk_drewN ?_ _ | refine blk_drew ?_ | refine blk_alloc ?_ _)); refine blk_far ?_ NB145_160.out _; (with_reducible repeat (first | refine blk_drewN ?_ _ | refine blk_drew ?_ | refine blk_alloc ?_ _)); refine blk_far ?_ NB145_160.out _; (with_reducible repeat (first | refine blk_drewN ?_ _ | refine blk_drew ?_ | refine blk_alloc ?_ _)); exact BK145.out) hb); have n3_ := Aside0.mk (blk_below (g := gb146) (o := .cells #[.string (⟨#[97]⟩ : ByteArray), .bool true] 23 (0, 0)) (by (with_reducible repeat (first | refine blk_drewN ?_ _ | refine blk_drew ?_ | refine blk_alloc ?_ _)); refine blk_far ?_ NB146_160.out _; (with_reducible repeat (first | refine blk_drewN ?_ _ | refine blk_drew ?_ | refine blk_alloc ?_ _)); refine blk_far ?_ NB146_160.out _; (with_reducible repeat (first | refine blk_drewN ?_ _ | refine blk_drew ?_ | refine blk_alloc ?_ _)); exact BK146.out) hb); have n4_ := Aside0.mk (blk_below (g := gb160) (o := .cells #[.string t157, .bool t158] 23 (0, 0)) (by (with_reducible repeat (first | refine blk_drewN ?_ _ | refine blk_drew ?_ | refine blk_alloc ?_ _)); refine blk_put (cs := #[.string t157, .bool false]) ?_ 1 _ rfl; (with_reducible repeat (first | refine blk_drewN ?_ _ | refine blk_drew ?_ | refine blk_alloc ?_ _)); refine blk_put (cs := #[.string (⟨#[]⟩ : ByteArray), .bool false]) ?_ 0 _ rfl; (with_reducible repeat (first | refine blk_drewN ?_ _ | refine blk_drew ?_ | refine blk_alloc ?_ _)); exact BK160.out) hb); have n5_ := Aside0.mk (below_step (by repeat (first | (with_reducible first | exact HB.out | apply below_alloc | apply pw_below_drewN | apply below_drew1 | refine below_set ?_ GE145.out | refine below_set ?_ GE146.out | refine below_set ?_ GE160.out) | exact HB.out)) hb); clear HO151; clear HO156; clear BK145; clear BK146; clear BK160; clear HB; have HO151 := n0_; have HO156 := n1_; have BK145 := n2_; have BK146 := n3_; have BK160 := n4_; have HB := n5_; clear n0_ n1_ n2_ n3_ n4_ n5_; (try clear hb); (try clear hb2); (try clear hk); (try clear hi)) | ((with_reducible refine gate_dst (N := 11) rfl ?_); (try (refine gate_guard (by rfl) ?_; dsimp only)); refine box_event ?hg (N := 11) ?hd (cs := #[.string (⟨#[]⟩ : ByteArray), .bool false]) (t := 23) ?hr ?_; (case hd => rfl); (case hg => rfl); (case hr => first | (go_simp; done) | (go_simp; rfl)); intro gb164 hg w46 hbox hb; have n0_ := Aside0.mk (Kd.R_below (Kd.R_elderB (by (with_reducible repeat (first | apply Kd.R_alloc | apply Kd.R_drewN | apply Kd.R_drew)); exact HO151.out) gb164 (Nat.le_of_eq hg.symm)) hb); have n1_ := Aside0.mk (Kd.R_below (Kd.R_elderB (by (with_reducible repeat (first | apply Kd.R_alloc | apply Kd.R_drewN | apply Kd.R_drew)); exact HO156.out) gb164 (Nat.le_of_eq hg.symm)) hb); have n2_ := Aside0.mk (blk_below (g := gb145) (o := .cells #[.string (⟨#[97]⟩ : ByteArray), .bool false] 23 (0, 0)) (by (with_reducible repeat (first | refine blk_drewN ?_ _ | refine blk_drew ?_ | refine blk_alloc ?_ _)); exact BK145.out) hb); have n3_ := Aside0.mk (blk_below (g := gb146) (o := .cells #[.string (⟨#[97]⟩ : ByteArray), .bool true] 23 (0, 0)) (by (with_reducible repeat (first | refine blk_drewN ?_ _ | refine blk_drew ?_ | refine blk_alloc ?_ _)); exact BK146.out) hb); have n4_ := Aside0.mk (blk_below (g := gb160) (o := .cells #[.string t157, .bool t158] 23 (0, 0)) (by (with_reducible repeat (first | refine blk_drewN ?_ _ | refine blk_drew ?_ | refine blk_alloc ?_ _)); exact BK160.out) hb); have n5_ := Aside0.mk (below_step (by repeat (first | (with_reducible first | exact HB.out | apply below_alloc | apply pw_below_drewN | apply below_drew1 | refine below_set ?_ GE145.out | refine below_set ?_ GE146.out | refine below_set ?_ GE160.out) | exact HB.out)) hb); have n6_ := Aside0.mk (hbox); have n7_ := Aside0.mk ((by rw [hg]; exact (below_size (by repeat (first | (with_reducible first | exact HB.out | apply below_alloc | apply pw_below_drewN | apply below_drew1 | refine below_set ?_ GE145.out | refine below_set ?_ GE146.out | refine below_set ?_ GE160.out) | exact HB.out))) : w.heap.size ≤ gb164)); have n8_ := Aside0.mk ((by rw [hg]; exact (below_size (by repeat (first | (with_reducible first | exact HB.out | apply below_alloc | apply pw_below_drewN | apply below_drew1 | refine below_set ?_ GE145.out | refine below_set ?_ GE146.out | refine below_set ?_ GE160.out) | exact HB.out))) : w.heap.size ≤ gb164)); have n9_ := Aside0.mk ((by rw [hg]; exact Nat.ne_of_lt (blk_lt (g := gb145) (o := .cells #[.string (⟨#[97]⟩ : ByteArray), .bool false] 23 (0, 0)) (by (with_reducible repeat (first | refine blk_drewN ?_ _ | refine blk_drew ?_ | refine blk_alloc ?_ _)); exact BK145.out)) : gb145 ≠ gb164)); have n10_ := Aside0.mk ((by rw [hg]; exact Nat.ne_of_gt (blk_lt (g := gb145) (o := .cells #[.string (⟨#[97]⟩ : ByteArray), .bool false] 23 (0, 0)) (by (with_reducible repeat (first | refine blk_drewN ?_ _ | refine blk_drew ?_ | refine blk_alloc ?_ _)); exact BK145.out)) : gb164 ≠ gb145)); have n11_ := Aside0.mk ((by rw [hg]; exact Nat.ne_of_lt (blk_lt (g := gb146) (o := .cells #[.string (⟨#[97]⟩ : ByteArray), .bool true] 23 (0, 0)) (by (with_reducible repeat (first | refine blk_drewN ?_ _ | refine blk_drew ?_ | refine blk_alloc ?_ _)); exact BK146.out)) : gb146 ≠ gb164)); have n12_ := Aside0.mk ((by rw [hg]; exact Nat.ne_of_gt (blk_lt (g := gb146) (o := .cells #[.string (⟨#[97]⟩ : ByteArray), .bool true] 23 (0, 0)) (by (with_reducible repeat (first | refine blk_drewN ?_ _ | refine blk_drew ?_ | refine blk_alloc ?_ _)); exact BK146.out)) : gb164 ≠ gb146)); have n13_ := Aside0.mk ((by rw [hg]; exact Nat.ne_of_lt (blk_lt (g := gb160) (o := .cells #[.string t157, .bool t158] 23 (0, 0)) (by (with_reducible repeat (first | refine blk_drewN ?_ _ | refine blk_drew ?_ | refine blk_alloc ?_ _)); exact BK160.out)) : gb160 ≠ gb164)); have n14_ := Aside0.mk ((by rw [hg]; exact Nat.ne_of_gt (blk_lt (g := gb160) (o := .cells #[.string t157, .bool t158] 23 (0, 0)) (by (with_reducible repeat (first | refine blk_drewN ?_ _ | refine blk_drew ?_ | refine blk_alloc ?_ _)); exact BK160.out)) : gb164 ≠ gb160)); clear HO151; clear HO156; clear BK145; clear BK146; clear BK160; clear HB; have HO151 := n0_; have HO156 := n1_; have BK145 := n2_; have BK146 := n3_; have BK160 := n4_; have HB := n5_; have BK164 := n6_; have GW164 := n7_; have GE164 := n8_; have NB145_164 := n9_; have NB164_145 := n10_; have NB146_164 := n11_; have NB164_146 := n12_; have NB160_164 := n13_; have NB164_160 := n14_; clear n0_ n1_ n2_ n3_ n4_ n5_ n6_ n7_ n8_ n9_ n10_ n11_ n12_ n13_ n14_; clear hb hbox hg; have hnb47 := NB164_145.out; have hnc47 := NB145_164.out; have hnb48 := NB164_146.out; have hnc48 := NB146_164.out; have hnb49 := NB164_160.out; have hnc49 := NB160_164.out; have hcz50_0 : w46.cell? ⟨gb164, 0, none⟩ = some (.string (⟨#[]⟩ : ByteArray)) := (blk_cell BK164.out 0).trans rfl; have hcz50_1 : w46.cell? ⟨gb164, 1, none⟩ = some (.bool false) := (blk_cell BK164.out 1).trans rfl; have hfz50_0 := blk_frozen BK164.out 0; have hfz50_1 := blk_frozen BK164.out 1; obtain ⟨Ao51, co51, eo51⟩ := Kd.R_slice HO151.out; subst eo51; have p165 : 0 ≤ (0 : Int) := (by omega); have q165 : 0 < (t147.length : Int) := of_decide_eq_true (by first | (with_reducible assumption) | assumption); obtain ⟨ad165, e165, hx165_0, hx165_1⟩ := at_T23 (Kd.R_reads' HO151.out).2.2 0 p165 q165; (try rw [← Nbq9.out] at hx165_1); cases e165; have qi165 : (0 < t147.length) = True := eq_true (by omega); (try rw [show ((0 : Int)).toNat = 0 from rfl] at hx165_0); (try rw [show 0 * 2 = 0 from rfl] at hx165_0); (try rw [Addr.add_zero'] at hx165_0); (try rw [show ((0 : Int)).toNat = 0 from rfl] at hx165_1); (try rw [show 0 * 2 = 0 from rfl] at hx165_1); (try rw [Addr.add_zero'] at hx165_1); have hn165_0 : ad165.block ≠ gb164 := Kd.own_blk (Kd.R_away HO151.out (fun _ hk => hk.2)); have hn165_1 : ad165.block ≠ gb164 := Kd.own_blk (Kd.R_away HO151.out (fun _ hk => hk.2)); replace hx165_0 := (cell_far (p := ⟨gb164, 0, none⟩) (by first | (rw [add_block]; exact hn165_0) | (show (Addr.add _ _).block ≠ _; rw [add_block]; exact hn165_0) | exact hn165_0) (.string t161)).trans hx165_0; replace hx165_1 := (cell_far (p := ⟨gb164, 0, none⟩) (by first | (rw [add_block]; exact hn165_0) | (show (Addr.add _ _).block ≠ _; rw [add_block]; exact hn165_0) | exact hn165_0) (.string t161)).trans hx165_1; replace hx165_0 := (cell_far (p := ⟨gb164, 1, none⟩) (by first | (rw [add_block]; exact hn165_1) | (show (Addr.add _ _).block ≠ _; rw [add_block]; exact hn165_1) | exact hn165_1) (.bool t162)).trans hx165_0; replace hx165_1 := (cell_far (p := ⟨gb164, 1, none⟩) (by first | (rw [add_block]; exact hn165_1) | (show (Addr.add _ _).block ≠ _; rw [add_block]; exact hn165_1) | exact hn165_1) (.bool t162)).trans hx165_1; clear hn165_0; clear hn165_1; replace p165 := eq_true p165; replace q165 := eq_true q165; have p166 : 0 ≤ (1 : Int) := (by omega); have q166 : 1 < (t147.length : Int) := of_decide_eq_true (by first | (with_reducible assumption) | assumption); obtain ⟨ad166, e166, hx166_0, hx166_1⟩ := at_T23 (Kd.R_reads' HO151.out).2.2 1 p166 q166; (try rw [← Nbq9.out] at hx166_1); obtain rfl : ad165 = ad166 := (by injection e166); (try simp only [show (1 : Int).toNat = 1 from rfl, Nat.reduceMul, Nat.reduceEqDiff, Go.Addr.add, ↓reduceIte] at hx166_0); (try simp only [show (1 : Int).toNat = 1 from rfl, Nat.reduceMul, Nat.reduceEqDiff, Go.Addr.add, ↓reduceIte] at hx166_1); have qi166 : (1 < t147.length) = True := eq_true (by omega); (try rw [show ((1 : Int)).toNat = 1 from rfl] at hx166_0); (try rw [show 1 * 2 = 2 from rfl] at hx166_0); (try rw [show ((1 : Int)).toNat = 1 from rfl] at hx166_1); (try rw [show 1 * 2 = 2 from rfl] at hx166_1); have hn166_0 : ad165.block ≠ gb164 := Kd.own_blk (Kd.R_away HO151.out (fun _ hk => hk.2)); have hn166_1 : ad165.block ≠ gb164 := Kd.own_blk (Kd.R_away HO151.out (fun _ hk => hk.2)); replace hx166_0 := (cell_far (p := ⟨gb164, 0, none⟩) (by first | (rw [add_block]; exact hn166_0) | (show (Addr.add _ _).block ≠ _; rw [add_block]; exact hn166_0) | exact hn166_0) (.string t161)).trans hx166_0; replace hx166_1 := (cell_far (p := ⟨gb164, 0, none⟩) (by first | (rw [add_block]; exact hn166_0) | (show (Addr.add _ _).block ≠ _; rw [add_block]; exact hn166_0) | exact hn166_0) (.string t161)).trans hx166_1; replace hx166_0 := (cell_far (p := ⟨gb164, 1, none⟩) (by first | (rw [add_block]; exact hn166_1) | (show (Addr.add _ _).block ≠ _; rw [add_block]; exact hn166_1) | exact hn166_1) (.bool t162)).trans hx166_0; replace hx166_1 := (cell_far (p := ⟨gb164, 1, none⟩) (by first | (rw [add_block]; exact hn166_1) | (show (Addr.add _ _).block ≠ _; rw [add_block]; exact hn166_1) | exact hn166_1) (.bool t162)).trans hx166_1; clear hn166_0; clear hn166_1; replace p166 := eq_true p166; replace q166 := eq_true q166; have hcz52_0 : w46.cell? ⟨gb160, 0, none⟩ = some (.string t157) := (blk_cell BK160.out 0).trans rfl; have hcz52_1 : w46.cell? ⟨gb160, 1, none⟩ = some (.bool t158) := (blk_cell BK160.out 1).trans rfl; have hfz52_0 := blk_frozen BK160.out 0; have hfz52_1 := blk_frozen BK160.out 1; have hcz53_0 : w46.cell? ⟨gb145, 0, none⟩ = some (.string (⟨#[97]⟩ : ByteArray)) := (blk_cell BK145.out 0).trans rfl; have hcz53_1 : w46.cell? ⟨gb145, 1, none⟩ = some (.bool false) := (blk_cell BK145.out 1).trans rfl; have hfz53_0 := blk_frozen BK145.out 0; have hfz53_1 := blk_frozen BK145.out 1; have hcz54_0 : w46.cell? ⟨gb146, 0, none⟩ = some (.string (⟨#[97]⟩ : ByteArray)) := (blk_cell BK146.out 0).trans rfl; have hcz54_1 : w46.cell? ⟨gb146, 1, none⟩ = some (.bool true) := (blk_cell BK146.out 1).trans rfl; have hfz54_0 := blk_frozen BK146.out 0; have hfz54_1 := blk_frozen BK146.out 1) | (go_at_call 16; (with_reducible refine (tag_Text.calls k (⟨#[97]⟩ : ByteArray) true t167 _ A18.out).mono ?_); rintro e w55 ⟨rfl, hb⟩; have n0_ := Aside0.mk (Kd.R_below (by (with_reducible repeat (first | apply Kd.R_alloc | apply Kd.R_drewN | apply Kd.R_drew)); exact (Kd.R_mono (Kd.R_far (p := ⟨gb164, 1, none⟩) (Kd.R_far (p := ⟨gb164, 0, none⟩) (Kd.R_mono HO151.out (fun k_ hk => (⟨hk, hk.2⟩ : _ ∧ k_ ≠ gb164))) (fun _ hk => hk.2) (.string t161)) (fun _ hk => hk.2) (.bool t162)) (fun _ h_ => h_.1))) hb); have n1_ := Aside0.mk (Kd.R_below (by (with_reducible repeat (first | apply Kd.R_alloc | apply Kd.R_drewN | apply Kd.R_drew)); exact (Kd.R_mono (Kd.R_far (p := ⟨gb164, 1, none⟩) (Kd.R_far (p := ⟨gb164, 0, none⟩) (Kd.R_mono HO156.out (fun k_ hk => (⟨hk, hk.2⟩ : _ ∧ k_ ≠ gb164))) (fun _ hk => hk.2) (.string t161)) (fun _ hk => hk.2) (.bool t162)) (fun _ h_ => h_.1))) hb); have n2_ := Aside0.mk (blk_below (g := gb145) (o := .cells #[.string (⟨#[97]⟩ : ByteArray), .bool false] 23 (0, 0)) (by (with_reducible repeat (first | refine blk_drewN ?_ _ | refine blk_drew ?_ | refine blk_alloc ?_ _)); refine blk_far ?_ NB145_164.out _; (with_reducible repeat (first | refine blk_drewN ?_ _ | refine blk_drew ?_ | refine blk_alloc ?_ _)); refine blk_far ?_ NB145_164.out _; (with_reducible repeat (first | refine blk_drewN ?_ _ | refine blk_drew ?_ | refine blk_alloc ?_ _)); exact BK145.out) hb); have n3_ := Aside0.mk (blk_below (g := gb146) (o := .cells #[.string (⟨#[97]⟩ : ByteArray), .bool true] 23 (0, 0)) (by (with_reducible repeat (first | refine blk_drewN ?_ _ | refine blk_drew ?_ | refine blk_alloc ?_ _)); refine blk_far ?_ NB146_164.out _; (with_reducible repeat (first | refine blk_drewN ?_ _ | refine blk_drew ?_ | refine blk_alloc ?_ _)); refine blk_far ?_ NB146_164.out _; (with_reducible repeat (first | refine blk_drewN ?_ _ | refine blk_drew ?_ | refine blk_alloc ?_ _)); exact BK146.out) hb); have n4_ := Aside0.mk (blk_below (g := gb160) (o := .cells #[.string t157, .bool t158] 23 (0, 0)) (by (with_reducible repeat (first | refine blk_drewN ?_ _ | refine blk_drew ?_ | refine blk_alloc ?_ _)); refine blk_far ?_ NB160_164.out _; (with_reducible repeat (first | refine blk_drewN ?_ _ | refine blk_drew ?_ | refine blk_alloc ?_ _)); refine blk_far ?_ NB160_164.out _; (with_reducible repeat (first | refine blk_drewN ?_ _ | refine blk_drew ?_ | refine blk_alloc ?_ _)); exact BK160.out) hb); have n5_ := Aside0.mk (blk_below (g := gb164) (o := .cells #[.string t161, .bool t162] 23 (0, 0)) (by (with_reducible repeat (first | refine blk_drewN ?_ _ | refine blk_drew ?_ | refine blk_alloc ?_ _)); refine blk_put (cs := #[.string t161, .bool false]) ?_ 1 _ rfl; (with_reducible repeat (first | refine blk_drewN ?_ _ | refine blk_drew ?_ | refine blk_alloc ?_ _)); refine blk_put (cs := #[.string (⟨#[]⟩ : ByteArray), .bool false]) ?_ 0 _ rfl; (with_reducible repeat (first | refine blk_drewN ?_ _ | refine blk_drew ?_ | refine blk_alloc ?_ _)); exact BK164.out) hb); have n6_ := Aside0.mk (below_step (by repeat (first | (with_reducible first | exact HB.out | apply below_alloc | apply pw_below_drewN | apply below_drew1 | refine below_set ?_ GE145.out | refine below_set ?_ GE146.out | refine below_set ?_ GE160.out | refine below_set ?_ GE164.out) | exact HB.out)) hb); clear HO151; clear HO156; clear BK145; clear BK146; clear BK160; clear BK164; clear HB; have HO151 := n0_; have HO156 := n1_; have BK145 := n2_; have BK146 := n3_; have BK160 := n4_; have BK164 := n5_; have HB := n6_; clear n0_ n1_ n2_ n3_ n4_ n5_ n6_; (try clear hb); (try clear hb2); (try clear hk); (try clear hi); have hcz56_0 : w55.cell? ⟨gb145, 0, none⟩ = some (.string (⟨#[97]⟩ : ByteArray)) := (blk_cell BK145.out 0).trans rfl; have hcz56_1 : w55.cell? ⟨gb145, 1, none⟩ = some (.bool false) := (blk_cell BK145.out 1).trans rfl; have hfz56_0 := blk_frozen BK145.out 0; have hfz56_1 := blk_frozen BK145.out 1; have hcz57_0 : w55.cell? ⟨gb146, 0, none⟩ = some (.string (⟨#[97]⟩ : ByteArray)) := (blk_cell BK146.out 0).trans rfl; have hcz57_1 : w55.cell? ⟨gb146, 1, none⟩ = some (.bool true) := (blk_cell BK146.out 1).trans rfl; have hfz57_0 := blk_frozen BK146.out 0; have hfz57_1 := blk_frozen BK146.out 1) | ((with_reducible refine gate_dst (N := 85) rfl ?_); (try (refine gate_guard (by rfl) ?_; dsimp only)); refine Kd.R_lit k23 _ 23 ?hg (N := 85) ?hd (xs := ([(⟨(⟨#[97]⟩ : ByteArray), false⟩ : S23), (⟨(⟨#[97]⟩ : ByteArray), true⟩ : S23)] : List (S23))) (inner := [.string (⟨#[97]⟩ : ByteArray), .bool false, .string (⟨#[97]⟩ : ByteArray), .bool true]) (ok := fun _ => True) (okp := fun _ => True) ?hr ?hp (fun _ hk => hk) trivial (Below.refl _ _) (Nat.le_refl _) (by simp) ?_; (case hd => rfl); (case hg => rfl); (case hr => first | (go_simp; done) | (go_simp; rfl)); (case hp => exact (Reps.c2 (show Kd.M k23 _ _ _ (⟨(⟨#[97]⟩ : ByteArray), false⟩ : S23) [.string (⟨#[97]⟩ : ByteArray), .bool false] from (k23_mkM _ _ _ (⟨(⟨#[97]⟩ : ByteArray), false⟩ : S23) )) (Reps.c2 (show Kd.M k23 _ _ _ (⟨(⟨#[97]⟩ : ByteArray), true⟩ : S23) [.string (⟨#[97]⟩ : ByteArray), .bool true] from (k23_mkM _ _ _ (⟨(⟨#[97]⟩ : ByteArray), true⟩ : S23) )) (Reps.none _ _)))); intro v169 w58 ho59 hb hg_ hnew_; clear hg_ hnew_; (first | rw [← Ny168.out] at ho59 | (simp only [Int.reduceToNat] at ho59; rw [← Ny168.out] at ho59)); have n0_ := Aside0.mk (Kd.R_elder' (by (with_reducible repeat (first | apply Kd.R_alloc | apply Kd.R_drewN | apply Kd.R_drew)); exact HO151.out) (Kd.R_base ho59) hb); have n1_ := Aside0.mk (Kd.R_elder' (by (with_reducible repeat (first | apply Kd.R_alloc | apply Kd.R_drewN | apply Kd.R_drew)); exact HO156.out) (Kd.R_base ho59) hb); have n2_ := Aside0.mk (Kd.R_lower (Kd.R_newB (Kd.R_newB (Kd.R_newB (Kd.R_newB (Kd.R_new' (Kd.R_new' ho59 (Kd.R_lt (by (with_reducible repeat (first | apply Kd.R_alloc | apply Kd.R_drewN | apply Kd.R_drew)); exact HO151.out))) (Kd.R_lt (by (with_reducible repeat (first | apply Kd.R_alloc | apply Kd.R_drewN | apply Kd.R_drew)); exact HO156.out))) (g := gb145) (o := .cells #[.string (⟨#[97]⟩ : ByteArray), .bool false] 23 (0, 0)) (by (with_reducible repeat (first | refine blk_drewN ?_ _ | refine blk_drew ?_ | refine blk_alloc ?_ _)); exact BK145.out)) (g := gb146) (o := .cells #[.string (⟨#[97]⟩ : ByteArray), .bool true] 23 (0, 0)) (by (with_reducible repeat (first | refine blk_drewN ?_ _ | refine blk_drew ?_ | refine blk_alloc ?_ _)); exact BK146.out)) (g := gb160) (o := .cells #[.string t157, .bool t158] 23 (0, 0)) (by (with_reducible repeat (first | refine blk_drewN ?_ _ | refine blk_drew ?_ | refine blk_alloc ?_ _)); exact BK160.out)) (g := gb164) (o := .cells #[.string t161, .bool t162] 23 (0, 0)) (by (with_reducible repeat (first | refine blk_drewN ?_ _ | refine blk_drew ?_ | refine blk_alloc ?_ _)); exact BK164.out)) (below_size (by repeat (first | (with_reducible first | exact HB.out | apply below_alloc | apply pw_below_drewN | apply below_drew1 | refine below_set ?_ GE145.out | refine below_set ?_ GE146.out | refine below_set ?_ GE160.out | refine below_set ?_ GE164.out) | exact HB.out)))); have n3_ := Aside0.mk (blk_below (g := gb145) (o := .cells #[.string (⟨#[97]⟩ : ByteArray), .bool false] 23 (0, 0)) (by (with_reducible repeat (first | refine blk_drewN ?_ _ | refine blk_drew ?_ | refine blk_alloc ?_ _)); exact BK145.out) hb); have n4_ := Aside0.mk (blk_below (g := gb146) (o := .cells #[.string (⟨#[97]⟩ : ByteArray), .bool true] 23 (0, 0)) (by (with_reducible repeat (first | refine blk_drewN ?_ _ | refine blk_drew ?_ | refine blk_alloc ?_ _)); exact BK146.out) hb); have n5_ := Aside0.mk (blk_below (g := gb160) (o := .cells #[.string t157, .bool t158] 23 (0, 0)) (by (with_reducible repeat (first | refine blk_drewN ?_ _ | refine blk_drew ?_ | refine blk_alloc ?_ _)); exact BK160.out) hb); have n6_ := Aside0.mk (blk_below (g := gb164) (o := .cells #[.string t161, .bool t162] 23 (0, 0)) (by (with_reducible repeat (first | refine blk_drewN ?_ _ | refine blk_drew ?_ | refine blk_alloc ?_ _)); exact BK164.out) hb); have n7_ := Aside0.mk (below_step (by repeat (first | (with_reducible first | exact HB.out | apply below_alloc | apply pw_below_drewN | apply below_drew1 | refine below_set ?_ GE145.out | refine below_set ?_ GE146.out | refine below_set ?_ GE160.out | refine below_set ?_ GE164.out) | exact HB.out)) hb); clear HO151; clear HO156; clear BK145; clear BK146; clear BK160; clear BK164; clear HB; have HO151 := n0_; have HO156 := n1_; have HO170 := n2_; have BK145 := n3_; have BK146 := n4_; have BK160 := n5_; have BK164 := n6_; have HB := n7_; clear n0_ n1_ n2_ n3_ n4_ n5_ n6_ n7_; clear hb ho59; obtain ⟨Ao60, co60, eo60⟩ := Kd.R_slice HO170.out; subst eo60) | (go_at_call 18; (with_reducible refine (tag_Texts.calls k _ _ y168 false t171 _ ?side1 ?side2 A20.out).mono ?_); (case side1 => repeat (first | exact (Kd.R_reads' HO170.out).2.2 | (with_reducible refine Kd.C_alloc ?_ _) | (with_reducible refine Kd.C_drewN ?_ _) | (with_reducible refine Kd.C_drew ?_))); (case side2 => exact (Kd.R_reads' HO170.out).2.1); rintro e w61 ⟨rfl, hb⟩; have n0_ := Aside0.mk (Kd.R_below (by (with_reducible repeat (first | apply Kd.R_alloc | apply Kd.R_drewN | apply Kd.R_drew)); exact HO151.out) hb); have n1_ := Aside0.mk (Kd.R_below (by (with_reducible repeat (first | apply Kd.R_alloc | apply Kd.R_drewN | apply Kd.R_drew)); exact HO156.out) hb); have n2_ := Aside0.mk (Kd.R_below (by (with_reducible repeat (first | apply Kd.R_alloc | apply Kd.R_drewN | apply Kd.R_drew)); exact HO170.out) hb); have n3_ := Aside0.mk (blk_below (g := gb145) (o := .cells #[.string (⟨#[97]⟩ : ByteArray), .bool false] 23 (0, 0)) (by (with_reducible repeat (first | refine blk_drewN ?_ _ | refine blk_drew ?_ | refine blk_alloc ?_ _)); exact BK145.out) hb); have n4_ := Aside0.mk (blk_below (g := gb146) (o := .cells #[.string (⟨#[97]⟩ : ByteArray), .bool true] 23 (0, 0)) (by (with_reducible repeat (first | refine blk_drewN ?_ _ | refine blk_drew ?_ | refine blk_alloc ?_ _)); exact BK146.out) hb); have n5_ := Aside0.mk (blk_below (g := gb160) (o := .cells #[.string t157, .bool t158] 23 (0, 0)) (by (with_reducible repeat (first | refine blk_drewN ?_ _ | refine blk_drew ?_ | refine blk_alloc ?_ _)); exact BK160.out) hb); have n6_ := Aside0.mk (blk_below (g := gb164) (o := .cells #[.string t161, .bool t162] 23 (0, 0)) (by (with_reducible repeat (first | refine blk_drewN ?_ _ | refine blk_drew ?_ | refine blk_alloc ?_ _)); exact BK164.out) hb); have n7_ := Aside0.mk (below_step (by repeat (first | (with_reducible first | exact HB.out | apply below_alloc | apply pw_below_drewN | apply below_drew1 | refine below_set ?_ GE145.out | refine below_set ?_ GE146.out | refine below_set ?_ GE160.out | refine below_set ?_ GE164.out) | exact HB.out)) hb); clear HO151; clear HO156; clear HO170; clear BK145; clear BK146; clear BK160; clear BK164; clear HB; have HO151 := n0_; have HO156 := n1_; have HO170 := n2_; have BK145 := n3_; have BK146 := n4_; have BK160 := n5_; have BK164 := n6_; have HB := n7_; clear n0_ n1_ n2_ n3_ n4_ n5_ n6_ n7_; (try clear hb); (try clear hb2); (try clear hk); (try clear hi); have hcz62_0 : w61.cell? ⟨gb145, 0, none⟩ = some (.string (⟨#[97]⟩ : ByteArray)) := (blk_cell BK145.out 0).trans rfl; have hcz62_1 : w61.cell? ⟨gb145, 1, none⟩ = some (.bool false) := (blk_cell BK145.out 1).trans rfl; have hfz62_0 := blk_frozen BK145.out 0; have hfz62_1 := blk_frozen BK145.out 1; have hcz63_0 : w61.cell? ⟨gb146, 0, none⟩ = some (.string (⟨#[97]⟩ : ByteArray)) := (blk_cell BK146.out 0).trans rfl; have hcz63_1 : w61.cell? ⟨gb146, 1, none⟩ = some (.bool true) := (blk_cell BK146.out 1).trans rfl; have hfz63_0 := blk_frozen BK146.out 0; have hfz63_1 := blk_frozen BK146.out 1) | (go_at_call 25; (with_reducible refine (tag_Weak.calls k (⟨#[97]⟩ : ByteArray) false (⟨#[97]⟩ : ByteArray) true true _ A22.out).mono ?_); rintro e w64 ⟨rfl, hb⟩; have n0_ := Aside0.mk (Kd.R_below (by (with_reducible repeat (first | apply Kd.R_alloc | apply Kd.R_drewN | apply Kd.R_drew)); exact HO151.out) hb); have n1_ := Aside0.mk (Kd.R_below (by (with_reducible repeat (first | apply Kd.R_alloc | apply Kd.R_drewN | apply Kd.R_drew)); exact HO156.out) hb); have n2_ := Aside0.mk (Kd.R_below (by (with_reducible repeat (first | apply Kd.R_alloc | apply Kd.R_drewN | apply Kd.R_drew)); exact HO170.out) hb); have n3_ := Aside0.mk (blk_below (g := gb145) (o := .cells #[.string (⟨#[97]⟩ : ByteArray), .bool false] 23 (0, 0)) (by (with_reducible repeat (first | refine blk_drewN ?_ _ | refine blk_drew ?_ | refine blk_alloc ?_ _)); exact BK145.out) hb); have n4_ := Aside0.mk (blk_below (g := gb146) (o := .cells #[.string (⟨#[97]⟩ : ByteArray), .bool true] 23 (0, 0)) (by (with_reducible repeat (first | refine blk_drewN ?_ _ | refine blk_drew ?_ | refine blk_alloc ?_ _)); exact BK146.out) hb); have n5_ := Aside0.mk (blk_below (g := gb160) (o := .cells #[.string t157, .bool t158] 23 (0, 0)) (by (with_reducible repeat (first | refine blk_drewN ?_ _ | refine blk_drew ?_ | refine blk_alloc ?_ _)); exact BK160.out) hb); have n6_ := Aside0.mk (blk_below (g := gb164) (o := .cells #[.string t161, .bool t162] 23 (0, 0)) (by (with_reducible repeat (first | refine blk_drewN ?_ _ | refine blk_drew ?_ | refine blk_alloc ?_ _)); exact BK164.out) hb); have n7_ := Aside0.mk (below_step (by repeat (first | (with_reducible first | exact HB.out | apply below_alloc | apply pw_below_drewN | apply below_drew1 | refine below_set ?_ GE145.out | refine below_set ?_ GE146.out | refine below_set ?_ GE160.out | refine below_set ?_ GE164.out) | exact HB.out)) hb); clear HO151; clear HO156; clear HO170; clear BK145; clear BK146; clear BK160; clear BK164; clear HB; have HO151 := n0_; have HO156 := n1_; have HO170 := n2_; have BK145 := n3_; have BK146 := n4_; have BK160 := n5_; have BK164 := n6_; have HB := n7_; clear n0_ n1_ n2_ n3_ n4_ n5_ n6_ n7_; (try clear hb); (try clear hb2); (try clear hk); (try clear hi); have hcz65_0 : w64.cell? ⟨gb145, 0, none⟩ = some (.string (⟨#[97]⟩ : ByteArray)) := (blk_cell BK145.out 0).trans rfl; have hcz65_1 : w64.cell? ⟨gb145, 1, none⟩ = some (.bool false) := (blk_cell BK145.out 1).trans rfl; have hfz65_0 := blk_frozen BK145.out 0; have hfz65_1 := blk_frozen BK145.out 1; have hcz66_0 : w64.cell? ⟨gb146, 0, none⟩ = some (.string (⟨#[97]⟩ : ByteArray)) := (blk_cell BK146.out 0).trans rfl; have hcz66_1 : w64.cell? ⟨gb146, 1, none⟩ = some (.bool true) := (blk_cell BK146.out 1).trans rfl; have hfz66_0 := blk_frozen BK146.out 0; have hfz66_1 := blk_frozen BK146.out 1) | (go_at_call 23; (with_reducible refine (tag_Strong.calls k (⟨#[97]⟩ : ByteArray) false (⟨#[97]⟩ : ByteArray) true false _ A24.out).mono ?_); rintro e w67 ⟨rfl, hb⟩; have n0_ := Aside0.mk (Kd.R_below (by (with_reducible repeat (first | apply Kd.R_alloc | apply Kd.R_drewN | apply Kd.R_drew)); exact HO151.out) hb); have n1_ := Aside0.mk (Kd.R_below (by (with_reducible repeat (first | apply Kd.R_alloc | apply Kd.R_drewN | apply Kd.R_drew)); exact HO156.out) hb); have n2_ := Aside0.mk (Kd.R_below (by (with_reducible repeat (first | apply Kd.R_alloc | apply Kd.R_drewN | apply Kd.R_drew)); exact HO170.out) hb); have n3_ := Aside0.mk (blk_below (g := gb145) (o := .cells #[.string (⟨#[97]⟩ : ByteArray), .bool false] 23 (0, 0)) (by (with_reducible repeat (first | refine blk_drewN ?_ _ | refine blk_drew ?_ | refine blk_alloc ?_ _)); exact BK145.out) hb); have n4_ := Aside0.mk (blk_below (g := gb146) (o := .cells #[.string (⟨#[97]⟩ : ByteArray), .bool true] 23 (0, 0)) (by (with_reducible repeat (first | refine blk_drewN ?_ _ | refine blk_drew ?_ | refine blk_alloc ?_ _)); exact BK146.out) hb); have n5_ := Aside0.mk (blk_below (g := gb160) (o := .cells #[.string t157, .bool t158] 23 (0, 0)) (by (with_reducible repeat (first | refine blk_drewN ?_ _ | refine blk_drew ?_ | refine blk_alloc ?_ _)); exact BK160.out) hb); have n6_ := Aside0.mk (blk_below (g := gb164) (o := .cells #[.string t161, .bool t162] 23 (0, 0)) (by (with_reducible repeat (first | refine blk_drewN ?_ _ | refine blk_drew ?_ | refine blk_alloc ?_ _)); exact BK164.out) hb); have n7_ := Aside0.mk (below_step (by repeat (first | (with_reducible first | exact HB.out | apply below_alloc | apply pw_below_drewN | apply below_drew1 | refine below_set ?_ GE145.out | refine below_set ?_ GE146.out | refine below_set ?_ GE160.out | refine below_set ?_ GE164.out) | exact HB.out)) hb); clear HO151; clear HO156; clear HO170; clear BK145; clear BK146; clear BK160; clear BK164; clear HB; have HO151 := n0_; have HO156 := n1_; have HO170 := n2_; have BK145 := n3_; have BK146 := n4_; have BK160 := n5_; have BK164 := n6_; have HB := n7_; clear n0_ n1_ n2_ n3_ n4_ n5_ n6_ n7_; (try clear hb); (try clear hb2); (try clear hk); (try clear hi); have hcz68_0 : w67.cell? ⟨gb145, 0, none⟩ = some (.string (⟨#[97]⟩ : ByteArray)) := (blk_cell BK145.out 0).trans rfl; have hcz68_1 : w67.cell? ⟨gb145, 1, none⟩ = some (.bool false) := (blk_cell BK145.out 1).trans rfl; have hfz68_0 := blk_frozen BK145.out 0; have hfz68_1 := blk_frozen BK145.out 1) | (go_at_call 23; (with_reducible refine (tag_Strong.calls k (⟨#[97]⟩ : ByteArray) false (⟨#[97]⟩ : ByteArray) false true _ A26.out).mono ?_); rintro e w69 ⟨rfl, hb⟩; have n0_ := Aside0.mk (Kd.R_below (by (with_reducible repeat (first | apply Kd.R_alloc | apply Kd.R_drewN | apply Kd.R_drew)); exact HO151.out) hb); have n1_ := Aside0.mk (Kd.R_below (by (with_reducible repeat (first | apply Kd.R_alloc | apply Kd.R_drewN | apply Kd.R_drew)); exact HO156.out) hb); have n2_ := Aside0.mk (Kd.R_below (by (with_reducible repeat (first | apply Kd.R_alloc | apply Kd.R_drewN | apply Kd.R_drew)); exact HO170.out) hb); have n3_ := Aside0.mk (blk_below (g := gb145) (o := .cells #[.string (⟨#[97]⟩ : ByteArray), .bool false] 23 (0, 0)) (by (with_reducible repeat (first | refine blk_drewN ?_ _ | refine blk_drew ?_ | refine blk_alloc ?_ _)); exact BK145.out) hb); have n4_ := Aside0.mk (blk_below (g := gb146) (o := .cells #[.string (⟨#[97]⟩ : ByteArray), .bool true] 23 (0, 0)) (by (with_reducible repeat (first | refine blk_drewN ?_ _ | refine blk_drew ?_ | refine blk_alloc ?_ _)); exact BK146.out) hb); have n5_ := Aside0.mk (blk_below (g := gb160) (o := .cells #[.string t157, .bool t158] 23 (0, 0)) (by (with_reducible repeat (first | refine blk_drewN ?_ _ | refine blk_drew ?_ | refine blk_alloc ?_ _)); exact BK160.out) hb); have n6_ := Aside0.mk (blk_below (g := gb164) (o := .cells #[.string t161, .bool t162] 23 (0, 0)) (by (with_reducible repeat (first | refine blk_drewN ?_ _ | refine blk_drew ?_ | refine blk_alloc ?_ _)); exact BK164.out) hb); have n7_ := Aside0.mk (below_step (by repeat (first | (with_reducible first | exact HB.out | apply below_alloc | apply pw_below_drewN | apply below_drew1 | refine below_set ?_ GE145.out | refine below_set ?_ GE146.out | refine below_set ?_ GE160.out | refine below_set ?_ GE164.out) | exact HB.out)) hb); clear HO151; clear HO156; clear HO170; clear BK145; clear BK146; clear BK160; clear BK164; clear HB; have HO151 := n0_; have HO156 := n1_; have HO170 := n2_; have BK145 := n3_; have BK146 := n4_; have BK160 := n5_; have BK164 := n6_; have HB := n7_; clear n0_ n1_ n2_ n3_ n4_ n5_ n6_ n7_; (try clear hb); (try clear hb2); (try clear hk); (try clear hi); have hcz70_0 : w69.cell? ⟨gb146, 0, none⟩ = some (.string (⟨#[97]⟩ : ByteArray)) := (blk_cell BK146.out 0).trans rfl; have hcz70_1 : w69.cell? ⟨gb146, 1, none⟩ = some (.bool true) := (blk_cell BK146.out 1).trans rfl; have hfz70_0 := blk_frozen BK146.out 0; have hfz70_1 := blk_frozen BK146.out 1; have hcz71_0 : w69.cell? ⟨gb145, 0, none⟩ = some (.string (⟨#[97]⟩ : ByteArray)) := (blk_cell BK145.out 0).trans rfl; have hcz71_1 : w69.cell? ⟨gb145, 1, none⟩ = some (.bool false) := (blk_cell BK145.out 1).trans rfl; have hfz71_0 := blk_frozen BK145.out 0; have hfz71_1 := blk_frozen BK145.out 1) | ((with_reducible refine gate_dst (N := 108) rfl ?_); (try (refine gate_guard (by rfl) ?_; dsimp only)); refine Kd.R_lit k23 _ 23 ?hg (N := 108) ?hd (xs := ([(⟨(⟨#[97]⟩ : ByteArray), true⟩ : S23), (⟨(⟨#[97]⟩ : ByteArray), false⟩ : S23)] : List (S23))) (inner := [.string (⟨#[97]⟩ : ByteArray), .bool true, .string (⟨#[97]⟩ : ByteArray), .bool false]) (ok := fun _ => True) (okp := fun _ => True) ?hr ?hp (fun _ hk => hk) trivial (Below.refl _ _) (Nat.le_refl _) (by simp) ?_; (case hd => rfl); (case hg => rfl); (case hr => first | (go_simp; done) | (go_simp; rfl)); (case hp => exact (Reps.c2 (show Kd.M k23 _ _ _ (⟨(⟨#[97]⟩ : ByteArray), true⟩ : S23) [.string (⟨#[97]⟩ : ByteArray), .bool true] from (k23_mkM _ _ _ (⟨(⟨#[97]⟩ : ByteArray), true⟩ : S23) )) (Reps.c2 (show Kd.M k23 _ _ _ (⟨(⟨#[97]⟩ : ByteArray), false⟩ : S23) [.string (⟨#[97]⟩ : ByteArray), .bool false] from (k23_mkM _ _ _ (⟨(⟨#[97]⟩ : ByteArray), false⟩ : S23) )) (Reps.none _ _)))); intro v176 w72 ho73 hb hg_ hnew_; clear hg_ hnew_; (first | rw [← Ny175.out] at ho73 | (simp only [Int.reduceToNat] at ho73; rw [← Ny175.out] at ho73)); have n0_ := Aside0.mk (Kd.R_elder' (by (with_reducible repeat (first | apply Kd.R_alloc | apply Kd.R_drewN | apply Kd.R_drew)); exact HO151.out) (Kd.R_base ho73) hb); have n1_ := Aside0.mk (Kd.R_elder' (by (with_reducible repeat (first | apply Kd.R_alloc | apply Kd.R_drewN | apply Kd.R_drew)); exact HO156.out) (Kd.R_base ho73) hb); have n2_ := Aside0.mk (Kd.R_elder' (by (with_reducible repeat (first | apply Kd.R_alloc | apply Kd.R_drewN | apply Kd.R_drew)); exact HO170.out) (Kd.R_base ho73) hb); have n3_ := Aside0.mk (Kd.R_lower (Kd.R_newB (Kd.R_newB (Kd.R_newB (Kd.R_newB (Kd.R_new' (Kd.R_new' (Kd.R_new' ho73 (Kd.R_lt (by (with_reducible repeat (first | apply Kd.R_alloc | apply Kd.R_drewN | apply Kd.R_drew)); exact HO151.out))) (Kd.R_lt (by (with_reducible repeat (first | apply Kd.R_alloc | apply Kd.R_drewN | apply Kd.R_drew)); exact HO156.out))) (Kd.R_lt (by (with_reducible repeat (first | apply Kd.R_alloc | apply Kd.R_drewN | apply Kd.R_drew)); exact HO170.out))) (g := gb145) (o := .cells #[.string (⟨#[97]⟩ : ByteArray), .bool false] 23 (0, 0)) (by (with_reducible repeat (first | refine blk_drewN ?_ _ | refine blk_drew ?_ | refine blk_alloc ?_ _)); exact BK145.out)) (g := gb146) (o := .cells #[.string (⟨#[97]⟩ : ByteArray), .bool true] 23 (0, 0)) (by (with_reducible repeat (first | refine blk_drewN ?_ _ | refine blk_drew ?_ | refine blk_alloc ?_ _)); exact BK146.out)) (g := gb160) (o := .cells #[.string t157, .bool t158] 23 (0, 0)) (by (with_reducible repeat (first | refine blk_drewN ?_ _ | refine blk_drew ?_ | refine blk_alloc ?_ _)); exact BK160.out)) (g := gb164) (o := .cells #[.string t161, .bool t162] 23 (0, 0)) (by (with_reducible repeat (first | refine blk_drewN ?_ _ | refine blk_drew ?_ | refine blk_alloc ?_ _)); exact BK164.out)) (below_size (by repeat (first | (with_reducible first | exact HB.out | apply below_alloc | apply pw_below_drewN | apply below_drew1 | refine below_set ?_ GE145.out | refine below_set ?_ GE146.out | refine below_set ?_ GE160.out | refine below_set ?_ GE164.out) | exact HB.out)))); have n4_ := Aside0.mk (blk_below (g := gb145) (o := .cells #[.string (⟨#[97]⟩ : ByteArray), .bool false] 23 (0, 0)) (by (with_reducible repeat (first | refine blk_drewN ?_ _ | refine blk_drew ?_ | refine blk_alloc ?_ _)); exact BK145.out) hb); have n5_ := Aside0.mk (blk_below (g := gb146) (o := .cells #[.string (⟨#[97]⟩ : ByteArray), .bool true] 23 (0, 0)) (by (with_reducible repeat (first | refine blk_drewN ?_ _ | refine blk_drew ?_ | refine blk_alloc ?_ _)); exact BK146.out) hb); have n6_ := Aside0.mk (blk_below (g := gb160) (o := .cells #[.string t157, .bool t158] 23 (0, 0)) (by (with_reducible repeat (first | refine blk_drewN ?_ _ | refine blk_drew ?_ | refine blk_alloc ?_ _)); exact BK160.out) hb); have n7_ := Aside0.mk (blk_below (g := gb164) (o := .cells #[.string t161, .bool t162] 23 (0, 0)) (by (with_reducible repeat (first | refine blk_drewN ?_ _ | refine blk_drew ?_ | refine blk_alloc ?_ _)); exact BK164.out) hb); have n8_ := Aside0.mk (below_step (by repeat (first | (with_reducible first | exact HB.out | apply below_alloc | apply pw_below_drewN | apply below_drew1 | refine below_set ?_ GE145.out | refine below_set ?_ GE146.out | refine below_set ?_ GE160.out | refine below_set ?_ GE164.out) | exact HB.out)) hb); clear HO151; clear HO156; clear HO170; clear BK145; clear BK146; clear BK160; clear BK164; clear HB; have HO151 := n0_; have HO156 := n1_; have HO170 := n2_; have HO177 := n3_; have BK145 := n4_; have BK146 := n5_; have BK160 := n6_; have BK164 := n7_; have HB := n8_; clear n0_ n1_ n2_ n3_ n4_ n5_ n6_ n7_ n8_; clear hb ho73; have hcz74_0 : w72.cell? ⟨gb145, 0, none⟩ = some (.string (⟨#[97]⟩ : ByteArray)) := (blk_cell BK145.out 0).trans rfl; have hcz74_1 : w72.cell? ⟨gb145, 1, none⟩ = some (.bool false) := (blk_cell BK145.out 1).trans rfl; have hfz74_0 := blk_frozen BK145.out 0; have hfz74_1 := blk_frozen BK145.out 1; obtain ⟨Ao75, co75, eo75⟩ := Kd.R_slice HO177.out; subst eo75) | (go_at_call 27; (with_reducible refine (tag_In.calls k _ _ y175 (⟨#[97]⟩ : ByteArray) false true true _ ?side1 ?side2 A28.out).mono ?_); (case side1 => repeat (first | exact (Kd.R_reads' HO177.out).2.2 | (with_reducible refine Kd.C_alloc ?_ _) | (with_reducible refine Kd.C_drewN ?_ _) | (with_reducible refine Kd.C_drew ?_))); (case side2 => exact (Kd.R_reads' HO177.out).2.1); rintro e w76 ⟨rfl, hb⟩; have n0_ := Aside0.mk (Kd.R_below (by (with_reducible repeat (first | apply Kd.R_alloc | apply Kd.R_drewN | apply Kd.R_drew)); exact HO151.out) hb); have n1_ := Aside0.mk (Kd.R_below (by (with_reducible repeat (first | apply Kd.R_alloc | apply Kd.R_drewN | apply Kd.R_drew)); exact HO156.out) hb); have n2_ := Aside0.mk (Kd.R_below (by (with_reducible repeat (first | apply Kd.R_alloc | apply Kd.R_drewN | apply Kd.R_drew)); exact HO170.out) hb); have n3_ := Aside0.mk (Kd.R_below (by (with_reducible repeat (first | apply Kd.R_alloc | apply Kd.R_drewN | apply Kd.R_drew)); exact HO177.out) hb); have n4_ := Aside0.mk (blk_below (g := gb145) (o := .cells #[.string (⟨#[97]⟩ : ByteArray), .bool false] 23 (0, 0)) (by (with_reducible repeat (first | refine blk_drewN ?_ _ | refine blk_drew ?_ | refine blk_alloc ?_ _)); exact BK145.out) hb); have n5_ := Aside0.mk (blk_below (g := gb146) (o := .cells #[.string (⟨#[97]⟩ : ByteArray), .bool true] 23 (0, 0)) (by (with_reducible repeat (first | refine blk_drewN ?_ _ | refine blk_drew ?_ | refine blk_alloc ?_ _)); exact BK146.out) hb); have n6_ := Aside0.mk (blk_below (g := gb160) (o := .cells #[.string t157, .bool t158] 23 (0, 0)) (by (with_reducible repeat (first | refine blk_drewN ?_ _ | refine blk_drew ?_ | refine blk_alloc ?_ _)); exact BK160.out) hb); have n7_ := Aside0.mk (blk_below (g := gb164) (o := .cells #[.string t161, .bool t162] 23 (0, 0)) (by (with_reducible repeat (first | refine blk_drewN ?_ _ | refine blk_drew ?_ | refine blk_alloc ?_ _)); exact BK164.out) hb); have n8_ := Aside0.mk (below_step (by repeat (first | (with_reducible first | exact HB.out | apply below_alloc | apply pw_below_drewN | apply below_drew1 | refine below_set ?_ GE145.out | refine below_set ?_ GE146.out | refine below_set ?_ GE160.out | refine below_set ?_ GE164.out) | exact HB.out)) hb); clear HO151; clear HO156; clear HO170; clear HO177; clear BK145; clear BK146; clear BK160; clear BK164; clear HB; have HO151 := n0_; have HO156 := n1_; have HO170 := n2_; have HO177 := n3_; have BK145 := n4_; have BK146 := n5_; have BK160 := n6_; have BK164 := n7_; have HB := n8_; clear n0_ n1_ n2_ n3_ n4_ n5_ n6_ n7_ n8_; (try clear hb); (try clear hb2); (try clear hk); (try clear hi)) | (go_at_call 13; (with_reducible refine (tag_Right.calls k (⟨#[]⟩ : ByteArray) false false _ A30.out).mono ?_); rintro e w77 ⟨rfl, hb⟩; have n0_ := Aside0.mk (Kd.R_below (by (with_reducible repeat (first | apply Kd.R_alloc | apply Kd.R_drewN | apply Kd.R_drew)); exact HO151.out) hb); have n1_ := Aside0.mk (Kd.R_below (by (with_reducible repeat (first | apply Kd.R_alloc | apply Kd.R_drewN | apply Kd.R_drew)); exact HO156.out) hb); have n2_ := Aside0.mk (Kd.R_below (by (with_reducible repeat (first | apply Kd.R_alloc | apply Kd.R_drewN | apply Kd.R_drew)); exact HO170.out) hb); have n3_ := Aside0.mk (Kd.R_below (by (with_reducible repeat (first | apply Kd.R_alloc | apply Kd.R_drewN | apply Kd.R_drew)); exact HO177.out) hb); have n4_ := Aside0.mk (blk_below (g := gb145) (o := .cells #[.string (⟨#[97]⟩ : ByteArray), .bool false] 23 (0, 0)) (by (with_reducible repeat (first | refine blk_drewN ?_ _ | refine blk_drew ?_ | refine blk_alloc ?_ _)); exact BK145.out) hb); have n5_ := Aside0.mk (blk_below (g := gb146) (o := .cells #[.string (⟨#[97]⟩ : ByteArray), .bool true] 23 (0, 0)) (by (with_reducible repeat (first | refine blk_drewN ?_ _ | refine blk_drew ?_ | refine blk_alloc ?_ _)); exact BK146.out) hb); have n6_ := Aside0.mk (blk_below (g := gb160) (o := .cells #[.string t157, .bool t158] 23 (0, 0)) (by (with_reducible repeat (first | refine blk_drewN ?_ _ | refine blk_drew ?_ | refine blk_alloc ?_ _)); exact BK160.out) hb); have n7_ := Aside0.mk (blk_below (g := gb164) (o := .cells #[.string t161, .bool t162] 23 (0, 0)) (by (with_reducible repeat (first | refine blk_drewN ?_ _ | refine blk_drew ?_ | refine blk_alloc ?_ _)); exact BK164.out) hb); have n8_ := Aside0.mk (below_step (by repeat (first | (with_reducible first | exact HB.out | apply below_alloc | apply pw_below_drewN | apply below_drew1 | refine below_set ?_ GE145.out | refine below_set ?_ GE146.out | refine below_set ?_ GE160.out | refine below_set ?_ GE164.out) | exact HB.out)) hb); clear HO151; clear HO156; clear HO170; clear HO177; clear BK145; clear BK146; clear BK160; clear BK164; clear HB; have HO151 := n0_; have HO156 := n1_; have HO170 := n2_; have HO177 := n3_; have BK145 := n4_; have BK146 := n5_; have BK160 := n6_; have BK164 := n7_; have HB := n8_; clear n0_ n1_ n2_ n3_ n4_ n5_ n6_ n7_ n8_; (try clear hb); (try clear hb2); (try clear hk); (try clear hi); have hcz78_0 : w77.cell? ⟨gb145, 0, none⟩ = some (.string (⟨#[97]⟩ : ByteArray)) := (blk_cell BK145.out 0).trans rfl; have hcz78_1 : w77.cell? ⟨gb145, 1, none⟩ = some (.bool false) := (blk_cell BK145.out 1).trans rfl; have hfz78_0 := blk_frozen BK145.out 0; have hfz78_1 := blk_frozen BK145.out 1) | (go_at_call 13; (with_reducible refine (tag_Right.calls k (⟨#[97]⟩ : ByteArray) false t180 _ A32.out).mono ?_); rintro e w79 ⟨rfl, hb⟩; have n0_ := Aside0.mk (Kd.R_below (by (with_reducible repeat (first | apply Kd.R_alloc | apply Kd.R_drewN | apply Kd.R_drew)); exact HO151.out) hb); have n1_ := Aside0.mk (Kd.R_below (by (with_reducible repeat (first | apply Kd.R_alloc | apply Kd.R_drewN | apply Kd.R_drew)); exact HO156.out) hb); have n2_ := Aside0.mk (Kd.R_below (by (with_reducible repeat (first | apply Kd.R_alloc | apply Kd.R_drewN | apply Kd.R_drew)); exact HO170.out) hb); have n3_ := Aside0.mk (Kd.R_below (by (with_reducible repeat (first | apply Kd.R_alloc | apply Kd.R_drewN | apply Kd.R_drew)); exact HO177.out) hb); have n4_ := Aside0.mk (blk_below (g := gb145) (o := .cells #[.string (⟨#[97]⟩ : ByteArray), .bool false] 23 (0, 0)) (by (with_reducible repeat (first | refine blk_drewN ?_ _ | refine blk_drew ?_ | refine blk_alloc ?_ _)); exact BK145.out) hb); have n5_ := Aside0.mk (blk_below (g := gb146) (o := .cells #[.string (⟨#[97]⟩ : ByteArray), .bool true] 23 (0, 0)) (by (with_reducible repeat (first | refine blk_drewN ?_ _ | refine blk_drew ?_ | refine blk_alloc ?_ _)); exact BK146.out) hb); have n6_ := Aside0.mk (blk_below (g := gb160) (o := .cells #[.string t157, .bool t158] 23 (0, 0)) (by (with_reducible repeat (first | refine blk_drewN ?_ _ | refine blk_drew ?_ | refine blk_alloc ?_ _)); exact BK160.out) hb); have n7_ := Aside0.mk (blk_below (g := gb164) (o := .cells #[.string t161, .bool t162] 23 (0, 0)) (by (with_reducible repeat (first | refine blk_drewN ?_ _ | refine blk_drew ?_ | refine blk_alloc ?_ _)); exact BK164.out) hb); have n8_ := Aside0.mk (below_step (by repeat (first | (with_reducible first | exact HB.out | apply below_alloc | apply pw_below_drewN | apply below_drew1 | refine below_set ?_ GE145.out | refine below_set ?_ GE146.out | refine below_set ?_ GE160.out | refine below_set ?_ GE164.out) | exact HB.out)) hb); clear HO151; clear HO156; clear HO170; clear HO177; clear BK145; clear BK146; clear BK160; clear BK164; clear HB; have HO151 := n0_; have HO156 := n1_; have HO170 := n2_; have HO177 := n3_; have BK145 := n4_; have BK146 := n5_; have BK160 := n6_; have BK164 := n7_; have HB := n8_; clear n0_ n1_ n2_ n3_ n4_ n5_ n6_ n7_ n8_; (try clear hb); (try clear hb2); (try clear hk); (try clear hi)))
                                        go_ret
                                        exact ⟨by first | rfl | (simp [errW_none, errW_some] <;> rfl) | (simp [*, errW_none, errW_some] <;> rfl), by repeat (first | (with_reducible first | exact HB.out | apply below_alloc | apply pw_below_drewN | apply below_drew1 | refine below_set ?_ GE145.out | refine below_set ?_ GE146.out | refine below_set ?_ GE160.out | refine below_set ?_ GE164.out) | exact HB.out)⟩
                                    · replace c29 := Bool.eq_false_iff.mpr c29
                                      subst c29
                                      have H1 : (none) = some r := by rw [if_neg (show ¬ (false = true) by decide)] at H; exact H
                                      clear H
                                      have H := H1
                                      clear H1
                                      exact absurd H (by simp)
                                  · replace c27 := Bool.eq_false_iff.mpr c27
                                    subst c27
                                    have H1 : (none) = some r := by rw [if_neg (show ¬ (false = true) by decide)] at H; exact H
                                    clear H
                                    have H := H1
                                    clear H1
                                    exact absurd H (by simp)
                              · replace c23 := Bool.eq_false_iff.mpr c23
                                subst c23
                                have H1 : (none) = some r := by rw [if_neg (show ¬ (false = true) by decide)] at H; exact H
                                clear H
                                have H := H1
                                clear H1
                                exact absurd H (by simp)
                            · rw [if_neg c21] at H
                              exact absurd H (by simp)
                          · rw [if_neg c19] at H
                            exact absurd H (by simp)
                        · rw [if_neg c17] at H
                          exact absurd H (by simp)
                      · rw [if_neg c16] at H
                        exact absurd H (by simp)
                    · rw [if_neg c15] at H
                      exact absurd H (by simp)
                  · rw [if_neg c14] at H
                    exact absurd H (by simp)
                · replace c13 := Bool.eq_false_iff.mpr c13
                  subst c13
                  have H1 : (none) = some r := by rw [if_neg (show ¬ (false = true) by decide)] at H; exact H
                  clear H
                  have H := H1
                  clear H1
                  exact absurd H (by simp)
              · rw [if_neg c12] at H
                exact absurd H (by simp)
          · replace c10 := Bool.eq_false_iff.mpr c10
            subst c10
            have H1 : (none) = some r := by rw [if_neg (show ¬ (false = true) by decide)] at H; exact H
            clear H
            have H := H1
            clear H1
            exact absurd H (by simp)
        · rw [if_neg c8] at H
          exact absurd H (by simp)
      · rw [if_neg c7] at H
        exact absurd H (by simp)
    · rw [if_neg c6] at H
      exact absurd H (by simp)
  · rw [if_neg c5] at H
    exact absurd H (by simp)

/-! ### mandolineref05_Right: function 14 -/
mutual
def mandolineref05_Right.j0 : Nat → Bool → ByteArray → Bool → Option (Bool)
  | 0, _, _, _ => none
  | k + 1, x14, x182000, x182001 => if x14 = true then (some false) else (mandolineref05_Right.l0 k 0 x182000 x182001)
def mandolineref05_Right.l0 : Nat → Int → ByteArray → Bool → Option (Bool)
  | 0, _, _, _ => none
  | k + 1, x3, x182000, x182001 => if x3 < (x182000.size : Int) then (if 0 ≤ x3 then (if (bt x182000 x3) < 33 then (some false) else (if (bt x182000 x3) = 34 then (some false) else (if (bt x182000 x3) > 126 then (some false) else (mandolineref05_Right.l0 k (wrap64 (x3 + 1)) x182000 x182001)))) else (none)) else (some true)
end
def mandolineref05_Right.f (k : Nat) (a0_0 : ByteArray) (a0_1 : Bool) : Option (Bool) := if (a0_0.size : Int) < 1 then (mandolineref05_Right.j0 k true a0_0 a0_1) else (mandolineref05_Right.j0 k (decide ((a0_0.size : Int) > 100)) a0_0 a0_1)
theorem mandolineref05_Right.mono_l : ∀ k, (∀ y0 y1 y2, LeO (mandolineref05_Right.j0 k y0 y1 y2) (mandolineref05_Right.j0 (k + 1) y0 y1 y2)) ∧ (∀ y0 y1 y2, LeO (mandolineref05_Right.l0 k y0 y1 y2) (mandolineref05_Right.l0 (k + 1) y0 y1 y2))
  | 0 => ⟨fun _ _ _ r h => by simp [mandolineref05_Right.j0] at h, fun _ _ _ r h => by simp [mandolineref05_Right.l0] at h⟩
  | k + 1 => by
    obtain ⟨ih0, ih1⟩ := mandolineref05_Right.mono_l k
    refine ⟨?_, ?_⟩
    · intro y0 y1 y2
      unfold mandolineref05_Right.j0
      repeat' first
      | (with_reducible exact ih0 _ _ _)
      | (with_reducible exact ih1 _ _ _)
      | (with_reducible exact LeO.refl _)
      | (with_reducible exact LeO.none _)
      | (with_reducible refine LeO.ite ?_ ?_)
      | (with_reducible refine LeO.bind ?_ (fun _ => ?_))
      | exact ih0 _ _ _
      | exact ih1 _ _ _
      | exact LeO.none _
      | refine LeO.ite ?_ ?_
      | refine LeO.bind ?_ (fun _ => ?_)
    · intro y0 y1 y2
      unfold mandolineref05_Right.l0
      repeat' first
      | (with_reducible exact ih0 _ _ _)
      | (with_reducible exact ih1 _ _ _)
      | (with_reducible exact LeO.refl _)
      | (with_reducible exact LeO.none _)
      | (with_reducible refine LeO.ite ?_ ?_)
      | (with_reducible refine LeO.bind ?_ (fun _ => ?_))
      | exact ih0 _ _ _
      | exact ih1 _ _ _
      | exact LeO.none _
      | refine LeO.ite ?_ ?_
      | refine LeO.bind ?_ (fun _ => ?_)
theorem mandolineref05_Right.mono : ∀ a0 a1 k, LeO (mandolineref05_Right.f k a0 a1) (mandolineref05_Right.f (k + 1) a0 a1) := by
  intro a0 a1 k
  obtain ⟨ih0, ih1⟩ := mandolineref05_Right.mono_l k
  unfold mandolineref05_Right.f
  repeat' first
      | (with_reducible exact ih0 _ _ _)
      | (with_reducible exact ih1 _ _ _)
      | (with_reducible exact LeO.refl _)
      | (with_reducible exact LeO.none _)
      | (with_reducible refine LeO.ite ?_ ?_)
      | (with_reducible refine LeO.bind ?_ (fun _ => ?_))
      | exact ih0 _ _ _
      | exact ih1 _ _ _
      | exact LeO.none _
      | refine LeO.ite ?_ ?_
      | refine LeO.bind ?_ (fun _ => ?_)
set_option maxHeartbeats 8000000 in
set_option maxRecDepth 100000 in
theorem mandolineref05_Right.calls (k : Nat) (a0_0 : ByteArray) (a0_1 : Bool) (r : Bool) (w : World) (h : mandolineref05_Right.f k a0_0 a0_1 = some r) :
    Calls Tryd.prog 14 #[.agg #[.string a0_0, .bool a0_1]] w fun e w' => e = .returned (.bool r) ∧ Below w.heap.size w w' := by
  have hu23 := Tryd.underlying23
  have HB := Aside0.mk (Below.refl w.heap.size w)
  have H : (if (a0_0.size : Int) < 1 then (mandolineref05_Right.j0 k true a0_0 a0_1) else (mandolineref05_Right.j0 k (decide ((a0_0.size : Int) > 100)) a0_0 a0_1)) = some r := h
  clear h
  have HC2 := Aside0.mk H
  clear H
  go_enter Tryd.func14, Tryd.ntmps14
  go_upto_region 1 with (first | ((with_reducible refine gate_dst (N := 1) rfl ?_); (try (refine gate_guard (by rfl) ?_; dsimp only)); refine box_event ?hg (N := 1) ?hd (cs := #[.string a0_0, .bool a0_1]) (t := 23) ?hr ?_; (case hd => rfl); (case hg => rfl); (case hr => first | (go_simp; done) | (go_simp; rfl)); intro gb181 hg w3 hbox hb; have n0_ := Aside0.mk (below_step (by repeat (first | (with_reducible first | exact HB.out | apply below_alloc | apply pw_below_drewN | apply below_drew1) | exact HB.out)) hb); have n1_ := Aside0.mk (hbox); have n2_ := Aside0.mk ((by rw [hg]; exact (below_size (by repeat (first | (with_reducible first | exact HB.out | apply below_alloc | apply pw_below_drewN | apply below_drew1) | exact HB.out))) : w.heap.size ≤ gb181)); have n3_ := Aside0.mk ((by rw [hg]; exact (below_size (by repeat (first | (with_reducible first | exact HB.out | apply below_alloc | apply pw_below_drewN | apply below_drew1) | exact HB.out))) : w.heap.size ≤ gb181)); clear HB; have HB := n0_; have BK181 := n1_; have GW181 := n2_; have GE181 := n3_; clear n0_ n1_ n2_ n3_; clear hb hbox hg))
  (try simp only [Act.put, List.setIfInBounds_toArray, List.set_cons_zero, List.set_cons_succ])
  go_cut [14] (fun v14 wc => ∃ (kq : Nat) (x14_1 : Bool), v14 = .bool x14_1 ∧ Aside0 (mandolineref05_Right.j0 kq x14_1 a0_0 a0_1 = some r) ∧ Aside0 (kq ≤ k) ∧ Aside0 (wc.heap[gb181]? = some (.cells #[.string a0_0, .bool a0_1] 23 (0, 0))) ∧ Aside0 (Below w.heap.size w wc))
  case first =>
    have H := HC2.out
    clear HC2
    by_cases c4 : (a0_0.size : Int) < 1
    · rw [if_pos c4] at H
      have c4b0 : decide ((a0_0.size : Int) < 1) = true := decide_eq_true c4
      have c4b1 : decide (a0_0.size < 1) = true := decide_eq_true (by omega)
      clear c4
      (first | rw [c4b0] | (simp only [i64_w, i32_w]; rw [c4b0]) | skip)
      have H' := Aside0.mk H
      clear H
      have hcz5_0 : w3.cell? ⟨gb181, 0, none⟩ = some (.string a0_0) := (blk_cell BK181.out 0).trans rfl
      have hcz5_1 : w3.cell? ⟨gb181, 1, none⟩ = some (.bool a0_1) := (blk_cell BK181.out 1).trans rfl
      have hfz5_0 := blk_frozen BK181.out 0
      have hfz5_1 := blk_frozen BK181.out 1
      go_wp2
      go_meet
      case rel => exact ⟨_, (true), (by first | rfl | (simp; done) | (simp [*]; done)), H', ⟨by first | omega | exact Nat.le_refl _⟩, ⟨by (with_reducible repeat (first | refine blk_drewN ?_ _ | refine blk_drew ?_ | refine blk_alloc ?_ _)); exact BK181.out⟩, ⟨by repeat (first | (with_reducible first | exact HB.out | apply below_alloc | apply pw_below_drewN | apply below_drew1 | refine below_set ?_ GE181.out) | exact HB.out)⟩⟩
    · rw [if_neg c4] at H
      have c4b0 : decide ((a0_0.size : Int) < 1) = false := decide_eq_false c4
      have c4b1 : decide (a0_0.size < 1) = false := decide_eq_false (by omega)
      clear c4
      (first | rw [c4b0] | (simp only [i64_w, i32_w]; rw [c4b0]) | skip)
      have H' := Aside0.mk H
      clear H
      have hcz6_0 : w3.cell? ⟨gb181, 0, none⟩ = some (.string a0_0) := (blk_cell BK181.out 0).trans rfl
      have hcz6_1 : w3.cell? ⟨gb181, 1, none⟩ = some (.bool a0_1) := (blk_cell BK181.out 1).trans rfl
      have hfz6_0 := blk_frozen BK181.out 0
      have hfz6_1 := blk_frozen BK181.out 1
      go_wp2
      go_meet
      case rel => exact ⟨_, (decide ((a0_0.size : Int) > 100)), (by first | rfl | (simp; done) | (simp [*]; done)), H', ⟨by first | omega | exact Nat.le_refl _⟩, ⟨by (with_reducible repeat (first | refine blk_drewN ?_ _ | refine blk_drew ?_ | refine blk_alloc ?_ _)); exact BK181.out⟩, ⟨by repeat (first | (with_reducible first | exact HB.out | apply below_alloc | apply pw_below_drewN | apply below_drew1 | refine below_set ?_ GE181.out) | exact HB.out)⟩⟩
  case rest =>
    clear HC2
    try clear c1
    try clear p2
    try clear c4
    try clear c4b0
    try clear c4b1
    try clear hcz5_0
    try clear hcz5_1
    try clear hcz6_0
    try clear hcz6_1
    try clear hfz5_0
    try clear hfz5_1
    try clear hfz6_0
    try clear hfz6_1
    obtain ⟨kq, x14_1, rfl, HA, HJ1, BK181, HB⟩ := hcut
    cases kq with
    | zero => exact absurd HA.out (by simp [mandolineref05_Right.j0])
    | succ kj1 =>
      have H := HA.out
      clear HA
      simp only [mandolineref05_Right.j0] at H
      by_cases c7 : x14_1 = true
      · subst c7
        have H1 : (some false) = some r := by rw [if_pos rfl] at H; exact H
        clear H
        have H := H1
        clear H1
        obtain rfl := Option.some.inj H
        go_wp2
        go_ret
        exact ⟨by first | rfl | (simp [errW_none, errW_some] <;> rfl) | (simp [*, errW_none, errW_some] <;> rfl), by repeat (first | (with_reducible first | exact HB.out | apply below_alloc | apply pw_below_drewN | apply below_drew1 | refine below_set ?_ GE181.out) | exact HB.out)⟩
      · replace c7 := Bool.eq_false_iff.mpr c7
        subst c7
        have H1 : (mandolineref05_Right.l0 kj1 0 a0_0 a0_1) = some r := by rw [if_neg (show ¬ (false = true) by decide)] at H; exact H
        clear H
        have H := H1
        clear H1
        have H' := Aside0.mk H
        clear H
        go_wp2
        go_loopg [3] kj1 (fun kq v3 w' => ∃ (x3_2 : Int), v3 = .int .i64 x3_2 ∧ Aside0 (mandolineref05_Right.l0 kq x3_2 a0_0 a0_1 = some r) ∧ Aside0 (kq ≤ kj1) ∧ Aside0 (w'.heap[gb181]? = some (.cells #[.string a0_0, .bool a0_1] 23 (0, 0))) ∧ Aside0 (Below w.heap.size w w'))
        case atStart => exact ⟨(0), (by first | rfl | (simp; done) | (simp [*]; done)), H', ⟨Nat.le_refl _⟩, ⟨by (with_reducible repeat (first | refine blk_drewN ?_ _ | refine blk_drew ?_ | refine blk_alloc ?_ _)); exact BK181.out⟩, ⟨by repeat (first | (with_reducible first | exact HB.out | apply below_alloc | apply pw_below_drewN | apply below_drew1 | refine below_set ?_ GE181.out) | exact HB.out)⟩⟩
        case round =>
          clear H'
          try clear c1
          try clear p2
          try clear c4
          try clear c4b0
          try clear c4b1
          try clear c7
          try clear hcz5_0
          try clear hcz5_1
          try clear hcz6_0
          try clear hcz6_1
          try clear hfz5_0
          try clear hfz5_1
          try clear hfz6_0
          try clear hfz6_1
          try clear p2
          obtain ⟨x3_2, rfl, HA, HK2, BK181, HB⟩ := hrel
          cases gk with
          | zero => exact absurd HA.out (by simp [mandolineref05_Right.l0])
          | succ k2 =>
            have H := HA.out
            clear HA
            simp only [mandolineref05_Right.l0] at H
            by_cases c8 : x3_2 < (a0_0.size : Int)
            · rw [if_pos c8] at H
              have c8b0 : decide (x3_2 < (a0_0.size : Int)) = true := decide_eq_true c8
              clear c8
              by_cases c9 : 0 ≤ x3_2
              · rw [if_pos c9] at H
                have c9b0 : decide (0 ≤ x3_2) = true := decide_eq_true c9
                clear c9
                by_cases c11 : (bt a0_0 x3_2) < 33
                · rw [if_pos c11] at H
                  have c11b0 : decide ((bt a0_0 x3_2) < 33) = true := decide_eq_true c11
                  clear c11
                  obtain rfl := Option.some.inj H
                  have hcz12_0 : wr.cell? ⟨gb181, 0, none⟩ = some (.string a0_0) := (blk_cell BK181.out 0).trans rfl
                  have hcz12_1 : wr.cell? ⟨gb181, 1, none⟩ = some (.bool a0_1) := (blk_cell BK181.out 1).trans rfl
                  have hfz12_0 := blk_frozen BK181.out 0
                  have hfz12_1 := blk_frozen BK181.out 1
                  have p10 : 0 ≤ (x3_2 : Int) := of_decide_eq_true (by first | (with_reducible assumption) | assumption)
                  have q10 : x3_2 < (a0_0.size : Int) := of_decide_eq_true (by first | (with_reducible assumption) | assumption)
                  have hx10 := bt_at a0_0 x3_2
                  replace p10 := eq_true p10
                  replace q10 := eq_true q10
                  go_wp2
                  go_ret
                  exact ⟨by first | rfl | (simp [errW_none, errW_some] <;> rfl) | (simp [*, errW_none, errW_some] <;> rfl), by repeat (first | (with_reducible first | exact HB.out | apply below_alloc | apply pw_below_drewN | apply below_drew1 | refine below_set ?_ GE181.out) | exact HB.out)⟩
                · rw [if_neg c11] at H
                  have c11b0 : decide ((bt a0_0 x3_2) < 33) = false := decide_eq_false c11
                  clear c11
                  by_cases c13 : (bt a0_0 x3_2) = 34
                  · rw [if_pos c13] at H
                    have c13b0 : ((bt a0_0 x3_2) == 34) = true := beq_iff_eq.mpr c13
                    have c13b1 : ((bt a0_0 x3_2) != 34) = false := bne_eq_false_iff_eq.mpr c13
                    clear c13
                    obtain rfl := Option.some.inj H
                    have hcz14_0 : wr.cell? ⟨gb181, 0, none⟩ = some (.string a0_0) := (blk_cell BK181.out 0).trans rfl
                    have hcz14_1 : wr.cell? ⟨gb181, 1, none⟩ = some (.bool a0_1) := (blk_cell BK181.out 1).trans rfl
                    have hfz14_0 := blk_frozen BK181.out 0
                    have hfz14_1 := blk_frozen BK181.out 1
                    have p10 : 0 ≤ (x3_2 : Int) := of_decide_eq_true (by first | (with_reducible assumption) | assumption)
                    have q10 : x3_2 < (a0_0.size : Int) := of_decide_eq_true (by first | (with_reducible assumption) | assumption)
                    have hx10 := bt_at a0_0 x3_2
                    replace p10 := eq_true p10
                    replace q10 := eq_true q10
                    go_wp2
                    go_ret
                    exact ⟨by first | rfl | (simp [errW_none, errW_some] <;> rfl) | (simp [*, errW_none, errW_some] <;> rfl), by repeat (first | (with_reducible first | exact HB.out | apply below_alloc | apply pw_below_drewN | apply below_drew1 | refine below_set ?_ GE181.out) | exact HB.out)⟩
                  · rw [if_neg c13] at H
                    have c13b0 : ((bt a0_0 x3_2) == 34) = false := beq_eq_false_iff_ne.mpr c13
                    have c13b1 : ((bt a0_0 x3_2) != 34) = true := bne_iff_ne.mpr c13
                    by_cases c15 : (bt a0_0 x3_2) > 126
                    · rw [if_pos c15] at H
                      have c15b0 : decide (126 < (bt a0_0 x3_2)) = true := decide_eq_true c15
                      clear c15
                      obtain rfl := Option.some.inj H
                      have hcz16_0 : wr.cell? ⟨gb181, 0, none⟩ = some (.string a0_0) := (blk_cell BK181.out 0).trans rfl
                      have hcz16_1 : wr.cell? ⟨gb181, 1, none⟩ = some (.bool a0_1) := (blk_cell BK181.out 1).trans rfl
                      have hfz16_0 := blk_frozen BK181.out 0
                      have hfz16_1 := blk_frozen BK181.out 1
                      have p10 : 0 ≤ (x3_2 : Int) := of_decide_eq_true (by first | (with_reducible assumption) | assumption)
                      have q10 : x3_2 < (a0_0.size : Int) := of_decide_eq_true (by first | (with_reducible assumption) | assumption)
                      have hx10 := bt_at a0_0 x3_2
                      replace p10 := eq_true p10
                      replace q10 := eq_true q10
                      go_wp2
                      go_ret
                      exact ⟨by first | rfl | (simp [errW_none, errW_some] <;> rfl) | (simp [*, errW_none, errW_some] <;> rfl), by repeat (first | (with_reducible first | exact HB.out | apply below_alloc | apply pw_below_drewN | apply below_drew1 | refine below_set ?_ GE181.out) | exact HB.out)⟩
                    · rw [if_neg c15] at H
                      have c15b0 : decide (126 < (bt a0_0 x3_2)) = false := decide_eq_false c15
                      clear c15
                      have H' := Aside0.mk H
                      clear H
                      have hcz17_0 : wr.cell? ⟨gb181, 0, none⟩ = some (.string a0_0) := (blk_cell BK181.out 0).trans rfl
                      have hcz17_1 : wr.cell? ⟨gb181, 1, none⟩ = some (.bool a0_1) := (blk_cell BK181.out 1).trans rfl
                      have hfz17_0 := blk_frozen BK181.out 0
                      have hfz17_1 := blk_frozen BK181.out 1
                      have p10 : 0 ≤ (x3_2 : Int) := of_decide_eq_true (by first | (with_reducible assumption) | assumption)
                      have q10 : x3_2 < (a0_0.size : Int) := of_decide_eq_true (by first | (with_reducible assumption) | assumption)
                      have hx10 := bt_at a0_0 x3_2
                      replace p10 := eq_true p10
                      replace q10 := eq_true q10
                      go_wp2
                      go_roundg k2
                      case measure => have := HJ1.out; have := HK2.out; omega
                      case rel => exact ⟨(wrap64 (x3_2 + 1)), (by first | rfl | (simp; done) | (simp [*]; done)), H', ⟨by have := HJ1.out; have := HK2.out; omega⟩, ⟨by (with_reducible repeat (first | refine blk_drewN ?_ _ | refine blk_drew ?_ | refine blk_alloc ?_ _)); exact BK181.out⟩, ⟨by repeat (first | (with_reducible first | exact HB.out | apply below_alloc | apply pw_below_drewN | apply below_drew1 | refine below_set ?_ GE181.out) | exact HB.out)⟩⟩
              · rw [if_neg c9] at H
                exact absurd H (by simp)
            · rw [if_neg c8] at H
              have c8b0 : decide (x3_2 < (a0_0.size : Int)) = false := decide_eq_false c8
              clear c8
              obtain rfl := Option.some.inj H
              have hcz18_0 : wr.cell? ⟨gb181, 0, none⟩ = some (.string a0_0) := (blk_cell BK181.out 0).trans rfl
              have hcz18_1 : wr.cell? ⟨gb181, 1, none⟩ = some (.bool a0_1) := (blk_cell BK181.out 1).trans rfl
              have hfz18_0 := blk_frozen BK181.out 0
              have hfz18_1 := blk_frozen BK181.out 1
              go_wp2
              go_ret
              exact ⟨by first | rfl | (simp [errW_none, errW_some] <;> rfl) | (simp [*, errW_none, errW_some] <;> rfl), by repeat (first | (with_reducible first | exact HB.out | apply below_alloc | apply pw_below_drewN | apply below_drew1 | refine below_set ?_ GE181.out) | exact HB.out)⟩

/-! ### mandolineref05_blank: function 44 -/
def mandolineref05_blank.f (a0 : Int) : Option (Bool) := if a0 = 32 then (some true) else (some (a0 == 9))
set_option maxHeartbeats 8000000 in
set_option maxRecDepth 100000 in
theorem mandolineref05_blank.calls (a0 : Int) (r : Bool) (w : World) (h : mandolineref05_blank.f a0 = some r) :
    Calls Tryd.prog 44 #[.int .u8 a0] w fun e w' => e = .returned (.bool r) ∧ Drawn0 w w' := by
  have H : (if a0 = 32 then (some true) else (some (a0 == 9))) = some r := h
  clear h
  by_cases c2 : a0 = 32
  · rw [if_pos c2] at H
    have c2b0 : (a0 == 32) = true := beq_iff_eq.mpr c2
    have c2b1 : (a0 != 32) = false := bne_eq_false_iff_eq.mpr c2
    clear c2
    obtain rfl := Option.some.inj H
    go_enter Tryd.func44, Tryd.ntmps44
    go_wp2
    go_ret
    exact ⟨by first | rfl | (simp; done) | (simp [*]; done), by repeat (first | exact Drawn0.refl _ | apply Drawn0.step)⟩
  · rw [if_neg c2] at H
    have c2b0 : (a0 == 32) = false := beq_eq_false_iff_ne.mpr c2
    have c2b1 : (a0 != 32) = true := bne_iff_ne.mpr c2
    obtain rfl := Option.some.inj H
    go_enter Tryd.func44, Tryd.ntmps44
    go_wp2
    go_ret
    exact ⟨by first | rfl | (simp; done) | (simp [*]; done), by repeat (first | exact Drawn0.refl _ | apply Drawn0.step)⟩

end Go.Proofs.YtbgbbpmbmccgiaaDoor.X
