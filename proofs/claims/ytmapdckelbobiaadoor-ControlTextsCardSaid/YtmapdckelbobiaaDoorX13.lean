-- Printed by a program of this session (pp.py: the kit's print.py, run with contracts of its own) out of the translation. Not trusted: Lean checks it.
import Derived.Test.YtmapdckelbobiaaDoorX0
import Derived.Test.YtmapdckelbobiaaDoorX10
import Derived.Test.YtmapdckelbobiaaDoorX12
namespace Go.Proofs.YtmapdckelbobiaaDoor.X
open Go.RowKit Go.Proofs.YtmapdckelbobiaaDoorW.PrintWords Go.Proofs.YtmapdckelbobiaaDoorW.PrintLast Go.Proofs.YtmapdckelbobiaaDoorW.PrintMore
attribute [local go_sem] max2_int min2_int max_two min_two max_three min_three max_four min_four   -- for this text's walks alone
set_option linter.unusedVariables false
set_option linter.unusedSimpArgs false

/-! ### mandolineref09_Parse: function 15 -/
mutual
def mandolineref09_Parse.l0 : Nat → List ByteArray → Int → Int → Int → Int → Int → Bool → Bool → Bool → Option (Int × Int × Int × Int × Bool × Bool × Bool)
  | 0, _, _, _, _, _, _, _, _, _ => none
  | k + 1, x0, x4, x213000, x213001, x213002, x213003, x213004, x213005, x213006 => if x4 < (x0.length : Int) then (if 0 ≤ x4 then ((mandolineref09_parts.f k (rdOf ByteArray.empty x0 x4)).bind fun t214 => (mandolineref09_Parse.l1 k x0 x4 t214 0 x213000 x213001 x213002 x213003 x213004 x213005 x213006)) else (none)) else (some (x213000, x213001, x213002, x213003, x213004, x213005, x213006))
def mandolineref09_Parse.l1 : Nat → List ByteArray → Int → List ByteArray → Int → Int → Int → Int → Int → Bool → Bool → Bool → Option (Int × Int × Int × Int × Bool × Bool × Bool)
  | 0, _, _, _, _, _, _, _, _, _, _, _ => none
  | k + 1, x0, x4, x5, x6, x213000, x213001, x213002, x213003, x213004, x213005, x213006 => if x6 < (x5.length : Int) then (if 0 ≤ x6 then ((mandolineref09_one.f k x213000 x213001 x213002 x213003 x213004 x213005 x213006 (rdOf ByteArray.empty x5 x6)).bind fun bt218 => (mandolineref09_Parse.l1 k x0 x4 x5 (wrap64 (x6 + 1)) bt218.1 bt218.2.1 bt218.2.2.1 bt218.2.2.2.1 bt218.2.2.2.2.1 bt218.2.2.2.2.2.1 bt218.2.2.2.2.2.2)) else (none)) else (mandolineref09_Parse.l0 k x0 (wrap64 (x4 + 1)) x213000 x213001 x213002 x213003 x213004 x213005 x213006)
end
def mandolineref09_Parse.f (k : Nat) (l0 : List ByteArray) : Option (Int × Int × Int × Int × Bool × Bool × Bool) := mandolineref09_Parse.l0 k l0 0 (-1) (-1) (-1) (-1) false false false
theorem mandolineref09_Parse.mono_l : ∀ k, (∀ y0 y1 y2 y3 y4 y5 y6 y7 y8, LeO (mandolineref09_Parse.l0 k y0 y1 y2 y3 y4 y5 y6 y7 y8) (mandolineref09_Parse.l0 (k + 1) y0 y1 y2 y3 y4 y5 y6 y7 y8)) ∧ (∀ y0 y1 y2 y3 y4 y5 y6 y7 y8 y9 y10, LeO (mandolineref09_Parse.l1 k y0 y1 y2 y3 y4 y5 y6 y7 y8 y9 y10) (mandolineref09_Parse.l1 (k + 1) y0 y1 y2 y3 y4 y5 y6 y7 y8 y9 y10))
  | 0 => ⟨fun _ _ _ _ _ _ _ _ _ r h => by simp [mandolineref09_Parse.l0] at h, fun _ _ _ _ _ _ _ _ _ _ _ r h => by simp [mandolineref09_Parse.l1] at h⟩
  | k + 1 => by
    obtain ⟨ih0, ih1⟩ := mandolineref09_Parse.mono_l k
    refine ⟨?_, ?_⟩
    · intro y0 y1 y2 y3 y4 y5 y6 y7 y8
      unfold mandolineref09_Parse.l0
      repeat' first
      | (with_reducible exact ih0 _ _ _ _ _ _ _ _ _)
      | (with_reducible exact ih1 _ _ _ _ _ _ _ _ _ _ _)
      | (with_reducible exact mandolineref09_one.mono _ _ _ _ _ _ _ _ _)
      | (with_reducible exact mandolineref09_parts.mono _ _)
      | (with_reducible exact LeO.refl _)
      | (with_reducible exact LeO.none _)
      | (with_reducible refine LeO.ite ?_ ?_)
      | (with_reducible refine LeO.bind ?_ (fun _ => ?_))
      | exact ih0 _ _ _ _ _ _ _ _ _
      | exact ih1 _ _ _ _ _ _ _ _ _ _ _
      | exact mandolineref09_one.mono _ _ _ _ _ _ _ _ _
      | exact mandolineref09_parts.mono _ _
      | exact LeO.none _
      | refine LeO.ite ?_ ?_
      | refine LeO.bind ?_ (fun _ => ?_)
    · intro y0 y1 y2 y3 y4 y5 y6 y7 y8 y9 y10
      unfold mandolineref09_Parse.l1
      repeat' first
      | (with_reducible exact ih0 _ _ _ _ _ _ _ _ _)
      | (with_reducible exact ih1 _ _ _ _ _ _ _ _ _ _ _)
      | (with_reducible exact mandolineref09_one.mono _ _ _ _ _ _ _ _ _)
      | (with_reducible exact mandolineref09_parts.mono _ _)
      | (with_reducible exact LeO.refl _)
      | (with_reducible exact LeO.none _)
      | (with_reducible refine LeO.ite ?_ ?_)
      | (with_reducible refine LeO.bind ?_ (fun _ => ?_))
      | exact ih0 _ _ _ _ _ _ _ _ _
      | exact ih1 _ _ _ _ _ _ _ _ _ _ _
      | exact mandolineref09_one.mono _ _ _ _ _ _ _ _ _
      | exact mandolineref09_parts.mono _ _
      | exact LeO.none _
      | refine LeO.ite ?_ ?_
      | refine LeO.bind ?_ (fun _ => ?_)
theorem mandolineref09_Parse.mono : ∀ a0 k, LeO (mandolineref09_Parse.f k a0) (mandolineref09_Parse.f (k + 1) a0) := by
  intro a0 k
  obtain ⟨ih0, ih1⟩ := mandolineref09_Parse.mono_l k
  unfold mandolineref09_Parse.f
  repeat' first
      | (with_reducible exact ih0 _ _ _ _ _ _ _ _ _)
      | (with_reducible exact ih1 _ _ _ _ _ _ _ _ _ _ _)
      | (with_reducible exact mandolineref09_one.mono _ _ _ _ _ _ _ _ _)
      | (with_reducible exact mandolineref09_parts.mono _ _)
      | (with_reducible exact LeO.refl _)
      | (with_reducible exact LeO.none _)
      | (with_reducible refine LeO.ite ?_ ?_)
      | (with_reducible refine LeO.bind ?_ (fun _ => ?_))
      | exact ih0 _ _ _ _ _ _ _ _ _
      | exact ih1 _ _ _ _ _ _ _ _ _ _ _
      | exact mandolineref09_one.mono _ _ _ _ _ _ _ _ _
      | exact mandolineref09_parts.mono _ _
      | exact LeO.none _
      | refine LeO.ite ?_ ?_
      | refine LeO.bind ?_ (fun _ => ?_)
set_option maxHeartbeats 8000000 in
set_option maxRecDepth 100000 in
theorem mandolineref09_Parse.calls (k : Nat) (A0 : Option Addr) (c0 : Nat) (l0 : List ByteArray) (r1 : Int) (r2 : Int) (r3 : Int) (r4 : Int) (r5 : Bool) (r6 : Bool) (r7 : Bool) (w : World) (hr0 : Kd.C Kd.string w A0 l0.length l0) (hc0 : l0.length ≤ c0) (h : mandolineref09_Parse.f k l0 = some (r1, r2, r3, r4, r5, r6, r7)) :
    Calls Tryd.prog 15 #[.slice A0 l0.length c0] w fun e w' => e = .returned (.agg #[.int .i64 r1, .int .i64 r2, .int .i64 r3, .int .i64 r4, .bool r5, .bool r6, .bool r7]) ∧ Below w.heap.size w w' := by
  have hu29 := Tryd.underlying29
  have HR0 := Aside0.mk hr0
  have HC0 := Aside0.mk hc0
  clear hr0 hc0
  have HB := Aside0.mk (Below.refl w.heap.size w)
  have H : (mandolineref09_Parse.l0 k l0 0 (-1) (-1) (-1) (-1) false false false) = some (r1, r2, r3, r4, r5, r6, r7) := h
  clear h
  have H' := Aside0.mk H
  clear H
  go_enter Tryd.func15, Tryd.ntmps15
  go_wp2_with (first | ((with_reducible refine gate_dst (N := 2) rfl ?_); refine box_event ?hg (N := 2) ?hd (cs := #[.int .i64 0, .int .i64 0, .int .i64 0, .int .i64 0, .bool false, .bool false, .bool false]) (t := 29) ?hr ?_; (case hd => rfl); (case hg => rfl); (case hr => first | (go_simp; done) | (go_simp; rfl)); intro gb211 hg w2 hbox hb; have n0_ := Aside0.mk (below_step (by repeat (first | (with_reducible first | exact HB.out | apply below_alloc | apply pw_below_drewN | apply below_drew1) | exact HB.out)) hb); have n1_ := Aside0.mk (hbox); have n2_ := Aside0.mk ((by rw [hg]; exact (below_size (by repeat (first | (with_reducible first | exact HB.out | apply below_alloc | apply pw_below_drewN | apply below_drew1) | exact HB.out))) : w.heap.size ≤ gb211)); have n3_ := Aside0.mk ((by rw [hg]; exact (below_size (by repeat (first | (with_reducible first | exact HB.out | apply below_alloc | apply pw_below_drewN | apply below_drew1) | exact HB.out))) : w.heap.size ≤ gb211)); clear HB; have HB := n0_; have BK211 := n1_; have GW211 := n2_; have GE211 := n3_; clear n0_ n1_ n2_ n3_; clear hb hbox hg) | ((with_reducible refine gate_dst (N := 3) rfl ?_); refine box_event ?hg (N := 3) ?hd (cs := #[.int .i64 0, .int .i64 0, .int .i64 0, .int .i64 0, .bool false, .bool false, .bool false]) (t := 29) ?hr ?_; (case hd => rfl); (case hg => rfl); (case hr => first | (go_simp; done) | (go_simp; rfl)); intro gb212 hg w3 hbox hb; have n0_ := Aside0.mk (blk_below (g := gb211) (o := .cells #[.int .i64 0, .int .i64 0, .int .i64 0, .int .i64 0, .bool false, .bool false, .bool false] 29 (0, 0)) (by (with_reducible repeat (first | refine blk_drewN ?_ _ | refine blk_drew ?_ | refine blk_alloc ?_ _)); exact BK211.out) hb); have n1_ := Aside0.mk (below_step (by repeat (first | (with_reducible first | exact HB.out | apply below_alloc | apply pw_below_drewN | apply below_drew1 | refine below_set ?_ GE211.out) | exact HB.out)) hb); have n2_ := Aside0.mk (hbox); have n3_ := Aside0.mk ((by rw [hg]; exact (below_size (by repeat (first | (with_reducible first | exact HB.out | apply below_alloc | apply pw_below_drewN | apply below_drew1 | refine below_set ?_ GE211.out) | exact HB.out))) : w.heap.size ≤ gb212)); have n4_ := Aside0.mk ((by rw [hg]; exact (below_size (by repeat (first | (with_reducible first | exact HB.out | apply below_alloc | apply pw_below_drewN | apply below_drew1 | refine below_set ?_ GE211.out) | exact HB.out))) : w.heap.size ≤ gb212)); have n5_ := Aside0.mk ((by rw [hg]; exact Nat.ne_of_lt (blk_lt (g := gb211) (o := .cells #[.int .i64 0, .int .i64 0, .int .i64 0, .int .i64 0, .bool false, .bool false, .bool false] 29 (0, 0)) (by (with_reducible repeat (first | refine blk_drewN ?_ _ | refine blk_drew ?_ | refine blk_alloc ?_ _)); exact BK211.out)) : gb211 ≠ gb212)); have n6_ := Aside0.mk ((by rw [hg]; exact Nat.ne_of_gt (blk_lt (g := gb211) (o := .cells #[.int .i64 0, .int .i64 0, .int .i64 0, .int .i64 0, .bool false, .bool false, .bool false] 29 (0, 0)) (by (with_reducible repeat (first | refine blk_drewN ?_ _ | refine blk_drew ?_ | refine blk_alloc ?_ _)); exact BK211.out)) : gb212 ≠ gb211)); clear BK211; clear HB; have BK211 := n0_; have HB := n1_; have BK212 := n2_; have GW212 := n3_; have GE212 := n4_; have NB211_212 := n5_; have NB212_211 := n6_; clear n0_ n1_ n2_ n3_ n4_ n5_ n6_; clear hb hbox hg; have hnb4 := NB212_211.out; have hnc4 := NB211_212.out; have hcz5_0 : w3.cell? ⟨gb212, 0, none⟩ = some (.int .i64 0) := (blk_cell BK212.out 0).trans rfl; have hcz5_1 : w3.cell? ⟨gb212, 1, none⟩ = some (.int .i64 0) := (blk_cell BK212.out 1).trans rfl; have hcz5_2 : w3.cell? ⟨gb212, 2, none⟩ = some (.int .i64 0) := (blk_cell BK212.out 2).trans rfl; have hcz5_3 : w3.cell? ⟨gb212, 3, none⟩ = some (.int .i64 0) := (blk_cell BK212.out 3).trans rfl; have hcz5_4 : w3.cell? ⟨gb212, 4, none⟩ = some (.bool false) := (blk_cell BK212.out 4).trans rfl; have hcz5_5 : w3.cell? ⟨gb212, 5, none⟩ = some (.bool false) := (blk_cell BK212.out 5).trans rfl; have hcz5_6 : w3.cell? ⟨gb212, 6, none⟩ = some (.bool false) := (blk_cell BK212.out 6).trans rfl; have hfz5_0 := blk_frozen BK212.out 0; have hfz5_1 := blk_frozen BK212.out 1; have hfz5_2 := blk_frozen BK212.out 2; have hfz5_3 := blk_frozen BK212.out 3; have hfz5_4 := blk_frozen BK212.out 4; have hfz5_5 := blk_frozen BK212.out 5; have hfz5_6 := blk_frozen BK212.out 6))
  go_loopg [4] k (fun kq v4 w' => ∃ (x4_1 : Int) (x213000_1 : Int) (x213001_1 : Int) (x213002_1 : Int) (x213003_1 : Int) (x213004_1 : Bool) (x213005_1 : Bool) (x213006_1 : Bool), v4 = .int .i64 x4_1 ∧ Aside0 (mandolineref09_Parse.l0 kq l0 x4_1 x213000_1 x213001_1 x213002_1 x213003_1 x213004_1 x213005_1 x213006_1 = some (r1, r2, r3, r4, r5, r6, r7)) ∧ Aside0 (kq ≤ k) ∧ Aside0 (w'.heap[gb211]? = some (.cells #[.int .i64 0, .int .i64 0, .int .i64 0, .int .i64 0, .bool false, .bool false, .bool false] 29 (0, 0))) ∧ Aside0 (w'.heap[gb212]? = some (.cells #[.int .i64 x213000_1, .int .i64 x213001_1, .int .i64 x213002_1, .int .i64 x213003_1, .bool x213004_1, .bool x213005_1, .bool x213006_1] 29 (0, 0))) ∧ Aside0 (Below w.heap.size w w'))
  case atStart => exact ⟨(0), ((-1)), ((-1)), ((-1)), ((-1)), (false), (false), (false), (by first | rfl | (simp; done) | (simp [*]; done)), H', ⟨Nat.le_refl _⟩, ⟨by (with_reducible repeat (first | refine blk_drewN ?_ _ | refine blk_drew ?_ | refine blk_alloc ?_ _)); refine blk_far ?_ NB211_212.out _; (with_reducible repeat (first | refine blk_drewN ?_ _ | refine blk_drew ?_ | refine blk_alloc ?_ _)); refine blk_far ?_ NB211_212.out _; (with_reducible repeat (first | refine blk_drewN ?_ _ | refine blk_drew ?_ | refine blk_alloc ?_ _)); refine blk_far ?_ NB211_212.out _; (with_reducible repeat (first | refine blk_drewN ?_ _ | refine blk_drew ?_ | refine blk_alloc ?_ _)); refine blk_far ?_ NB211_212.out _; (with_reducible repeat (first | refine blk_drewN ?_ _ | refine blk_drew ?_ | refine blk_alloc ?_ _)); refine blk_far ?_ NB211_212.out _; (with_reducible repeat (first | refine blk_drewN ?_ _ | refine blk_drew ?_ | refine blk_alloc ?_ _)); refine blk_far ?_ NB211_212.out _; (with_reducible repeat (first | refine blk_drewN ?_ _ | refine blk_drew ?_ | refine blk_alloc ?_ _)); refine blk_far ?_ NB211_212.out _; (with_reducible repeat (first | refine blk_drewN ?_ _ | refine blk_drew ?_ | refine blk_alloc ?_ _)); exact BK211.out⟩, ⟨by (with_reducible repeat (first | refine blk_drewN ?_ _ | refine blk_drew ?_ | refine blk_alloc ?_ _)); refine blk_put (cs := #[.int .i64 (-1), .int .i64 (-1), .int .i64 (-1), .int .i64 (-1), .bool false, .bool false, .bool false]) ?_ 6 _ rfl; (with_reducible repeat (first | refine blk_drewN ?_ _ | refine blk_drew ?_ | refine blk_alloc ?_ _)); refine blk_put (cs := #[.int .i64 (-1), .int .i64 (-1), .int .i64 (-1), .int .i64 (-1), .bool false, .bool false, .bool false]) ?_ 5 _ rfl; (with_reducible repeat (first | refine blk_drewN ?_ _ | refine blk_drew ?_ | refine blk_alloc ?_ _)); refine blk_put (cs := #[.int .i64 (-1), .int .i64 (-1), .int .i64 (-1), .int .i64 (-1), .bool false, .bool false, .bool false]) ?_ 4 _ rfl; (with_reducible repeat (first | refine blk_drewN ?_ _ | refine blk_drew ?_ | refine blk_alloc ?_ _)); refine blk_put (cs := #[.int .i64 (-1), .int .i64 (-1), .int .i64 (-1), .int .i64 0, .bool false, .bool false, .bool false]) ?_ 3 _ rfl; (with_reducible repeat (first | refine blk_drewN ?_ _ | refine blk_drew ?_ | refine blk_alloc ?_ _)); refine blk_put (cs := #[.int .i64 (-1), .int .i64 (-1), .int .i64 0, .int .i64 0, .bool false, .bool false, .bool false]) ?_ 2 _ rfl; (with_reducible repeat (first | refine blk_drewN ?_ _ | refine blk_drew ?_ | refine blk_alloc ?_ _)); refine blk_put (cs := #[.int .i64 (-1), .int .i64 0, .int .i64 0, .int .i64 0, .bool false, .bool false, .bool false]) ?_ 1 _ rfl; (with_reducible repeat (first | refine blk_drewN ?_ _ | refine blk_drew ?_ | refine blk_alloc ?_ _)); refine blk_put (cs := #[.int .i64 0, .int .i64 0, .int .i64 0, .int .i64 0, .bool false, .bool false, .bool false]) ?_ 0 _ rfl; (with_reducible repeat (first | refine blk_drewN ?_ _ | refine blk_drew ?_ | refine blk_alloc ?_ _)); exact BK212.out⟩, ⟨by repeat (first | (with_reducible first | exact HB.out | apply below_alloc | apply pw_below_drewN | apply below_drew1 | refine below_set ?_ GE211.out | refine below_set ?_ GE212.out) | exact HB.out)⟩⟩
  case round =>
    clear H'
    try clear c1
    try clear p2
    try clear c4
    try clear hcz5_0
    try clear hcz5_1
    try clear hcz5_2
    try clear hcz5_3
    try clear hcz5_4
    try clear hcz5_5
    try clear hcz5_6
    try clear hfz5_0
    try clear hfz5_1
    try clear hfz5_2
    try clear hfz5_3
    try clear hfz5_4
    try clear hfz5_5
    try clear hfz5_6
    obtain ⟨x4_1, x213000_1, x213001_1, x213002_1, x213003_1, x213004_1, x213005_1, x213006_1, rfl, HA, HK1, BK211, BK212, HB⟩ := hrel
    cases gk with
    | zero => exact absurd HA.out (by simp [mandolineref09_Parse.l0])
    | succ k1 =>
      have H := HA.out
      clear HA
      simp only [mandolineref09_Parse.l0] at H
      by_cases c6 : x4_1 < (l0.length : Int)
      · rw [if_pos c6] at H
        have c6b0 : decide (x4_1 < (l0.length : Int)) = true := decide_eq_true c6
        clear c6
        by_cases c7 : 0 ≤ x4_1
        · rw [if_pos c7] at H
          have c7b0 : decide (0 ≤ x4_1) = true := decide_eq_true c7
          clear c7
          replace H := Option.bind_eq_some_iff.mp H
          obtain ⟨t214, A80, H⟩ := H
          replace H : (mandolineref09_Parse.l1 k1 l0 x4_1 t214 0 x213000_1 x213001_1 x213002_1 x213003_1 x213004_1 x213005_1 x213006_1) = some (r1, r2, r3, r4, r5, r6, r7) := H
          have A8 := Aside0.mk A80
          clear A80
          have H' := Aside0.mk H
          clear H
          have p213 : 0 ≤ (x4_1 : Int) := of_decide_eq_true (by first | (with_reducible assumption) | assumption)
          have q213 : x4_1 < (l0.length : Int) := of_decide_eq_true (by first | (with_reducible assumption) | assumption)
          obtain ⟨ad213, e213, hx213_0⟩ := Kd.at_string HR0.out x4_1 p213 q213
          cases e213
          replace hx213_0 := (HB.out.cell (World.block_lt_of_cell? w _ hx213_0)).trans hx213_0
          replace p213 := eq_true p213
          replace q213 := eq_true q213
          go_wp2_with (first | ((with_reducible refine gate_callee (f := 28) rfl ?_); refine goesL_ (some 18) rfl rfl Tryd.func28 (by kernel_rfl) rfl #[.string (rdOf ByteArray.empty l0 x4_1)] rfl (by (try simp only [List.map_toArray, List.map_cons, List.map_nil]); first | done | rfl | (simp only [List.length_drop, List.length_take]; rfl)) ?_; (with_reducible refine (mandolineref09_parts.calls k1 (rdOf ByteArray.empty l0 x4_1) t214 _ A8.out).mono ?_); rintro e w9 ⟨v215, rfl, ho0, hb⟩; refine ⟨_, rfl, ?_⟩; have n0_ := Aside0.mk (Kd.R_lower ho0 (below_size (by repeat (first | (with_reducible first | exact HB.out | apply below_alloc | apply pw_below_drewN | apply below_drew1 | refine below_set ?_ GE211.out | refine below_set ?_ GE212.out) | exact HB.out)))); have n1_ := Aside0.mk (blk_below (g := gb211) (o := .cells #[.int .i64 0, .int .i64 0, .int .i64 0, .int .i64 0, .bool false, .bool false, .bool false] 29 (0, 0)) (by (with_reducible repeat (first | refine blk_drewN ?_ _ | refine blk_drew ?_ | refine blk_alloc ?_ _)); exact BK211.out) hb); have n2_ := Aside0.mk (blk_below (g := gb212) (o := .cells #[.int .i64 x213000_1, .int .i64 x213001_1, .int .i64 x213002_1, .int .i64 x213003_1, .bool x213004_1, .bool x213005_1, .bool x213006_1] 29 (0, 0)) (by (with_reducible repeat (first | refine blk_drewN ?_ _ | refine blk_drew ?_ | refine blk_alloc ?_ _)); exact BK212.out) hb); have n3_ := Aside0.mk (below_step (by repeat (first | (with_reducible first | exact HB.out | apply below_alloc | apply pw_below_drewN | apply below_drew1 | refine below_set ?_ GE211.out | refine below_set ?_ GE212.out) | exact HB.out)) hb); clear BK211; clear BK212; clear HB; have HO216 := n0_; have BK211 := n1_; have BK212 := n2_; have HB := n3_; clear n0_ n1_ n2_ n3_; (try clear hb); (try clear hb2); (try clear hk); (try clear hi); (try clear ho0)))
          go_loopg [6] k1 (fun kq v6 w' => ∃ (x6_2 : Int) (x213000_2 : Int) (x213001_2 : Int) (x213002_2 : Int) (x213003_2 : Int) (x213004_2 : Bool) (x213005_2 : Bool) (x213006_2 : Bool), v6 = .int .i64 x6_2 ∧ Aside0 (mandolineref09_Parse.l1 kq l0 x4_1 t214 x6_2 x213000_2 x213001_2 x213002_2 x213003_2 x213004_2 x213005_2 x213006_2 = some (r1, r2, r3, r4, r5, r6, r7)) ∧ Aside0 (kq ≤ k1) ∧ Aside0 (Kd.R Kd.string 9 w' w.heap.size (fun _ => True) v215 t214) ∧ Aside0 (w'.heap[gb211]? = some (.cells #[.int .i64 0, .int .i64 0, .int .i64 0, .int .i64 0, .bool false, .bool false, .bool false] 29 (0, 0))) ∧ Aside0 (w'.heap[gb212]? = some (.cells #[.int .i64 x213000_2, .int .i64 x213001_2, .int .i64 x213002_2, .int .i64 x213003_2, .bool x213004_2, .bool x213005_2, .bool x213006_2] 29 (0, 0))) ∧ Aside0 (Below w.heap.size w w'))
          case atStart => exact ⟨(0), (x213000_1), (x213001_1), (x213002_1), (x213003_1), (x213004_1), (x213005_1), (x213006_1), (by first | rfl | (simp; done) | (simp [*]; done)), H', ⟨Nat.le_refl _⟩, ⟨by (with_reducible repeat (first | apply Kd.R_alloc | apply Kd.R_drewN | apply Kd.R_drew)); exact HO216.out⟩, ⟨by (with_reducible repeat (first | refine blk_drewN ?_ _ | refine blk_drew ?_ | refine blk_alloc ?_ _)); exact BK211.out⟩, ⟨by (with_reducible repeat (first | refine blk_drewN ?_ _ | refine blk_drew ?_ | refine blk_alloc ?_ _)); exact BK212.out⟩, ⟨by repeat (first | (with_reducible first | exact HB.out | apply below_alloc | apply pw_below_drewN | apply below_drew1 | refine below_set ?_ GE211.out | refine below_set ?_ GE212.out) | exact HB.out)⟩⟩
          case round =>
            clear H'
            try clear c1
            try clear c2
            try clear p2
            try clear q2
            try clear hx2
            try clear c4
            try clear c6
            try clear c6b0
            try clear c7
            try clear c7b0
            try clear hcz5_0
            try clear hcz5_1
            try clear hcz5_2
            try clear hcz5_3
            try clear hcz5_4
            try clear hcz5_5
            try clear hcz5_6
            try clear hfz5_0
            try clear hfz5_1
            try clear hfz5_2
            try clear hfz5_3
            try clear hfz5_4
            try clear hfz5_5
            try clear hfz5_6
            try clear hx213_0
            try clear p2
            try clear p213
            try clear q213
            obtain ⟨x6_2, x213000_2, x213001_2, x213002_2, x213003_2, x213004_2, x213005_2, x213006_2, rfl, HA, HK2, HO_5, BK211, BK212, HB⟩ := hrel
            cases gk with
            | zero => exact absurd HA.out (by simp [mandolineref09_Parse.l1])
            | succ k2 =>
              have H := HA.out
              clear HA
              simp only [mandolineref09_Parse.l1] at H
              by_cases c10 : x6_2 < (t214.length : Int)
              · rw [if_pos c10] at H
                have c10b0 : decide (x6_2 < (t214.length : Int)) = true := decide_eq_true c10
                clear c10
                by_cases c11 : 0 ≤ x6_2
                · rw [if_pos c11] at H
                  have c11b0 : decide (0 ≤ x6_2) = true := decide_eq_true c11
                  clear c11
                  replace H := Option.bind_eq_some_iff.mp H
                  obtain ⟨⟨t218, t219, t220, t221, t222, t223, t224⟩, A120, H⟩ := H
                  replace H : (mandolineref09_Parse.l1 k2 l0 x4_1 t214 (wrap64 (x6_2 + 1)) t218 t219 t220 t221 t222 t223 t224) = some (r1, r2, r3, r4, r5, r6, r7) := H
                  have A12 := Aside0.mk A120
                  clear A120
                  have H' := Aside0.mk H
                  clear H
                  obtain ⟨Ao13, co13, eo13⟩ := Kd.R_slice HO_5.out
                  subst eo13
                  try go_wp2
                  have n0_ := Aside0.mk (Kd.R_drew HO_5.out)
                  have n1_ := Aside0.mk (blk_drew BK211.out)
                  have n2_ := Aside0.mk (blk_drew BK212.out)
                  have n3_ := Aside0.mk (below_drew1 HB.out)
                  clear HO_5
                  clear BK211
                  clear BK212
                  clear HB
                  have HO_5 := n0_
                  have BK211 := n1_
                  have BK212 := n2_
                  have HB := n3_
                  clear n0_ n1_ n2_ n3_
                  have p217 : 0 ≤ (x6_2 : Int) := of_decide_eq_true (by first | (with_reducible assumption) | assumption)
                  have q217 : x6_2 < (t214.length : Int) := of_decide_eq_true (by first | (with_reducible assumption) | assumption)
                  obtain ⟨ad217, e217, hx217_0⟩ := Kd.at_string (Kd.R_reads' HO_5.out).2.2 x6_2 p217 q217
                  cases e217
                  replace p217 := eq_true p217
                  replace q217 := eq_true q217
                  refine start_ (n := 7) (S := fun w' => w'.cell? ⟨gb212, 0, none⟩ = some (.int .i64 x213000_2) ∧ w'.cell? ⟨gb212, 1, none⟩ = some (.int .i64 x213001_2) ∧ w'.cell? ⟨gb212, 2, none⟩ = some (.int .i64 x213002_2) ∧ w'.cell? ⟨gb212, 3, none⟩ = some (.int .i64 x213003_2) ∧ w'.cell? ⟨gb212, 4, none⟩ = some (.bool x213004_2) ∧ w'.cell? ⟨gb212, 5, none⟩ = some (.bool x213005_2) ∧ w'.cell? ⟨gb212, 6, none⟩ = some (.bool x213006_2) ∧ w'.cell? (ad217.add (x6_2).toNat) = some (.string (rdOf ByteArray.empty t214 x6_2))) (ds := [6]) #[false, false, false, false, false, false, false] (by kernel_rfl) rfl rfl ⟨(blk_cell BK212.out 0).trans rfl, (blk_cell BK212.out 1).trans rfl, (blk_cell BK212.out 2).trans rfl, (blk_cell BK212.out 3).trans rfl, (blk_cell BK212.out 4).trans rfl, (blk_cell BK212.out 5).trans rfl, (blk_cell BK212.out 6).trans rfl, hx217_0⟩ (fun hHeld => ?_)
                  generalize wr.drew = w14 at HO_5 BK211 BK212 HB hx217_0 hHeld ⊢
                  refine pure_ (i := 1) (N := some 26) (v := ?_) (a' := ?_) #[false, true, false, false, false, false, false] rfl rfl (by kernel_rfl) (fun _ _ _ h => h) (Or.inl ⟨by rfl, ?_⟩) ?_ ?_
                  rotate_left
                  · intro w'
                    go_simp
                    with_reducible rfl
                  rotate_left
                  · simp only [Act.put, List.setIfInBounds_toArray, List.set_cons_zero, List.set_cons_succ, i64_w, i32_w]
                    rfl
                  refine pure_ (i := 2) (N := some 27) (v := ?_) (a' := ?_) #[false, true, true, false, false, false, false] rfl rfl (by kernel_rfl) (fun _ _ _ h => h) (Or.inl ⟨by rfl, ?_⟩) ?_ ?_
                  rotate_left
                  · intro w'
                    go_simp
                    with_reducible rfl
                  rotate_left
                  · simp only [Act.put, List.setIfInBounds_toArray, List.set_cons_zero, List.set_cons_succ, i64_w, i32_w]
                    rfl
                  refine pure_ (i := 3) (N := some 28) (v := ?_) (a' := ?_) #[false, true, true, true, false, false, false] rfl rfl (by kernel_rfl) (fun _ _ _ h => h) (Or.inl ⟨by rfl, ?_⟩) ?_ ?_
                  rotate_left
                  · intro w'
                    go_simp
                    with_reducible rfl
                  rotate_left
                  · simp only [Act.put, List.setIfInBounds_toArray, List.set_cons_zero, List.set_cons_succ, i64_w, i32_w]
                    rfl
                  refine take_ (i := 0) (N := some 25) (v := ?_) (a' := ?_) #[true, true, true, true, false, false, false] rfl rfl (by kernel_rfl) (fun _ _ _ h => h) (Or.inl ⟨by rfl, ?_⟩) hHeld ?_ ?_
                  rotate_left
                  · rintro w' ⟨s0, s1, s2, s3, s4, s5, s6, s7⟩
                    go_simp
                    with_reducible rfl
                  rotate_left
                  · simp only [Act.put, List.setIfInBounds_toArray, List.set_cons_zero, List.set_cons_succ, i64_w, i32_w]
                    rfl
                  refine take_ (i := 4) (N := some 29) (v := ?_) (a' := ?_) #[true, true, true, true, true, false, false] rfl rfl (by kernel_rfl) (fun _ _ _ h => h) (Or.inl ⟨by rfl, ?_⟩) hHeld ?_ ?_
                  rotate_left
                  · rintro w' ⟨s0, s1, s2, s3, s4, s5, s6, s7⟩
                    go_simp
                    with_reducible rfl
                  rotate_left
                  · simp only [Act.put, List.setIfInBounds_toArray, List.set_cons_zero, List.set_cons_succ, i64_w, i32_w]
                    rfl
                  refine one_ (i := 5) (N := some 30) #[true, true, true, true, true, true, false] rfl rfl (by kernel_rfl) (by decide) (fun K hK => ?_)
                  refine goes_ Tryd.func29 (by kernel_rfl) rfl #[.agg #[.int .i64 x213000_2, .int .i64 x213001_2, .int .i64 x213002_2, .int .i64 x213003_2, .bool x213004_2, .bool x213005_2, .bool x213006_2], .string (rdOf ByteArray.empty t214 x6_2)] (by rfl) rfl rfl (by (try simp only [List.map_toArray, List.map_cons, List.map_nil]); first | done | rfl | (simp only [List.length_drop, List.length_take]; rfl)) ?_
                  with_reducible refine (mandolineref09_one.calls k2 x213000_2 x213001_2 x213002_2 x213003_2 x213004_2 x213005_2 x213006_2 (rdOf ByteArray.empty t214 x6_2) t218 t219 t220 t221 t222 t223 t224 _ A12.out).mono ?_
                  rintro e w15 ⟨rfl, hb⟩
                  have HS7_ := (hb.cell (World.block_lt_of_cell? _ _ (hHeld.2.2.2.2.2.2.2))).trans (hHeld.2.2.2.2.2.2.2)
                  refine ⟨_, rfl, ?_⟩
                  have n0_ := Aside0.mk (Kd.R_below (by (with_reducible repeat (first | apply Kd.R_alloc | apply Kd.R_drewN | apply Kd.R_drew)); exact HO_5.out) hb)
                  have n1_ := Aside0.mk (blk_below (g := gb211) (o := .cells #[.int .i64 0, .int .i64 0, .int .i64 0, .int .i64 0, .bool false, .bool false, .bool false] 29 (0, 0)) (by (with_reducible repeat (first | refine blk_drewN ?_ _ | refine blk_drew ?_ | refine blk_alloc ?_ _)); exact BK211.out) hb)
                  have n2_ := Aside0.mk (blk_below (g := gb212) (o := .cells #[.int .i64 x213000_2, .int .i64 x213001_2, .int .i64 x213002_2, .int .i64 x213003_2, .bool x213004_2, .bool x213005_2, .bool x213006_2] 29 (0, 0)) (by (with_reducible repeat (first | refine blk_drewN ?_ _ | refine blk_drew ?_ | refine blk_alloc ?_ _)); exact BK212.out) hb)
                  have n3_ := Aside0.mk (below_step (by repeat (first | (with_reducible first | exact HB.out | apply below_alloc | apply pw_below_drewN | apply below_drew1 | refine below_set ?_ GE211.out | refine below_set ?_ GE212.out) | exact HB.out)) hb)
                  clear HO_5
                  clear BK211
                  clear BK212
                  clear HB
                  have HO_5 := n0_
                  have BK211 := n1_
                  have BK212 := n2_
                  have HB := n3_
                  clear n0_ n1_ n2_ n3_
                  (try clear hb)
                  (try clear hb2)
                  (try clear hk)
                  (try clear hi)
                  refine hK.out _ _ ⟨(blk_cell BK212.out 0).trans rfl, (blk_cell BK212.out 1).trans rfl, (blk_cell BK212.out 2).trans rfl, (blk_cell BK212.out 3).trans rfl, (blk_cell BK212.out 4).trans rfl, (blk_cell BK212.out 5).trans rfl, (blk_cell BK212.out 6).trans rfl, HS7_⟩ (fun hHeld => ?_)
                  clear hK K
                  refine norm_ (a' := ?_) ?_ ?_
                  rotate_left
                  · show Act.put _ (some 30) _ = _
                    simp only [Act.put, List.setIfInBounds_toArray, List.set_cons_zero, List.set_cons_succ, i64_w, i32_w]
                    rfl
                  refine last_ (i := 6) (N := none) #[true, true, true, true, true, true, true] rfl rfl (by kernel_rfl) (by decide) (fun K hK => ?_)
                  have hs16 : w15.cell? ⟨gb212, 0, none⟩ = some (.int .i64 x213000_2) := (blk_cell BK212.out 0).trans rfl
                  have hfs16 := blk_frozen BK212.out 0
                  have hns16_0 := NB211_212.out
                  have hms16_0 := NB212_211.out
                  have hs17 : w15.cell? ⟨gb212, 1, none⟩ = some (.int .i64 x213001_2) := (blk_cell BK212.out 1).trans rfl
                  have hfs17 := blk_frozen BK212.out 1
                  have hns17_0 := NB211_212.out
                  have hms17_0 := NB212_211.out
                  have hs18 : w15.cell? ⟨gb212, 2, none⟩ = some (.int .i64 x213002_2) := (blk_cell BK212.out 2).trans rfl
                  have hfs18 := blk_frozen BK212.out 2
                  have hns18_0 := NB211_212.out
                  have hms18_0 := NB212_211.out
                  have hs19 : w15.cell? ⟨gb212, 3, none⟩ = some (.int .i64 x213003_2) := (blk_cell BK212.out 3).trans rfl
                  have hfs19 := blk_frozen BK212.out 3
                  have hns19_0 := NB211_212.out
                  have hms19_0 := NB212_211.out
                  have hs20 : w15.cell? ⟨gb212, 4, none⟩ = some (.bool x213004_2) := (blk_cell BK212.out 4).trans rfl
                  have hfs20 := blk_frozen BK212.out 4
                  have hns20_0 := NB211_212.out
                  have hms20_0 := NB212_211.out
                  have hs21 : w15.cell? ⟨gb212, 5, none⟩ = some (.bool x213005_2) := (blk_cell BK212.out 5).trans rfl
                  have hfs21 := blk_frozen BK212.out 5
                  have hns21_0 := NB211_212.out
                  have hms21_0 := NB212_211.out
                  have hs22 : w15.cell? ⟨gb212, 6, none⟩ = some (.bool x213006_2) := (blk_cell BK212.out 6).trans rfl
                  have hfs22 := blk_frozen BK212.out 6
                  have hns22_0 := NB211_212.out
                  have hms22_0 := NB212_211.out
                  refine skip_ (w1 := ?_) (by rfl) rfl ?_ ?_
                  rotate_left
                  · go_simp
                    rfl
                  refine hK.out _ _ ?_
                  clear hK K
                  refine done_ (by kernel_rfl) ?_
                  try go_wp2
                  go_roundg k2
                  case measure => have := HK1.out; have := HK2.out; omega
                  case rel => exact ⟨(wrap64 (x6_2 + 1)), (t218), (t219), (t220), (t221), (t222), (t223), (t224), (by first | rfl | (simp; done) | (simp [*]; done)), H', ⟨by have := HK1.out; have := HK2.out; omega⟩, ⟨by (with_reducible repeat (first | apply Kd.R_alloc | apply Kd.R_drewN | apply Kd.R_drew)); exact Kd.R_mono (Kd.R_far (p := ⟨gb212, 6, none⟩) (Kd.R_far (p := ⟨gb212, 5, none⟩) (Kd.R_far (p := ⟨gb212, 4, none⟩) (Kd.R_far (p := ⟨gb212, 3, none⟩) (Kd.R_far (p := ⟨gb212, 2, none⟩) (Kd.R_far (p := ⟨gb212, 1, none⟩) (Kd.R_far (p := ⟨gb212, 0, none⟩) (Kd.R_types HO_5.out BK212.out (by decide)) (fun _ hk => hk.2) (.int .i64 t218)) (fun _ hk => hk.2) (.int .i64 t219)) (fun _ hk => hk.2) (.int .i64 t220)) (fun _ hk => hk.2) (.int .i64 t221)) (fun _ hk => hk.2) (.bool t222)) (fun _ hk => hk.2) (.bool t223)) (fun _ hk => hk.2) (.bool t224)) (fun _ hk => trivial)⟩, ⟨by (with_reducible repeat (first | refine blk_drewN ?_ _ | refine blk_drew ?_ | refine blk_alloc ?_ _)); refine blk_far ?_ NB211_212.out _; (with_reducible repeat (first | refine blk_drewN ?_ _ | refine blk_drew ?_ | refine blk_alloc ?_ _)); refine blk_far ?_ NB211_212.out _; (with_reducible repeat (first | refine blk_drewN ?_ _ | refine blk_drew ?_ | refine blk_alloc ?_ _)); refine blk_far ?_ NB211_212.out _; (with_reducible repeat (first | refine blk_drewN ?_ _ | refine blk_drew ?_ | refine blk_alloc ?_ _)); refine blk_far ?_ NB211_212.out _; (with_reducible repeat (first | refine blk_drewN ?_ _ | refine blk_drew ?_ | refine blk_alloc ?_ _)); refine blk_far ?_ NB211_212.out _; (with_reducible repeat (first | refine blk_drewN ?_ _ | refine blk_drew ?_ | refine blk_alloc ?_ _)); refine blk_far ?_ NB211_212.out _; (with_reducible repeat (first | refine blk_drewN ?_ _ | refine blk_drew ?_ | refine blk_alloc ?_ _)); refine blk_far ?_ NB211_212.out _; (with_reducible repeat (first | refine blk_drewN ?_ _ | refine blk_drew ?_ | refine blk_alloc ?_ _)); exact BK211.out⟩, ⟨by (with_reducible repeat (first | refine blk_drewN ?_ _ | refine blk_drew ?_ | refine blk_alloc ?_ _)); refine blk_put (cs := #[.int .i64 t218, .int .i64 t219, .int .i64 t220, .int .i64 t221, .bool t222, .bool t223, .bool x213006_2]) ?_ 6 _ rfl; (with_reducible repeat (first | refine blk_drewN ?_ _ | refine blk_drew ?_ | refine blk_alloc ?_ _)); refine blk_put (cs := #[.int .i64 t218, .int .i64 t219, .int .i64 t220, .int .i64 t221, .bool t222, .bool x213005_2, .bool x213006_2]) ?_ 5 _ rfl; (with_reducible repeat (first | refine blk_drewN ?_ _ | refine blk_drew ?_ | refine blk_alloc ?_ _)); refine blk_put (cs := #[.int .i64 t218, .int .i64 t219, .int .i64 t220, .int .i64 t221, .bool x213004_2, .bool x213005_2, .bool x213006_2]) ?_ 4 _ rfl; (with_reducible repeat (first | refine blk_drewN ?_ _ | refine blk_drew ?_ | refine blk_alloc ?_ _)); refine blk_put (cs := #[.int .i64 t218, .int .i64 t219, .int .i64 t220, .int .i64 x213003_2, .bool x213004_2, .bool x213005_2, .bool x213006_2]) ?_ 3 _ rfl; (with_reducible repeat (first | refine blk_drewN ?_ _ | refine blk_drew ?_ | refine blk_alloc ?_ _)); refine blk_put (cs := #[.int .i64 t218, .int .i64 t219, .int .i64 x213002_2, .int .i64 x213003_2, .bool x213004_2, .bool x213005_2, .bool x213006_2]) ?_ 2 _ rfl; (with_reducible repeat (first | refine blk_drewN ?_ _ | refine blk_drew ?_ | refine blk_alloc ?_ _)); refine blk_put (cs := #[.int .i64 t218, .int .i64 x213001_2, .int .i64 x213002_2, .int .i64 x213003_2, .bool x213004_2, .bool x213005_2, .bool x213006_2]) ?_ 1 _ rfl; (with_reducible repeat (first | refine blk_drewN ?_ _ | refine blk_drew ?_ | refine blk_alloc ?_ _)); refine blk_put (cs := #[.int .i64 x213000_2, .int .i64 x213001_2, .int .i64 x213002_2, .int .i64 x213003_2, .bool x213004_2, .bool x213005_2, .bool x213006_2]) ?_ 0 _ rfl; (with_reducible repeat (first | refine blk_drewN ?_ _ | refine blk_drew ?_ | refine blk_alloc ?_ _)); exact BK212.out⟩, ⟨by repeat (first | (with_reducible first | exact HB.out | apply below_alloc | apply pw_below_drewN | apply below_drew1 | refine below_set ?_ GE211.out | refine below_set ?_ GE212.out) | exact HB.out)⟩⟩
                · rw [if_neg c11] at H
                  exact absurd H (by simp)
              · rw [if_neg c10] at H
                have c10b0 : decide (x6_2 < (t214.length : Int)) = false := decide_eq_false c10
                clear c10
                have H' := Aside0.mk H
                clear H
                obtain ⟨Ao23, co23, eo23⟩ := Kd.R_slice HO_5.out
                subst eo23
                go_wp2
                go_roundg k2
                case measure => have := HK1.out; have := HK2.out; omega
                case rel => exact ⟨(wrap64 (x4_1 + 1)), (x213000_2), (x213001_2), (x213002_2), (x213003_2), (x213004_2), (x213005_2), (x213006_2), (by first | rfl | (simp; done) | (simp [*]; done)), H', ⟨by have := HK1.out; have := HK2.out; omega⟩, ⟨by (with_reducible repeat (first | refine blk_drewN ?_ _ | refine blk_drew ?_ | refine blk_alloc ?_ _)); exact BK211.out⟩, ⟨by (with_reducible repeat (first | refine blk_drewN ?_ _ | refine blk_drew ?_ | refine blk_alloc ?_ _)); exact BK212.out⟩, ⟨by repeat (first | (with_reducible first | exact HB.out | apply below_alloc | apply pw_below_drewN | apply below_drew1 | refine below_set ?_ GE211.out | refine below_set ?_ GE212.out) | exact HB.out)⟩⟩
        · rw [if_neg c7] at H
          exact absurd H (by simp)
      · rw [if_neg c6] at H
        have c6b0 : decide (x4_1 < (l0.length : Int)) = false := decide_eq_false c6
        clear c6
        simp only [Option.some.injEq, Prod.mk.injEq] at H
        obtain ⟨rfl, rfl, rfl, rfl, rfl, rfl, rfl⟩ := H
        have hnb24 := NB212_211.out
        have hnc24 := NB211_212.out
        have hcz25_0 : wr.cell? ⟨gb212, 0, none⟩ = some (.int .i64 x213000_1) := (blk_cell BK212.out 0).trans rfl
        have hcz25_1 : wr.cell? ⟨gb212, 1, none⟩ = some (.int .i64 x213001_1) := (blk_cell BK212.out 1).trans rfl
        have hcz25_2 : wr.cell? ⟨gb212, 2, none⟩ = some (.int .i64 x213002_1) := (blk_cell BK212.out 2).trans rfl
        have hcz25_3 : wr.cell? ⟨gb212, 3, none⟩ = some (.int .i64 x213003_1) := (blk_cell BK212.out 3).trans rfl
        have hcz25_4 : wr.cell? ⟨gb212, 4, none⟩ = some (.bool x213004_1) := (blk_cell BK212.out 4).trans rfl
        have hcz25_5 : wr.cell? ⟨gb212, 5, none⟩ = some (.bool x213005_1) := (blk_cell BK212.out 5).trans rfl
        have hcz25_6 : wr.cell? ⟨gb212, 6, none⟩ = some (.bool x213006_1) := (blk_cell BK212.out 6).trans rfl
        have hfz25_0 := blk_frozen BK212.out 0
        have hfz25_1 := blk_frozen BK212.out 1
        have hfz25_2 := blk_frozen BK212.out 2
        have hfz25_3 := blk_frozen BK212.out 3
        have hfz25_4 := blk_frozen BK212.out 4
        have hfz25_5 := blk_frozen BK212.out 5
        have hfz25_6 := blk_frozen BK212.out 6
        have hcz26_0 : wr.cell? ⟨gb211, 0, none⟩ = some (.int .i64 0) := (blk_cell BK211.out 0).trans rfl
        have hcz26_1 : wr.cell? ⟨gb211, 1, none⟩ = some (.int .i64 0) := (blk_cell BK211.out 1).trans rfl
        have hcz26_2 : wr.cell? ⟨gb211, 2, none⟩ = some (.int .i64 0) := (blk_cell BK211.out 2).trans rfl
        have hcz26_3 : wr.cell? ⟨gb211, 3, none⟩ = some (.int .i64 0) := (blk_cell BK211.out 3).trans rfl
        have hcz26_4 : wr.cell? ⟨gb211, 4, none⟩ = some (.bool false) := (blk_cell BK211.out 4).trans rfl
        have hcz26_5 : wr.cell? ⟨gb211, 5, none⟩ = some (.bool false) := (blk_cell BK211.out 5).trans rfl
        have hcz26_6 : wr.cell? ⟨gb211, 6, none⟩ = some (.bool false) := (blk_cell BK211.out 6).trans rfl
        have hfz26_0 := blk_frozen BK211.out 0
        have hfz26_1 := blk_frozen BK211.out 1
        have hfz26_2 := blk_frozen BK211.out 2
        have hfz26_3 := blk_frozen BK211.out 3
        have hfz26_4 := blk_frozen BK211.out 4
        have hfz26_5 := blk_frozen BK211.out 5
        have hfz26_6 := blk_frozen BK211.out 6
        go_wp2
        refine bodyPost_ret (results_cell_row rfl _ _ gb211 29 #[.int .i64 x213000_1, .int .i64 x213001_1, .int .i64 x213002_1, .int .i64 x213003_1, .bool x213004_1, .bool x213005_1, .bool x213006_1] (0, 0) _ rfl (by (with_reducible repeat (first | refine blk_drewN ?_ _ | refine blk_drew ?_ | refine blk_alloc ?_ _)); refine blk_put (cs := #[.int .i64 x213000_1, .int .i64 x213001_1, .int .i64 x213002_1, .int .i64 x213003_1, .bool x213004_1, .bool x213005_1, .bool false]) ?_ 6 _ rfl; (with_reducible repeat (first | refine blk_drewN ?_ _ | refine blk_drew ?_ | refine blk_alloc ?_ _)); refine blk_put (cs := #[.int .i64 x213000_1, .int .i64 x213001_1, .int .i64 x213002_1, .int .i64 x213003_1, .bool x213004_1, .bool false, .bool false]) ?_ 5 _ rfl; (with_reducible repeat (first | refine blk_drewN ?_ _ | refine blk_drew ?_ | refine blk_alloc ?_ _)); refine blk_put (cs := #[.int .i64 x213000_1, .int .i64 x213001_1, .int .i64 x213002_1, .int .i64 x213003_1, .bool false, .bool false, .bool false]) ?_ 4 _ rfl; (with_reducible repeat (first | refine blk_drewN ?_ _ | refine blk_drew ?_ | refine blk_alloc ?_ _)); refine blk_put (cs := #[.int .i64 x213000_1, .int .i64 x213001_1, .int .i64 x213002_1, .int .i64 0, .bool false, .bool false, .bool false]) ?_ 3 _ rfl; (with_reducible repeat (first | refine blk_drewN ?_ _ | refine blk_drew ?_ | refine blk_alloc ?_ _)); refine blk_put (cs := #[.int .i64 x213000_1, .int .i64 x213001_1, .int .i64 0, .int .i64 0, .bool false, .bool false, .bool false]) ?_ 2 _ rfl; (with_reducible repeat (first | refine blk_drewN ?_ _ | refine blk_drew ?_ | refine blk_alloc ?_ _)); refine blk_put (cs := #[.int .i64 x213000_1, .int .i64 0, .int .i64 0, .int .i64 0, .bool false, .bool false, .bool false]) ?_ 1 _ rfl; (with_reducible repeat (first | refine blk_drewN ?_ _ | refine blk_drew ?_ | refine blk_alloc ?_ _)); refine blk_put (cs := #[.int .i64 0, .int .i64 0, .int .i64 0, .int .i64 0, .bool false, .bool false, .bool false]) ?_ 0 _ rfl; (with_reducible repeat (first | refine blk_drewN ?_ _ | refine blk_drew ?_ | refine blk_alloc ?_ _)); exact BK211.out) Tryd.underlying29 rfl (by kernel_rfl)) rfl ?_
        exact ⟨by first | rfl | (simp [errW_none, errW_some] <;> rfl) | (simp [*, errW_none, errW_some] <;> rfl), by repeat (first | (with_reducible first | exact HB.out | apply below_alloc | apply pw_below_drewN | apply below_drew1 | refine below_set ?_ GE211.out | refine below_set ?_ GE212.out) | exact HB.out)⟩

end Go.Proofs.YtmapdckelbobiaaDoor.X
