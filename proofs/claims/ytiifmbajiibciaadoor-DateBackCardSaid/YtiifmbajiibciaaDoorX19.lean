-- Printed by a program of this session (pp.py: the kit's print.py, run with contracts of its own) out of the translation. Not trusted: Lean checks it.
import Derived.Test.YtiifmbajiibciaaDoorX0
import Derived.Test.YtiifmbajiibciaaDoorX1
import Derived.Test.YtiifmbajiibciaaDoorX3
import Derived.Test.YtiifmbajiibciaaDoorX6
import Derived.Test.YtiifmbajiibciaaDoorX8
namespace Go.Proofs.YtiifmbajiibciaaDoor.X
open Go.RowKit Go.Proofs.YtiifmbajiibciaaDoorW.PrintWords Go.Proofs.YtiifmbajiibciaaDoorW.PrintLast Go.Proofs.YtiifmbajiibciaaDoorW.PrintMore
attribute [local go_sem] max2_int min2_int max_two min_two max_three min_three max_four min_four   -- for this text's walks alone
set_option linter.unusedVariables false
set_option linter.unusedSimpArgs false

/-! ### mandolinelaw06_DateBack: function 9 -/
def mandolinelaw06_DateBack.fin (k : Nat) (a0 a1 : Int) (r : Int × Int × Int × Int × Int) : Option Bool := (date_Tick.f k r.1 r.2.1 r.2.2.1 a1 r.2.2.2.2).bind fun t => if t.1 = a0 ∧ t.2 = 0 then some true else none
def mandolinelaw06_DateBack.day (k : Nat) (a0 a1 : Int) (r : Int × Int × Int × Int × Int) : Option Bool := if 0 ≤ r.2.2.2.2 ∧ r.2.2.2.2 ≤ 86399 then (if r.2.1 = 2 ∧ r.2.2.1 = 29 then (date_Leap.f r.1).bind fun l => if l = true then mandolinelaw06_DateBack.fin k a0 a1 r else none else mandolinelaw06_DateBack.fin k a0 a1 r) else none
def mandolinelaw06_DateBack.f (k : Nat) (a0 a1 : Int) : Option Bool := (mandolinelaw06_wakes.f k).bind fun t => if t = true then (if a0 < 0 ∨ a0 > 253402300799 then some true else (date_Of.f k a0).bind fun r => mandolinelaw06_DateBack.day k a0 a1 r) else none
set_option maxHeartbeats 4000000 in
set_option maxRecDepth 100000 in
theorem mandolinelaw06_DateBack.leaps (k : Nat) (a0 a1 y m d wk s : Int) (w : World) (hG : Glob w) (hw : mandolinelaw06_wakes.f k = some true) (ho : date_Of.f k a0 = some (y, m, d, wk, s)) (h0 : ¬ a0 < 0) (h1 : ¬ a0 > 253402300799) (s0 : ¬ s < 0) (s1 : ¬ s > 86399) (em : m = 2) (ed : d = 29) (hl : date_Leap.f y = some true) (ht : date_Tick.f k y m d a1 s = some (a0, 0)) :
    Calls Tryd.prog 9 #[.int .i64 a0, .int .i64 a1] w fun e w' => e = .returned (.bool true) ∧ Below w.heap.size w w' := by
  have HG := Aside0.mk hG
  have HW := Aside0.mk hw
  have HO := Aside0.mk ho
  have HT := Aside0.mk ht
  clear hG hw ho ht
  have A_em := Aside0.mk em
  clear em
  have A_ed := Aside0.mk ed
  clear ed
  have A_hl := Aside0.mk hl
  clear hl
  have b0 : decide (a0 < 0) = false := decide_eq_false h0
  have b1 : decide (a0 > 253402300799) = false := decide_eq_false h1
  have b1' : decide (253402300799 < a0) = false := b1
  go_enter Tryd.func9, Tryd.ntmps9
  go_upto_region 5 with ((go_at_call 10; (with_reducible refine (mandolinelaw06_wakes.calls k _ _ HG.out HW.out).mono ?_); rintro e w1 ⟨rfl, hb⟩; have HB1 := Aside0.mk hb; clear hb))
  go_cut [0, 1, 5, 6] (fun v0 v1 v5 v6 wc => ∃ g : Nat, v0 = .int .i64 a0 ∧ v1 = .int .i64 a1 ∧ v5 = .pointer (some ⟨g, 0, none⟩) ∧ v6 = .int .i64 s ∧ Aside0 (w.heap.size ≤ g) ∧ Aside0 (wc.heap[g]? = some (.cells #[.int .i64 y, .int .i64 m, .int .i64 d, .int .i64 wk] 24 (0, 0))) ∧ Aside0 (Below w.heap.size w wc))
  case first =>
    go_wp2_with (first | (go_at_call 11; (with_reducible refine (date_Of.calls k a0 y m d wk s _ HO.out).mono ?_); rintro e w2 ⟨rfl, hb⟩; have HB2 := Aside0.mk (below_step HB1.out hb); clear hb) | ((with_reducible refine gate_dst (N := 5) rfl ?_); refine box_event ?hg (N := 5) ?hd (cs := #[.int .i64 0, .int .i64 0, .int .i64 0, .int .i64 0]) (t := 24) ?hr ?_; (case hd => rfl); (case hg => rfl); (case hr => first | (go_simp; done) | (go_simp; rfl)); intro g hg w3 hbox hb; have HB3 := Aside0.mk (below_step HB2.out hb); have GE := Aside0.mk ((by rw [hg]; exact below_size HB2.out) : w.heap.size ≤ g); have BK := Aside0.mk hbox; clear hb hbox hg; have hc0 : w3.cell? ⟨g, 0, none⟩ = some (.int .i64 0) := (blk_cell BK.out 0).trans rfl; have hf0 := blk_frozen BK.out 0; have hc1 : w3.cell? ⟨g, 1, none⟩ = some (.int .i64 0) := (blk_cell BK.out 1).trans rfl; have hf1 := blk_frozen BK.out 1; have hc2 : w3.cell? ⟨g, 2, none⟩ = some (.int .i64 0) := (blk_cell BK.out 2).trans rfl; have hf2 := blk_frozen BK.out 2; have hc3 : w3.cell? ⟨g, 3, none⟩ = some (.int .i64 0) := (blk_cell BK.out 3).trans rfl; have hf3 := blk_frozen BK.out 3; skip))
    go_meet
    case rel =>
      refine ⟨g, rfl, rfl, rfl, rfl, GE, ⟨?_⟩, ⟨?_⟩⟩
      · refine blk_put (cs := #[.int .i64 y, .int .i64 m, .int .i64 d, .int .i64 0]) ?_ 3 _ rfl
        refine blk_put (cs := #[.int .i64 y, .int .i64 m, .int .i64 0, .int .i64 0]) ?_ 2 _ rfl
        refine blk_put (cs := #[.int .i64 y, .int .i64 0, .int .i64 0, .int .i64 0]) ?_ 1 _ rfl
        refine blk_put (cs := #[.int .i64 0, .int .i64 0, .int .i64 0, .int .i64 0]) ?_ 0 _ rfl
        with_reducible exact BK.out
      · with_reducible refine below_set ?_ GE.out
        with_reducible refine below_set ?_ GE.out
        with_reducible refine below_set ?_ GE.out
        with_reducible refine below_set ?_ GE.out
        with_reducible exact HB3.out
  case rest =>
    obtain ⟨g, rfl, rfl, rfl, rfl, GE, BK, HB⟩ := hcut
    have t0 : decide (s < 0) = false := decide_eq_false (by omega)
    have t1 : decide (s > 86399) = false := decide_eq_false (by omega)
    have t2 : decide (86399 < s) = false := t1
    have em := A_em.out
    have em0 : (m == 2) = true := beq_iff_eq.mpr em
    clear em
    have ed := A_ed.out
    have ed0 : (d == 29) = true := beq_iff_eq.mpr ed
    clear ed
    have HL := A_hl
    have hc0 : wc.cell? ⟨g, 0, none⟩ = some (.int .i64 y) := (blk_cell BK.out 0).trans rfl
    have hf0 := blk_frozen BK.out 0
    have hc1 : wc.cell? ⟨g, 1, none⟩ = some (.int .i64 m) := (blk_cell BK.out 1).trans rfl
    have hf1 := blk_frozen BK.out 1
    have hc2 : wc.cell? ⟨g, 2, none⟩ = some (.int .i64 d) := (blk_cell BK.out 2).trans rfl
    have hf2 := blk_frozen BK.out 2
    have hc3 : wc.cell? ⟨g, 3, none⟩ = some (.int .i64 wk) := (blk_cell BK.out 3).trans rfl
    have hf3 := blk_frozen BK.out 3
    go_upto_region 8 with ((go_at_call 20; (with_reducible refine (date_Leap.calls y true _ HL.out).mono ?_); rintro e w5 ⟨rfl, hb⟩; have n0_ := Aside0.mk (below_step HB.out hb); have n1_ := Aside0.mk (blk_below (g := g) (o := .cells #[.int .i64 y, .int .i64 m, .int .i64 d, .int .i64 wk] 24 (0, 0)) BK.out hb); clear HB BK hb hc0 hc1 hc2 hc3 hf0 hf1 hf2 hf3; have HB := n0_; have BK := n1_; clear n0_ n1_; have hc0 : w5.cell? ⟨g, 0, none⟩ = some (.int .i64 y) := (blk_cell BK.out 0).trans rfl; have hf0 := blk_frozen BK.out 0; have hc1 : w5.cell? ⟨g, 1, none⟩ = some (.int .i64 m) := (blk_cell BK.out 1).trans rfl; have hf1 := blk_frozen BK.out 1; have hc2 : w5.cell? ⟨g, 2, none⟩ = some (.int .i64 d) := (blk_cell BK.out 2).trans rfl; have hf2 := blk_frozen BK.out 2; have hc3 : w5.cell? ⟨g, 3, none⟩ = some (.int .i64 wk) := (blk_cell BK.out 3).trans rfl; have hf3 := blk_frozen BK.out 3; skip))
    go_cut [0, 1, 5, 6] (fun v0 v1 v5 v6 wc => v0 = .int .i64 a0 ∧ v1 = .int .i64 a1 ∧ v5 = .pointer (some ⟨g, 0, none⟩) ∧ v6 = .int .i64 s ∧ Aside0 (wc.heap[g]? = some (.cells #[.int .i64 y, .int .i64 m, .int .i64 d, .int .i64 a1] 24 (0, 0))) ∧ Aside0 (Below w.heap.size w wc))
    case first =>
      go_wp2
      go_meet
      case rel =>
        refine ⟨rfl, rfl, rfl, rfl, ⟨?_⟩, ⟨?_⟩⟩
        · refine blk_put (cs := #[.int .i64 y, .int .i64 m, .int .i64 d, .int .i64 wk]) ?_ 3 _ rfl
          with_reducible exact BK.out
        · with_reducible refine below_set ?_ GE.out
          with_reducible exact HB.out
    case rest =>
      clear hc0 hc1 hc2 hc3 hf0 hf1 hf2 hf3
      clear BK HB
      obtain ⟨rfl, rfl, rfl, rfl, BK, HB⟩ := hcut
      have hc0 : wc.cell? ⟨g, 0, none⟩ = some (.int .i64 y) := (blk_cell BK.out 0).trans rfl
      have hf0 := blk_frozen BK.out 0
      have hc1 : wc.cell? ⟨g, 1, none⟩ = some (.int .i64 m) := (blk_cell BK.out 1).trans rfl
      have hf1 := blk_frozen BK.out 1
      have hc2 : wc.cell? ⟨g, 2, none⟩ = some (.int .i64 d) := (blk_cell BK.out 2).trans rfl
      have hf2 := blk_frozen BK.out 2
      have hc3 : wc.cell? ⟨g, 3, none⟩ = some (.int .i64 a1) := (blk_cell BK.out 3).trans rfl
      have hf3 := blk_frozen BK.out 3
      go_wp2_with ((go_at_call 14; (with_reducible refine (date_Tick.calls k y m d a1 s _ _ _ HT.out).mono ?_); rintro e w6 ⟨rfl, hb⟩; have HB6 := Aside0.mk (below_step HB.out hb); clear hb))
      go_ret
      exact ⟨by first | rfl | simp, HB6.out⟩
set_option maxHeartbeats 4000000 in
set_option maxRecDepth 100000 in
theorem mandolinelaw06_DateBack.plain (k : Nat) (a0 a1 y m d wk s : Int) (w : World) (hG : Glob w) (hw : mandolinelaw06_wakes.f k = some true) (ho : date_Of.f k a0 = some (y, m, d, wk, s)) (h0 : ¬ a0 < 0) (h1 : ¬ a0 > 253402300799) (s0 : ¬ s < 0) (s1 : ¬ s > 86399) (em : m = 2) (ed : d ≠ 29) (ht : date_Tick.f k y m d a1 s = some (a0, 0)) :
    Calls Tryd.prog 9 #[.int .i64 a0, .int .i64 a1] w fun e w' => e = .returned (.bool true) ∧ Below w.heap.size w w' := by
  have HG := Aside0.mk hG
  have HW := Aside0.mk hw
  have HO := Aside0.mk ho
  have HT := Aside0.mk ht
  clear hG hw ho ht
  have A_em := Aside0.mk em
  clear em
  have A_ed := Aside0.mk ed
  clear ed
  have b0 : decide (a0 < 0) = false := decide_eq_false h0
  have b1 : decide (a0 > 253402300799) = false := decide_eq_false h1
  have b1' : decide (253402300799 < a0) = false := b1
  go_enter Tryd.func9, Tryd.ntmps9
  go_upto_region 5 with ((go_at_call 10; (with_reducible refine (mandolinelaw06_wakes.calls k _ _ HG.out HW.out).mono ?_); rintro e w1 ⟨rfl, hb⟩; have HB1 := Aside0.mk hb; clear hb))
  go_cut [0, 1, 5, 6] (fun v0 v1 v5 v6 wc => ∃ g : Nat, v0 = .int .i64 a0 ∧ v1 = .int .i64 a1 ∧ v5 = .pointer (some ⟨g, 0, none⟩) ∧ v6 = .int .i64 s ∧ Aside0 (w.heap.size ≤ g) ∧ Aside0 (wc.heap[g]? = some (.cells #[.int .i64 y, .int .i64 m, .int .i64 d, .int .i64 wk] 24 (0, 0))) ∧ Aside0 (Below w.heap.size w wc))
  case first =>
    go_wp2_with (first | (go_at_call 11; (with_reducible refine (date_Of.calls k a0 y m d wk s _ HO.out).mono ?_); rintro e w2 ⟨rfl, hb⟩; have HB2 := Aside0.mk (below_step HB1.out hb); clear hb) | ((with_reducible refine gate_dst (N := 5) rfl ?_); refine box_event ?hg (N := 5) ?hd (cs := #[.int .i64 0, .int .i64 0, .int .i64 0, .int .i64 0]) (t := 24) ?hr ?_; (case hd => rfl); (case hg => rfl); (case hr => first | (go_simp; done) | (go_simp; rfl)); intro g hg w3 hbox hb; have HB3 := Aside0.mk (below_step HB2.out hb); have GE := Aside0.mk ((by rw [hg]; exact below_size HB2.out) : w.heap.size ≤ g); have BK := Aside0.mk hbox; clear hb hbox hg; have hc0 : w3.cell? ⟨g, 0, none⟩ = some (.int .i64 0) := (blk_cell BK.out 0).trans rfl; have hf0 := blk_frozen BK.out 0; have hc1 : w3.cell? ⟨g, 1, none⟩ = some (.int .i64 0) := (blk_cell BK.out 1).trans rfl; have hf1 := blk_frozen BK.out 1; have hc2 : w3.cell? ⟨g, 2, none⟩ = some (.int .i64 0) := (blk_cell BK.out 2).trans rfl; have hf2 := blk_frozen BK.out 2; have hc3 : w3.cell? ⟨g, 3, none⟩ = some (.int .i64 0) := (blk_cell BK.out 3).trans rfl; have hf3 := blk_frozen BK.out 3; skip))
    go_meet
    case rel =>
      refine ⟨g, rfl, rfl, rfl, rfl, GE, ⟨?_⟩, ⟨?_⟩⟩
      · refine blk_put (cs := #[.int .i64 y, .int .i64 m, .int .i64 d, .int .i64 0]) ?_ 3 _ rfl
        refine blk_put (cs := #[.int .i64 y, .int .i64 m, .int .i64 0, .int .i64 0]) ?_ 2 _ rfl
        refine blk_put (cs := #[.int .i64 y, .int .i64 0, .int .i64 0, .int .i64 0]) ?_ 1 _ rfl
        refine blk_put (cs := #[.int .i64 0, .int .i64 0, .int .i64 0, .int .i64 0]) ?_ 0 _ rfl
        with_reducible exact BK.out
      · with_reducible refine below_set ?_ GE.out
        with_reducible refine below_set ?_ GE.out
        with_reducible refine below_set ?_ GE.out
        with_reducible refine below_set ?_ GE.out
        with_reducible exact HB3.out
  case rest =>
    obtain ⟨g, rfl, rfl, rfl, rfl, GE, BK, HB⟩ := hcut
    have t0 : decide (s < 0) = false := decide_eq_false (by omega)
    have t1 : decide (s > 86399) = false := decide_eq_false (by omega)
    have t2 : decide (86399 < s) = false := t1
    have em := A_em.out
    have em0 : (m == 2) = true := beq_iff_eq.mpr em
    clear em
    have ed := A_ed.out
    have ed0 : (d == 29) = false := beq_eq_false_iff_ne.mpr ed
    clear ed
    have hc0 : wc.cell? ⟨g, 0, none⟩ = some (.int .i64 y) := (blk_cell BK.out 0).trans rfl
    have hf0 := blk_frozen BK.out 0
    have hc1 : wc.cell? ⟨g, 1, none⟩ = some (.int .i64 m) := (blk_cell BK.out 1).trans rfl
    have hf1 := blk_frozen BK.out 1
    have hc2 : wc.cell? ⟨g, 2, none⟩ = some (.int .i64 d) := (blk_cell BK.out 2).trans rfl
    have hf2 := blk_frozen BK.out 2
    have hc3 : wc.cell? ⟨g, 3, none⟩ = some (.int .i64 wk) := (blk_cell BK.out 3).trans rfl
    have hf3 := blk_frozen BK.out 3
    go_upto_region 8 with (fail)
    go_cut [0, 1, 5, 6] (fun v0 v1 v5 v6 wc => v0 = .int .i64 a0 ∧ v1 = .int .i64 a1 ∧ v5 = .pointer (some ⟨g, 0, none⟩) ∧ v6 = .int .i64 s ∧ Aside0 (wc.heap[g]? = some (.cells #[.int .i64 y, .int .i64 m, .int .i64 d, .int .i64 a1] 24 (0, 0))) ∧ Aside0 (Below w.heap.size w wc))
    case first =>
      go_wp2
      go_meet
      case rel =>
        refine ⟨rfl, rfl, rfl, rfl, ⟨?_⟩, ⟨?_⟩⟩
        · refine blk_put (cs := #[.int .i64 y, .int .i64 m, .int .i64 d, .int .i64 wk]) ?_ 3 _ rfl
          with_reducible exact BK.out
        · with_reducible refine below_set ?_ GE.out
          with_reducible exact HB.out
    case rest =>
      clear hc0 hc1 hc2 hc3 hf0 hf1 hf2 hf3
      clear BK HB
      obtain ⟨rfl, rfl, rfl, rfl, BK, HB⟩ := hcut
      have hc0 : wc.cell? ⟨g, 0, none⟩ = some (.int .i64 y) := (blk_cell BK.out 0).trans rfl
      have hf0 := blk_frozen BK.out 0
      have hc1 : wc.cell? ⟨g, 1, none⟩ = some (.int .i64 m) := (blk_cell BK.out 1).trans rfl
      have hf1 := blk_frozen BK.out 1
      have hc2 : wc.cell? ⟨g, 2, none⟩ = some (.int .i64 d) := (blk_cell BK.out 2).trans rfl
      have hf2 := blk_frozen BK.out 2
      have hc3 : wc.cell? ⟨g, 3, none⟩ = some (.int .i64 a1) := (blk_cell BK.out 3).trans rfl
      have hf3 := blk_frozen BK.out 3
      go_wp2_with ((go_at_call 14; (with_reducible refine (date_Tick.calls k y m d a1 s _ _ _ HT.out).mono ?_); rintro e w6 ⟨rfl, hb⟩; have HB6 := Aside0.mk (below_step HB.out hb); clear hb))
      go_ret
      exact ⟨by first | rfl | simp, HB6.out⟩
set_option maxHeartbeats 4000000 in
set_option maxRecDepth 100000 in
theorem mandolinelaw06_DateBack.other (k : Nat) (a0 a1 y m d wk s : Int) (w : World) (hG : Glob w) (hw : mandolinelaw06_wakes.f k = some true) (ho : date_Of.f k a0 = some (y, m, d, wk, s)) (h0 : ¬ a0 < 0) (h1 : ¬ a0 > 253402300799) (s0 : ¬ s < 0) (s1 : ¬ s > 86399) (em : m ≠ 2) (ht : date_Tick.f k y m d a1 s = some (a0, 0)) :
    Calls Tryd.prog 9 #[.int .i64 a0, .int .i64 a1] w fun e w' => e = .returned (.bool true) ∧ Below w.heap.size w w' := by
  have HG := Aside0.mk hG
  have HW := Aside0.mk hw
  have HO := Aside0.mk ho
  have HT := Aside0.mk ht
  clear hG hw ho ht
  have A_em := Aside0.mk em
  clear em
  have b0 : decide (a0 < 0) = false := decide_eq_false h0
  have b1 : decide (a0 > 253402300799) = false := decide_eq_false h1
  have b1' : decide (253402300799 < a0) = false := b1
  go_enter Tryd.func9, Tryd.ntmps9
  go_upto_region 5 with ((go_at_call 10; (with_reducible refine (mandolinelaw06_wakes.calls k _ _ HG.out HW.out).mono ?_); rintro e w1 ⟨rfl, hb⟩; have HB1 := Aside0.mk hb; clear hb))
  go_cut [0, 1, 5, 6] (fun v0 v1 v5 v6 wc => ∃ g : Nat, v0 = .int .i64 a0 ∧ v1 = .int .i64 a1 ∧ v5 = .pointer (some ⟨g, 0, none⟩) ∧ v6 = .int .i64 s ∧ Aside0 (w.heap.size ≤ g) ∧ Aside0 (wc.heap[g]? = some (.cells #[.int .i64 y, .int .i64 m, .int .i64 d, .int .i64 wk] 24 (0, 0))) ∧ Aside0 (Below w.heap.size w wc))
  case first =>
    go_wp2_with (first | (go_at_call 11; (with_reducible refine (date_Of.calls k a0 y m d wk s _ HO.out).mono ?_); rintro e w2 ⟨rfl, hb⟩; have HB2 := Aside0.mk (below_step HB1.out hb); clear hb) | ((with_reducible refine gate_dst (N := 5) rfl ?_); refine box_event ?hg (N := 5) ?hd (cs := #[.int .i64 0, .int .i64 0, .int .i64 0, .int .i64 0]) (t := 24) ?hr ?_; (case hd => rfl); (case hg => rfl); (case hr => first | (go_simp; done) | (go_simp; rfl)); intro g hg w3 hbox hb; have HB3 := Aside0.mk (below_step HB2.out hb); have GE := Aside0.mk ((by rw [hg]; exact below_size HB2.out) : w.heap.size ≤ g); have BK := Aside0.mk hbox; clear hb hbox hg; have hc0 : w3.cell? ⟨g, 0, none⟩ = some (.int .i64 0) := (blk_cell BK.out 0).trans rfl; have hf0 := blk_frozen BK.out 0; have hc1 : w3.cell? ⟨g, 1, none⟩ = some (.int .i64 0) := (blk_cell BK.out 1).trans rfl; have hf1 := blk_frozen BK.out 1; have hc2 : w3.cell? ⟨g, 2, none⟩ = some (.int .i64 0) := (blk_cell BK.out 2).trans rfl; have hf2 := blk_frozen BK.out 2; have hc3 : w3.cell? ⟨g, 3, none⟩ = some (.int .i64 0) := (blk_cell BK.out 3).trans rfl; have hf3 := blk_frozen BK.out 3; skip))
    go_meet
    case rel =>
      refine ⟨g, rfl, rfl, rfl, rfl, GE, ⟨?_⟩, ⟨?_⟩⟩
      · refine blk_put (cs := #[.int .i64 y, .int .i64 m, .int .i64 d, .int .i64 0]) ?_ 3 _ rfl
        refine blk_put (cs := #[.int .i64 y, .int .i64 m, .int .i64 0, .int .i64 0]) ?_ 2 _ rfl
        refine blk_put (cs := #[.int .i64 y, .int .i64 0, .int .i64 0, .int .i64 0]) ?_ 1 _ rfl
        refine blk_put (cs := #[.int .i64 0, .int .i64 0, .int .i64 0, .int .i64 0]) ?_ 0 _ rfl
        with_reducible exact BK.out
      · with_reducible refine below_set ?_ GE.out
        with_reducible refine below_set ?_ GE.out
        with_reducible refine below_set ?_ GE.out
        with_reducible refine below_set ?_ GE.out
        with_reducible exact HB3.out
  case rest =>
    obtain ⟨g, rfl, rfl, rfl, rfl, GE, BK, HB⟩ := hcut
    have t0 : decide (s < 0) = false := decide_eq_false (by omega)
    have t1 : decide (s > 86399) = false := decide_eq_false (by omega)
    have t2 : decide (86399 < s) = false := t1
    have em := A_em.out
    have em0 : (m == 2) = false := beq_eq_false_iff_ne.mpr em
    clear em
    have hc0 : wc.cell? ⟨g, 0, none⟩ = some (.int .i64 y) := (blk_cell BK.out 0).trans rfl
    have hf0 := blk_frozen BK.out 0
    have hc1 : wc.cell? ⟨g, 1, none⟩ = some (.int .i64 m) := (blk_cell BK.out 1).trans rfl
    have hf1 := blk_frozen BK.out 1
    have hc2 : wc.cell? ⟨g, 2, none⟩ = some (.int .i64 d) := (blk_cell BK.out 2).trans rfl
    have hf2 := blk_frozen BK.out 2
    have hc3 : wc.cell? ⟨g, 3, none⟩ = some (.int .i64 wk) := (blk_cell BK.out 3).trans rfl
    have hf3 := blk_frozen BK.out 3
    go_upto_region 8 with (fail)
    go_cut [0, 1, 5, 6] (fun v0 v1 v5 v6 wc => v0 = .int .i64 a0 ∧ v1 = .int .i64 a1 ∧ v5 = .pointer (some ⟨g, 0, none⟩) ∧ v6 = .int .i64 s ∧ Aside0 (wc.heap[g]? = some (.cells #[.int .i64 y, .int .i64 m, .int .i64 d, .int .i64 a1] 24 (0, 0))) ∧ Aside0 (Below w.heap.size w wc))
    case first =>
      go_wp2
      go_meet
      case rel =>
        refine ⟨rfl, rfl, rfl, rfl, ⟨?_⟩, ⟨?_⟩⟩
        · refine blk_put (cs := #[.int .i64 y, .int .i64 m, .int .i64 d, .int .i64 wk]) ?_ 3 _ rfl
          with_reducible exact BK.out
        · with_reducible refine below_set ?_ GE.out
          with_reducible exact HB.out
    case rest =>
      clear hc0 hc1 hc2 hc3 hf0 hf1 hf2 hf3
      clear BK HB
      obtain ⟨rfl, rfl, rfl, rfl, BK, HB⟩ := hcut
      have hc0 : wc.cell? ⟨g, 0, none⟩ = some (.int .i64 y) := (blk_cell BK.out 0).trans rfl
      have hf0 := blk_frozen BK.out 0
      have hc1 : wc.cell? ⟨g, 1, none⟩ = some (.int .i64 m) := (blk_cell BK.out 1).trans rfl
      have hf1 := blk_frozen BK.out 1
      have hc2 : wc.cell? ⟨g, 2, none⟩ = some (.int .i64 d) := (blk_cell BK.out 2).trans rfl
      have hf2 := blk_frozen BK.out 2
      have hc3 : wc.cell? ⟨g, 3, none⟩ = some (.int .i64 a1) := (blk_cell BK.out 3).trans rfl
      have hf3 := blk_frozen BK.out 3
      go_wp2_with ((go_at_call 14; (with_reducible refine (date_Tick.calls k y m d a1 s _ _ _ HT.out).mono ?_); rintro e w6 ⟨rfl, hb⟩; have HB6 := Aside0.mk (below_step HB.out hb); clear hb))
      go_ret
      exact ⟨by first | rfl | simp, HB6.out⟩
theorem mandolinelaw06_DateBack.none_day (k : Nat) (a0 a1 : Int) (w : World) (hG : Glob w) (hw : mandolinelaw06_wakes.f k = some true) (h : a0 < 0 ∨ a0 > 253402300799) :
    Calls Tryd.prog 9 #[.int .i64 a0, .int .i64 a1] w fun e w' => e = .returned (.bool true) ∧ Below w.heap.size w w' := by
  have HG := Aside0.mk hG
  have HW := Aside0.mk hw
  clear hG hw
  by_cases h0 : a0 < 0
  · have b0 : decide (a0 < 0) = true := decide_eq_true h0
    clear h
    go_enter Tryd.func9, Tryd.ntmps9
    go_wp2_with ((go_at_call 10; (with_reducible refine (mandolinelaw06_wakes.calls k _ _ HG.out HW.out).mono ?_); rintro e w1 ⟨rfl, hb⟩; have HB1 := Aside0.mk hb; clear hb))
    go_ret
    exact ⟨rfl, HB1.out⟩
  · have h1 : a0 > 253402300799 := h.resolve_left h0
    have b0 : decide (a0 < 0) = false := decide_eq_false h0
    have b1 : decide (a0 > 253402300799) = true := decide_eq_true h1
    have b1' : decide (253402300799 < a0) = true := b1
    clear h
    go_enter Tryd.func9, Tryd.ntmps9
    go_wp2_with ((go_at_call 10; (with_reducible refine (mandolinelaw06_wakes.calls k _ _ HG.out HW.out).mono ?_); rintro e w1 ⟨rfl, hb⟩; have HB1 := Aside0.mk hb; clear hb))
    go_ret
    exact ⟨rfl, HB1.out⟩
theorem mandolinelaw06_DateBack.mono : ∀ a0 a1 k, LeO (mandolinelaw06_DateBack.f k a0 a1) (mandolinelaw06_DateBack.f (k + 1) a0 a1) := by
  intro a0 a1 k
  have hfin : ∀ r, LeO (mandolinelaw06_DateBack.fin k a0 a1 r) (mandolinelaw06_DateBack.fin (k + 1) a0 a1 r) := fun r => by
    unfold mandolinelaw06_DateBack.fin
    exact LeO.bind (date_Tick.mono _ _ _ _ _ k) (fun _ => LeO.refl _)
  unfold mandolinelaw06_DateBack.f
  refine LeO.bind (mandolinelaw06_wakes.mono k) (fun _ => LeO.ite (LeO.ite (LeO.refl _) (LeO.bind (date_Of.mono _ k) (fun r => ?_))) (LeO.refl _))
  unfold mandolinelaw06_DateBack.day
  exact LeO.ite (LeO.ite (LeO.bind (LeO.refl _) (fun _ => LeO.ite (hfin r) (LeO.refl _))) (hfin r)) (LeO.refl _)
theorem mandolinelaw06_DateBack.calls (k : Nat) (a0 : Int) (a1 : Int) (r : Bool) (w : World) (hG : Glob w) (h : mandolinelaw06_DateBack.f k a0 a1 = some r) :
    Calls Tryd.prog 9 #[.int .i64 a0, .int .i64 a1] w fun e w' => e = .returned (.bool r) ∧ Below w.heap.size w w' := by
  unfold mandolinelaw06_DateBack.f at h
  obtain ⟨t, hw, h⟩ := Option.bind_eq_some_iff.mp h
  cases t with
  | false => simp at h
  | true =>
    rw [if_pos rfl] at h
    by_cases hb : a0 < 0 ∨ a0 > 253402300799
    · rw [if_pos hb] at h
      obtain rfl := Option.some.inj h
      exact mandolinelaw06_DateBack.none_day k a0 a1 w hG hw hb
    rw [if_neg hb] at h
    obtain ⟨⟨y, m, d, wk, s⟩, ho, h⟩ := Option.bind_eq_some_iff.mp h
    unfold mandolinelaw06_DateBack.day at h
    by_cases hs : 0 ≤ s ∧ s ≤ 86399
    · rw [if_pos hs] at h
      have fin : ∀ {X : Option Bool}, X = mandolinelaw06_DateBack.fin k a0 a1 (y, m, d, wk, s) → X = some r → date_Tick.f k y m d a1 s = some (a0, 0) ∧ r = true := by
        intro X e1 e2
        rw [e1] at e2
        unfold mandolinelaw06_DateBack.fin at e2
        obtain ⟨⟨t1, t2⟩, ht, e3⟩ := Option.bind_eq_some_iff.mp e2
        by_cases hc : t1 = a0 ∧ t2 = 0
        · replace e3 : some true = some r := by rw [← e3]; exact (if_pos hc).symm
          have ht' : date_Tick.f k y m d a1 s = some (t1, t2) := ht
          rw [hc.1, hc.2] at ht'
          exact ⟨ht', (Option.some.inj e3).symm⟩
        · replace e3 : (none : Option Bool) = some r := by rw [← e3]; exact (if_neg hc).symm
          exact absurd e3 (by simp)
      by_cases h29 : m = 2 ∧ d = 29
      · rw [if_pos h29] at h
        obtain ⟨l, hl, h⟩ := Option.bind_eq_some_iff.mp h
        cases l with
        | false => simp at h
        | true =>
          rw [if_pos rfl] at h
          obtain ⟨ht, rfl⟩ := fin rfl h
          exact mandolinelaw06_DateBack.leaps k a0 a1 y m d wk s w hG hw ho (fun e => hb (.inl e)) (fun e => hb (.inr e)) (by omega) (by omega) h29.1 h29.2 hl ht
      · rw [if_neg h29] at h
        obtain ⟨ht, rfl⟩ := fin rfl h
        by_cases hm : m = 2
        · exact mandolinelaw06_DateBack.plain k a0 a1 y m d wk s w hG hw ho (fun e => hb (.inl e)) (fun e => hb (.inr e)) (by omega) (by omega) hm (fun e => h29 ⟨hm, e⟩) ht
        · exact mandolinelaw06_DateBack.other k a0 a1 y m d wk s w hG hw ho (fun e => hb (.inl e)) (fun e => hb (.inr e)) (by omega) (by omega) hm ht
    · rw [if_neg hs] at h
      exact absurd h (by simp)


end Go.Proofs.YtiifmbajiibciaaDoor.X
