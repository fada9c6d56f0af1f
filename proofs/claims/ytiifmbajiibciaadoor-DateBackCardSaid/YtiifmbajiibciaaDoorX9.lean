-- Printed by a program of this session (pp.py: the kit's print.py, run with contracts of its own) out of the translation. Not trusted: Lean checks it.
import Derived.Test.YtiifmbajiibciaaDoorX0
import Derived.Test.YtiifmbajiibciaaDoorX8
namespace Go.Proofs.YtiifmbajiibciaaDoor.X
open Go.RowKit Go.Proofs.YtiifmbajiibciaaDoorW.PrintWords Go.Proofs.YtiifmbajiibciaaDoorW.PrintLast Go.Proofs.YtiifmbajiibciaaDoorW.PrintMore
attribute [local go_sem] max2_int min2_int max_two min_two max_three min_three max_four min_four   -- for this text's walks alone
set_option linter.unusedVariables false
set_option linter.unusedSimpArgs false

/-! ### mandolineref06_Of: function 12 -/
mutual
def mandolineref06_Of.j0 : Nat → Int → Bool → Option (Int × Int × Int × Int × Int)
  | 0, _, _ => none
  | k + 1, x0, x13 => if x13 = true then (some (0, 0, 0, 0, 0)) else (mandolineref06_Of.l0 k x0 (wrap64 (Int.tdiv x0 86400)) (wrap64 (1970 + (wrap64 (Int.tdiv (wrap64 (Int.tdiv x0 86400)) 366)))))
def mandolineref06_Of.l0 : Nat → Int → Int → Int → Option (Int × Int × Int × Int × Int)
  | 0, _, _, _ => none
  | k + 1, x0, x4, x5 => (mandolineref06_before.f (wrap64 (x5 + 1))).bind fun t144 => (if t144 ≤ x4 then (mandolineref06_Of.l0 k x0 x4 (wrap64 (x5 + 1))) else ((mandolineref06_before.f x5).bind fun t145 => (mandolineref06_Of.l1 k x0 x4 x5 (wrap64 (x4 - t145)) 1)))
def mandolineref06_Of.l1 : Nat → Int → Int → Int → Int → Int → Option (Int × Int × Int × Int × Int)
  | 0, _, _, _, _, _ => none
  | k + 1, x0, x4, x5, x6, x7 => (mandolineref06_days.f x5 x7).bind fun t146 => (if x6 ≥ t146 then ((mandolineref06_days.f x5 x7).bind fun t147 => (mandolineref06_Of.l1 k x0 x4 x5 (wrap64 (x6 - t147)) (wrap64 (x7 + 1)))) else (some (x5, x7, wrap64 (x6 + 1), Int.tmod (wrap64 (x4 + 4)) 7, Int.tmod x0 86400)))
end
def mandolineref06_Of.f (k : Nat) (a0 : Int) : Option (Int × Int × Int × Int × Int) := if a0 < 0 then (mandolineref06_Of.j0 k a0 true) else (mandolineref06_Of.j0 k a0 (decide (a0 > 253402300799)))
theorem mandolineref06_Of.mono_l : ∀ k, (∀ y0 y1, LeO (mandolineref06_Of.j0 k y0 y1) (mandolineref06_Of.j0 (k + 1) y0 y1)) ∧ (∀ y0 y1 y2, LeO (mandolineref06_Of.l0 k y0 y1 y2) (mandolineref06_Of.l0 (k + 1) y0 y1 y2)) ∧ (∀ y0 y1 y2 y3 y4, LeO (mandolineref06_Of.l1 k y0 y1 y2 y3 y4) (mandolineref06_Of.l1 (k + 1) y0 y1 y2 y3 y4))
  | 0 => ⟨fun _ _ r h => by simp [mandolineref06_Of.j0] at h, fun _ _ _ r h => by simp [mandolineref06_Of.l0] at h, fun _ _ _ _ _ r h => by simp [mandolineref06_Of.l1] at h⟩
  | k + 1 => by
    obtain ⟨ih0, ih1, ih2⟩ := mandolineref06_Of.mono_l k
    refine ⟨?_, ?_, ?_⟩
    · intro y0 y1
      unfold mandolineref06_Of.j0
      repeat' first
      | (with_reducible exact ih0 _ _)
      | (with_reducible exact ih1 _ _ _)
      | (with_reducible exact ih2 _ _ _ _ _)
      | (with_reducible exact LeO.refl _)
      | (with_reducible exact LeO.none _)
      | (with_reducible refine LeO.ite ?_ ?_)
      | (with_reducible refine LeO.bind ?_ (fun _ => ?_))
      | exact ih0 _ _
      | exact ih1 _ _ _
      | exact ih2 _ _ _ _ _
      | exact LeO.none _
      | refine LeO.ite ?_ ?_
      | refine LeO.bind ?_ (fun _ => ?_)
    · intro y0 y1 y2
      unfold mandolineref06_Of.l0
      repeat' first
      | (with_reducible exact ih0 _ _)
      | (with_reducible exact ih1 _ _ _)
      | (with_reducible exact ih2 _ _ _ _ _)
      | (with_reducible exact LeO.refl _)
      | (with_reducible exact LeO.none _)
      | (with_reducible refine LeO.ite ?_ ?_)
      | (with_reducible refine LeO.bind ?_ (fun _ => ?_))
      | exact ih0 _ _
      | exact ih1 _ _ _
      | exact ih2 _ _ _ _ _
      | exact LeO.none _
      | refine LeO.ite ?_ ?_
      | refine LeO.bind ?_ (fun _ => ?_)
    · intro y0 y1 y2 y3 y4
      unfold mandolineref06_Of.l1
      repeat' first
      | (with_reducible exact ih0 _ _)
      | (with_reducible exact ih1 _ _ _)
      | (with_reducible exact ih2 _ _ _ _ _)
      | (with_reducible exact LeO.refl _)
      | (with_reducible exact LeO.none _)
      | (with_reducible refine LeO.ite ?_ ?_)
      | (with_reducible refine LeO.bind ?_ (fun _ => ?_))
      | exact ih0 _ _
      | exact ih1 _ _ _
      | exact ih2 _ _ _ _ _
      | exact LeO.none _
      | refine LeO.ite ?_ ?_
      | refine LeO.bind ?_ (fun _ => ?_)
theorem mandolineref06_Of.mono : ∀ a0 k, LeO (mandolineref06_Of.f k a0) (mandolineref06_Of.f (k + 1) a0) := by
  intro a0 k
  obtain ⟨ih0, ih1, ih2⟩ := mandolineref06_Of.mono_l k
  unfold mandolineref06_Of.f
  repeat' first
      | (with_reducible exact ih0 _ _)
      | (with_reducible exact ih1 _ _ _)
      | (with_reducible exact ih2 _ _ _ _ _)
      | (with_reducible exact LeO.refl _)
      | (with_reducible exact LeO.none _)
      | (with_reducible refine LeO.ite ?_ ?_)
      | (with_reducible refine LeO.bind ?_ (fun _ => ?_))
      | exact ih0 _ _
      | exact ih1 _ _ _
      | exact ih2 _ _ _ _ _
      | exact LeO.none _
      | refine LeO.ite ?_ ?_
      | refine LeO.bind ?_ (fun _ => ?_)
set_option maxHeartbeats 8000000 in
set_option maxRecDepth 100000 in
theorem mandolineref06_Of.calls (k : Nat) (a0 : Int) (r1 : Int) (r2 : Int) (r3 : Int) (r4 : Int) (r5 : Int) (w : World) (h : mandolineref06_Of.f k a0 = some (r1, r2, r3, r4, r5)) :
    Calls Tryd.prog 12 #[.int .i64 a0] w fun e w' => e = .returned (.tuple #[.agg #[.int .i64 r1, .int .i64 r2, .int .i64 r3, .int .i64 r4], .int .i64 r5]) ∧ Below w.heap.size w w' := by
  have hu27 := Tryd.underlying27
  have HB := Aside0.mk (Below.refl w.heap.size w)
  have H : (if a0 < 0 then (mandolineref06_Of.j0 k a0 true) else (mandolineref06_Of.j0 k a0 (decide (a0 > 253402300799)))) = some (r1, r2, r3, r4, r5) := h
  clear h
  have HC2 := Aside0.mk H
  clear H
  go_enter Tryd.func12, Tryd.ntmps12
  go_upto_region 1 with (first | ((with_reducible refine gate_dst (N := 2) rfl ?_); refine box_event ?hg (N := 2) ?hd (cs := #[.int .i64 0, .int .i64 0, .int .i64 0, .int .i64 0]) (t := 27) ?hr ?_; (case hd => rfl); (case hg => rfl); (case hr => first | (go_simp; done) | (go_simp; rfl)); intro gb143 hg w3 hbox hb; have n0_ := Aside0.mk (below_step (by repeat (first | (with_reducible first | exact HB.out | apply below_alloc | apply pw_below_drewN | apply below_drew1) | exact HB.out)) hb); have n1_ := Aside0.mk (hbox); have n2_ := Aside0.mk ((by rw [hg]; exact (below_size (by repeat (first | (with_reducible first | exact HB.out | apply below_alloc | apply pw_below_drewN | apply below_drew1) | exact HB.out))) : w.heap.size ≤ gb143)); have n3_ := Aside0.mk ((by rw [hg]; exact (below_size (by repeat (first | (with_reducible first | exact HB.out | apply below_alloc | apply pw_below_drewN | apply below_drew1) | exact HB.out))) : w.heap.size ≤ gb143)); clear HB; have HB := n0_; have BK143 := n1_; have GW143 := n2_; have GE143 := n3_; clear n0_ n1_ n2_ n3_; clear hb hbox hg))
  (try simp only [Act.put, List.setIfInBounds_toArray, List.set_cons_zero, List.set_cons_succ])
  go_cut [13] (fun v13 wc => ∃ (kq : Nat) (x13_1 : Bool), v13 = .bool x13_1 ∧ Aside0 (mandolineref06_Of.j0 kq a0 x13_1 = some (r1, r2, r3, r4, r5)) ∧ Aside0 (kq ≤ k) ∧ Aside0 (wc.heap[gb143]? = some (.cells #[.int .i64 0, .int .i64 0, .int .i64 0, .int .i64 0] 27 (0, 0))) ∧ Aside0 (Below w.heap.size w wc))
  case first =>
    have H := HC2.out
    clear HC2
    by_cases c4 : a0 < 0
    · rw [if_pos c4] at H
      have c4b0 : decide (a0 < 0) = true := decide_eq_true c4
      clear c4
      (first | rw [c4b0] | (simp only [i64_w, i32_w]; rw [c4b0]) | skip)
      have H' := Aside0.mk H
      clear H
      go_wp2
      go_meet
      case rel => exact ⟨_, (true), (by first | rfl | (simp; done) | (simp [*]; done)), H', ⟨by first | omega | exact Nat.le_refl _⟩, ⟨by (with_reducible repeat (first | refine blk_drewN ?_ _ | refine blk_drew ?_ | refine blk_alloc ?_ _)); exact BK143.out⟩, ⟨by repeat (first | (with_reducible first | exact HB.out | apply below_alloc | apply pw_below_drewN | apply below_drew1 | refine below_set ?_ GE143.out) | exact HB.out)⟩⟩
    · rw [if_neg c4] at H
      have c4b0 : decide (a0 < 0) = false := decide_eq_false c4
      clear c4
      (first | rw [c4b0] | (simp only [i64_w, i32_w]; rw [c4b0]) | skip)
      have H' := Aside0.mk H
      clear H
      go_wp2
      go_meet
      case rel => exact ⟨_, (decide (a0 > 253402300799)), (by first | rfl | (simp; done) | (simp [*]; done)), H', ⟨by first | omega | exact Nat.le_refl _⟩, ⟨by (with_reducible repeat (first | refine blk_drewN ?_ _ | refine blk_drew ?_ | refine blk_alloc ?_ _)); exact BK143.out⟩, ⟨by repeat (first | (with_reducible first | exact HB.out | apply below_alloc | apply pw_below_drewN | apply below_drew1 | refine below_set ?_ GE143.out) | exact HB.out)⟩⟩
  case rest =>
    clear HC2
    try clear c1
    try clear p2
    try clear c4
    try clear c4b0
    obtain ⟨kq, x13_1, rfl, HA, HJ1, BK143, HB⟩ := hcut
    cases kq with
    | zero => exact absurd HA.out (by simp [mandolineref06_Of.j0])
    | succ kj1 =>
      have H := HA.out
      clear HA
      simp only [mandolineref06_Of.j0] at H
      by_cases c5 : x13_1 = true
      · subst c5
        have H1 : (some (0, 0, 0, 0, 0)) = some (r1, r2, r3, r4, r5) := by rw [if_pos rfl] at H; exact H
        clear H
        have H := H1
        clear H1
        simp only [Option.some.injEq, Prod.mk.injEq] at H
        obtain ⟨rfl, rfl, rfl, rfl, rfl⟩ := H
        have hcz6_0 : wc.cell? ⟨gb143, 0, none⟩ = some (.int .i64 0) := (blk_cell BK143.out 0).trans rfl
        have hcz6_1 : wc.cell? ⟨gb143, 1, none⟩ = some (.int .i64 0) := (blk_cell BK143.out 1).trans rfl
        have hcz6_2 : wc.cell? ⟨gb143, 2, none⟩ = some (.int .i64 0) := (blk_cell BK143.out 2).trans rfl
        have hcz6_3 : wc.cell? ⟨gb143, 3, none⟩ = some (.int .i64 0) := (blk_cell BK143.out 3).trans rfl
        have hfz6_0 := blk_frozen BK143.out 0
        have hfz6_1 := blk_frozen BK143.out 1
        have hfz6_2 := blk_frozen BK143.out 2
        have hfz6_3 := blk_frozen BK143.out 3
        go_wp2
        refine bodyPost_ret (results_ct rfl _ _ gb143 27 #[.int .i64 0, .int .i64 0, .int .i64 0, .int .i64 0] (0, 0) _ rfl (by (with_reducible repeat (first | refine blk_drewN ?_ _ | refine blk_drew ?_ | refine blk_alloc ?_ _)); refine blk_put (cs := #[.int .i64 0, .int .i64 0, .int .i64 0, .int .i64 0]) ?_ 3 _ rfl; (with_reducible repeat (first | refine blk_drewN ?_ _ | refine blk_drew ?_ | refine blk_alloc ?_ _)); refine blk_put (cs := #[.int .i64 0, .int .i64 0, .int .i64 0, .int .i64 0]) ?_ 2 _ rfl; (with_reducible repeat (first | refine blk_drewN ?_ _ | refine blk_drew ?_ | refine blk_alloc ?_ _)); refine blk_put (cs := #[.int .i64 0, .int .i64 0, .int .i64 0, .int .i64 0]) ?_ 1 _ rfl; (with_reducible repeat (first | refine blk_drewN ?_ _ | refine blk_drew ?_ | refine blk_alloc ?_ _)); refine blk_put (cs := #[.int .i64 0, .int .i64 0, .int .i64 0, .int .i64 0]) ?_ 0 _ rfl; (with_reducible repeat (first | refine blk_drewN ?_ _ | refine blk_drew ?_ | refine blk_alloc ?_ _)); exact BK143.out) Tryd.underlying27 rfl (by kernel_rfl)) rfl ?_
        exact ⟨by first | rfl | (simp [errW_none, errW_some] <;> rfl) | (simp [*, errW_none, errW_some] <;> rfl), by repeat (first | (with_reducible first | exact HB.out | apply below_alloc | apply pw_below_drewN | apply below_drew1 | refine below_set ?_ GE143.out) | exact HB.out)⟩
      · replace c5 := Bool.eq_false_iff.mpr c5
        subst c5
        have H1 : (mandolineref06_Of.l0 kj1 a0 (wrap64 (Int.tdiv a0 86400)) (wrap64 (1970 + (wrap64 (Int.tdiv (wrap64 (Int.tdiv a0 86400)) 366))))) = some (r1, r2, r3, r4, r5) := by rw [if_neg (show ¬ (false = true) by decide)] at H; exact H
        clear H
        have H := H1
        clear H1
        have H' := Aside0.mk H
        clear H
        go_wp2
        go_loopg [5] kj1 (fun kq v5 w' => ∃ (x5_2 : Int), v5 = .int .i64 x5_2 ∧ Aside0 (mandolineref06_Of.l0 kq a0 (wrap64 (Int.tdiv a0 86400)) x5_2 = some (r1, r2, r3, r4, r5)) ∧ Aside0 (kq ≤ kj1) ∧ Aside0 (w'.heap[gb143]? = some (.cells #[.int .i64 0, .int .i64 0, .int .i64 0, .int .i64 0] 27 (0, 0))) ∧ Aside0 (Below w.heap.size w w'))
        case atStart => exact ⟨(wrap64 (1970 + (wrap64 (Int.tdiv (wrap64 (Int.tdiv a0 86400)) 366)))), (by first | rfl | (simp; done) | (simp [*]; done)), H', ⟨Nat.le_refl _⟩, ⟨by (with_reducible repeat (first | refine blk_drewN ?_ _ | refine blk_drew ?_ | refine blk_alloc ?_ _)); exact BK143.out⟩, ⟨by repeat (first | (with_reducible first | exact HB.out | apply below_alloc | apply pw_below_drewN | apply below_drew1 | refine below_set ?_ GE143.out) | exact HB.out)⟩⟩
        case round =>
          clear H'
          try clear c1
          try clear p2
          try clear c4
          try clear c4b0
          try clear c5
          try clear p6
          try clear hcz6_0
          try clear hcz6_1
          try clear hcz6_2
          try clear hcz6_3
          try clear hfz6_0
          try clear hfz6_1
          try clear hfz6_2
          try clear hfz6_3
          try clear p2
          obtain ⟨x5_2, rfl, HA, HK2, BK143, HB⟩ := hrel
          cases gk with
          | zero => exact absurd HA.out (by simp [mandolineref06_Of.l0])
          | succ k2 =>
            have H := HA.out
            clear HA
            simp only [mandolineref06_Of.l0] at H
            replace H := Option.bind_eq_some_iff.mp H
            obtain ⟨t144, A70, H⟩ := H
            replace H : (if t144 ≤ (wrap64 (Int.tdiv a0 86400)) then (mandolineref06_Of.l0 k2 a0 (wrap64 (Int.tdiv a0 86400)) (wrap64 (x5_2 + 1))) else ((mandolineref06_before.f x5_2).bind fun t145 => (mandolineref06_Of.l1 k2 a0 (wrap64 (Int.tdiv a0 86400)) x5_2 (wrap64 ((wrap64 (Int.tdiv a0 86400)) - t145)) 1))) = some (r1, r2, r3, r4, r5) := H
            have A7 := Aside0.mk A70
            clear A70
            by_cases c8 : t144 ≤ (wrap64 (Int.tdiv a0 86400))
            · rw [if_pos c8] at H
              have c8b0 : decide (t144 ≤ (wrap64 (Int.tdiv a0 86400))) = true := decide_eq_true c8
              clear c8
              have H' := Aside0.mk H
              clear H
              go_wp2_with (first | ((with_reducible refine gate_callee (f := 25) rfl ?_); refine goesL_ (some 22) rfl rfl Tryd.func25 (by kernel_rfl) rfl #[.int .i64 (wrap64 (x5_2 + 1))] rfl (by (try simp only [List.map_toArray, List.map_cons, List.map_nil]); first | done | rfl | (simp only [List.length_drop, List.length_take]; rfl)) ?_; (with_reducible refine (mandolineref06_before.calls (wrap64 (x5_2 + 1)) t144 _ A7.out).mono ?_); rintro e w' ⟨rfl, ⟨nd, rfl⟩⟩; refine ⟨_, rfl, ?_⟩))
              go_roundg k2
              case measure => have := HJ1.out; have := HK2.out; omega
              case rel => exact ⟨(wrap64 (x5_2 + 1)), (by first | rfl | (simp; done) | (simp [*]; done)), H', ⟨by have := HJ1.out; have := HK2.out; omega⟩, ⟨by (with_reducible repeat (first | refine blk_drewN ?_ _ | refine blk_drew ?_ | refine blk_alloc ?_ _)); exact BK143.out⟩, ⟨by repeat (first | (with_reducible first | exact HB.out | apply below_alloc | apply pw_below_drewN | apply below_drew1 | refine below_set ?_ GE143.out) | exact HB.out)⟩⟩
            · rw [if_neg c8] at H
              have c8b0 : decide (t144 ≤ (wrap64 (Int.tdiv a0 86400))) = false := decide_eq_false c8
              clear c8
              replace H := Option.bind_eq_some_iff.mp H
              obtain ⟨t145, A90, H⟩ := H
              replace H : (mandolineref06_Of.l1 k2 a0 (wrap64 (Int.tdiv a0 86400)) x5_2 (wrap64 ((wrap64 (Int.tdiv a0 86400)) - t145)) 1) = some (r1, r2, r3, r4, r5) := H
              have A9 := Aside0.mk A90
              clear A90
              have H' := Aside0.mk H
              clear H
              go_wp2_with (first | ((with_reducible refine gate_callee (f := 25) rfl ?_); refine goesL_ (some 22) rfl rfl Tryd.func25 (by kernel_rfl) rfl #[.int .i64 (wrap64 (x5_2 + 1))] rfl (by (try simp only [List.map_toArray, List.map_cons, List.map_nil]); first | done | rfl | (simp only [List.length_drop, List.length_take]; rfl)) ?_; (with_reducible refine (mandolineref06_before.calls (wrap64 (x5_2 + 1)) t144 _ A7.out).mono ?_); rintro e w' ⟨rfl, ⟨nd, rfl⟩⟩; refine ⟨_, rfl, ?_⟩) | ((with_reducible refine gate_callee (f := 25) rfl ?_); refine goesL_ (some 29) rfl rfl Tryd.func25 (by kernel_rfl) rfl #[.int .i64 x5_2] rfl (by (try simp only [List.map_toArray, List.map_cons, List.map_nil]); first | done | rfl | (simp only [List.length_drop, List.length_take]; rfl)) ?_; (with_reducible refine (mandolineref06_before.calls x5_2 t145 _ A9.out).mono ?_); rintro e w' ⟨rfl, ⟨nd, rfl⟩⟩; refine ⟨_, rfl, ?_⟩))
              go_loopg [6, 7] k2 (fun kq v6 v7 w' => ∃ (x6_3 : Int) (x7_3 : Int), v6 = .int .i64 x6_3 ∧ v7 = .int .i64 x7_3 ∧ Aside0 (mandolineref06_Of.l1 kq a0 (wrap64 (Int.tdiv a0 86400)) x5_2 x6_3 x7_3 = some (r1, r2, r3, r4, r5)) ∧ Aside0 (kq ≤ k2) ∧ Aside0 (w'.heap[gb143]? = some (.cells #[.int .i64 0, .int .i64 0, .int .i64 0, .int .i64 0] 27 (0, 0))) ∧ Aside0 (Below w.heap.size w w'))
              case atStart => exact ⟨(wrap64 ((wrap64 (Int.tdiv a0 86400)) - t145)), (1), (by first | rfl | (simp; done) | (simp [*]; done)), (by first | rfl | (simp; done) | (simp [*]; done)), H', ⟨Nat.le_refl _⟩, ⟨by (with_reducible repeat (first | refine blk_drewN ?_ _ | refine blk_drew ?_ | refine blk_alloc ?_ _)); exact BK143.out⟩, ⟨by repeat (first | (with_reducible first | exact HB.out | apply below_alloc | apply pw_below_drewN | apply below_drew1 | refine below_set ?_ GE143.out) | exact HB.out)⟩⟩
              case round =>
                clear H'
                try clear c1
                try clear c2
                try clear p2
                try clear c4
                try clear c4b0
                try clear c5
                try clear p6
                try clear c8
                try clear c8b0
                try clear hcz6_0
                try clear hcz6_1
                try clear hcz6_2
                try clear hcz6_3
                try clear hfz6_0
                try clear hfz6_1
                try clear hfz6_2
                try clear hfz6_3
                try clear p2
                try clear p6
                obtain ⟨x6_3, x7_3, rfl, rfl, HA, HK3, BK143, HB⟩ := hrel
                cases gk with
                | zero => exact absurd HA.out (by simp [mandolineref06_Of.l1])
                | succ k3 =>
                  have H := HA.out
                  clear HA
                  simp only [mandolineref06_Of.l1] at H
                  replace H := Option.bind_eq_some_iff.mp H
                  obtain ⟨t146, A100, H⟩ := H
                  replace H : (if x6_3 ≥ t146 then ((mandolineref06_days.f x5_2 x7_3).bind fun t147 => (mandolineref06_Of.l1 k3 a0 (wrap64 (Int.tdiv a0 86400)) x5_2 (wrap64 (x6_3 - t147)) (wrap64 (x7_3 + 1)))) else (some (x5_2, x7_3, wrap64 (x6_3 + 1), Int.tmod (wrap64 ((wrap64 (Int.tdiv a0 86400)) + 4)) 7, Int.tmod a0 86400))) = some (r1, r2, r3, r4, r5) := H
                  have A10 := Aside0.mk A100
                  clear A100
                  by_cases c11 : x6_3 ≥ t146
                  · rw [if_pos c11] at H
                    have c11b0 : decide (t146 ≤ x6_3) = true := decide_eq_true c11
                    clear c11
                    replace H := Option.bind_eq_some_iff.mp H
                    obtain ⟨t147, A120, H⟩ := H
                    replace H : (mandolineref06_Of.l1 k3 a0 (wrap64 (Int.tdiv a0 86400)) x5_2 (wrap64 (x6_3 - t147)) (wrap64 (x7_3 + 1))) = some (r1, r2, r3, r4, r5) := H
                    have A12 := Aside0.mk A120
                    clear A120
                    have H' := Aside0.mk H
                    clear H
                    go_wp2_with (first | ((with_reducible refine gate_callee (f := 26) rfl ?_); refine goesL_ (some 34) rfl rfl Tryd.func26 (by kernel_rfl) rfl #[.int .i64 x5_2, .int .i64 x7_3] rfl (by (try simp only [List.map_toArray, List.map_cons, List.map_nil]); first | done | rfl | (simp only [List.length_drop, List.length_take]; rfl)) ?_; (with_reducible refine (mandolineref06_days.calls x5_2 x7_3 t146 _ A10.out).mono ?_); rintro e w' ⟨rfl, ⟨nd, rfl⟩⟩; refine ⟨_, rfl, ?_⟩) | ((with_reducible refine gate_callee (f := 26) rfl ?_); refine goesL_ (some 39) rfl rfl Tryd.func26 (by kernel_rfl) rfl #[.int .i64 x5_2, .int .i64 x7_3] rfl (by (try simp only [List.map_toArray, List.map_cons, List.map_nil]); first | done | rfl | (simp only [List.length_drop, List.length_take]; rfl)) ?_; (with_reducible refine (mandolineref06_days.calls x5_2 x7_3 t147 _ A12.out).mono ?_); rintro e w' ⟨rfl, ⟨nd, rfl⟩⟩; refine ⟨_, rfl, ?_⟩))
                    go_roundg k3
                    case measure => have := HJ1.out; have := HK2.out; have := HK3.out; omega
                    case rel => exact ⟨(wrap64 (x6_3 - t147)), (wrap64 (x7_3 + 1)), (by first | rfl | (simp; done) | (simp [*]; done)), (by first | rfl | (simp; done) | (simp [*]; done)), H', ⟨by have := HJ1.out; have := HK2.out; have := HK3.out; omega⟩, ⟨by (with_reducible repeat (first | refine blk_drewN ?_ _ | refine blk_drew ?_ | refine blk_alloc ?_ _)); exact BK143.out⟩, ⟨by repeat (first | (with_reducible first | exact HB.out | apply below_alloc | apply pw_below_drewN | apply below_drew1 | refine below_set ?_ GE143.out) | exact HB.out)⟩⟩
                  · rw [if_neg c11] at H
                    have c11b0 : decide (t146 ≤ x6_3) = false := decide_eq_false c11
                    clear c11
                    simp only [Option.some.injEq, Prod.mk.injEq] at H
                    obtain ⟨rfl, rfl, rfl, rfl, rfl⟩ := H
                    go_wp2_with (first | ((with_reducible refine gate_callee (f := 26) rfl ?_); refine goesL_ (some 34) rfl rfl Tryd.func26 (by kernel_rfl) rfl #[.int .i64 x5_2, .int .i64 x7_3] rfl (by (try simp only [List.map_toArray, List.map_cons, List.map_nil]); first | done | rfl | (simp only [List.length_drop, List.length_take]; rfl)) ?_; (with_reducible refine (mandolineref06_days.calls x5_2 x7_3 t146 _ A10.out).mono ?_); rintro e w' ⟨rfl, ⟨nd, rfl⟩⟩; refine ⟨_, rfl, ?_⟩; (try (rw [drewN_self wr]; generalize hq_ : World.drewN wr _ = wr; have n0_ : Aside0 (wr.heap[gb143]? = some (.cells #[.int .i64 0, .int .i64 0, .int .i64 0, .int .i64 0] 27 (0, 0))) := ⟨by rw [← hq_]; exact (by (with_reducible repeat (first | refine blk_drewN ?_ _ | refine blk_drew ?_ | refine blk_alloc ?_ _)); exact BK143.out)⟩; have n1_ : Aside0 (Below w.heap.size w wr) := ⟨by rw [← hq_]; exact (by repeat (first | (with_reducible first | exact HB.out | apply below_alloc | apply pw_below_drewN | apply below_drew1 | refine below_set ?_ GE143.out) | exact HB.out))⟩; clear BK143 HB hq_; have BK143 := n0_; have HB := n1_; clear n0_ n1_)); have hcz13_0 : wr.cell? ⟨gb143, 0, none⟩ = some (.int .i64 0) := (blk_cell BK143.out 0).trans rfl; have hcz13_1 : wr.cell? ⟨gb143, 1, none⟩ = some (.int .i64 0) := (blk_cell BK143.out 1).trans rfl; have hcz13_2 : wr.cell? ⟨gb143, 2, none⟩ = some (.int .i64 0) := (blk_cell BK143.out 2).trans rfl; have hcz13_3 : wr.cell? ⟨gb143, 3, none⟩ = some (.int .i64 0) := (blk_cell BK143.out 3).trans rfl; have hfz13_0 := blk_frozen BK143.out 0; have hfz13_1 := blk_frozen BK143.out 1; have hfz13_2 := blk_frozen BK143.out 2; have hfz13_3 := blk_frozen BK143.out 3))
                    refine bodyPost_ret (results_ct rfl _ _ gb143 27 #[.int .i64 x5_2, .int .i64 x7_3, .int .i64 (wrap64 (x6_3 + 1)), .int .i64 (Int.tmod (wrap64 ((wrap64 (Int.tdiv a0 86400)) + 4)) 7)] (0, 0) _ rfl (by (with_reducible repeat (first | refine blk_drewN ?_ _ | refine blk_drew ?_ | refine blk_alloc ?_ _)); refine blk_put (cs := #[.int .i64 x5_2, .int .i64 x7_3, .int .i64 (wrap64 (x6_3 + 1)), .int .i64 0]) ?_ 3 _ rfl; (with_reducible repeat (first | refine blk_drewN ?_ _ | refine blk_drew ?_ | refine blk_alloc ?_ _)); refine blk_put (cs := #[.int .i64 x5_2, .int .i64 x7_3, .int .i64 0, .int .i64 0]) ?_ 2 _ rfl; (with_reducible repeat (first | refine blk_drewN ?_ _ | refine blk_drew ?_ | refine blk_alloc ?_ _)); refine blk_put (cs := #[.int .i64 x5_2, .int .i64 0, .int .i64 0, .int .i64 0]) ?_ 1 _ rfl; (with_reducible repeat (first | refine blk_drewN ?_ _ | refine blk_drew ?_ | refine blk_alloc ?_ _)); refine blk_put (cs := #[.int .i64 0, .int .i64 0, .int .i64 0, .int .i64 0]) ?_ 0 _ rfl; (with_reducible repeat (first | refine blk_drewN ?_ _ | refine blk_drew ?_ | refine blk_alloc ?_ _)); exact BK143.out) Tryd.underlying27 rfl (by kernel_rfl)) rfl ?_
                    exact ⟨by first | rfl | (simp [errW_none, errW_some] <;> rfl) | (simp [*, errW_none, errW_some] <;> rfl), by repeat (first | (with_reducible first | exact HB.out | apply below_alloc | apply pw_below_drewN | apply below_drew1 | refine below_set ?_ GE143.out) | exact HB.out)⟩

end Go.Proofs.YtiifmbajiibciaaDoor.X
