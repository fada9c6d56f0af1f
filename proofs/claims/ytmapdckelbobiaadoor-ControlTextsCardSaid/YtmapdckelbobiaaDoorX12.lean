-- Printed by a program of this session (pp.py: the kit's print.py, run with contracts of its own) out of the translation. Not trusted: Lean checks it.
import Derived.Test.YtmapdckelbobiaaDoorX0
import Derived.Test.YtmapdckelbobiaaDoorX11
namespace Go.Proofs.YtmapdckelbobiaaDoor.X
open Go.RowKit Go.Proofs.YtmapdckelbobiaaDoorW.PrintWords Go.Proofs.YtmapdckelbobiaaDoorW.PrintLast Go.Proofs.YtmapdckelbobiaaDoorW.PrintMore
attribute [local go_sem] max2_int min2_int max_two min_two max_three min_three max_four min_four   -- for this text's walks alone
set_option linter.unusedVariables false
set_option linter.unusedSimpArgs false

/-! ### mandolineref09_one: function 29 -/
mutual
def mandolineref09_one.l0 : Nat → ByteArray → ByteArray → ByteArray → Int → Int → Int → Int → Int → Bool → Bool → Bool → Option (Int × Int × Int × Int × Bool × Bool × Bool)
  | 0, _, _, _, _, _, _, _, _, _, _, _ => none
  | k + 1, x1, x5, x6, x7, x201000, x201001, x201002, x201003, x201004, x201005, x201006 => if x7 ≥ 0 then (if 0 ≤ x7 then (if x7 < (x1.size : Int) then (if (bt x1 x7) = 61 then (if x7 ≤ (x1.size : Int) then (if 0 ≤ (wrap64 (x7 + 1)) then (if (wrap64 (x7 + 1)) ≤ (x1.size : Int) then (mandolineref09_one.l0 k x1 (x1.extract 0 (x7 : Int).toNat) (x1.extract ((wrap64 (x7 + 1)) : Int).toNat x1.size) (wrap64 (x7 - 1)) x201000 x201001 x201002 x201003 x201004 x201005 x201006) else (none)) else (none)) else (none)) else (mandolineref09_one.l0 k x1 x5 x6 (wrap64 (x7 - 1)) x201000 x201001 x201002 x201003 x201004 x201005 x201006)) else (none)) else (none)) else (if (x6.size : Int) ≥ 2 then (if 0 < (x6.size : Int) then (if (bt x6 0) = 34 then (if 0 ≤ (wrap64 ((x6.size : Int) - 1)) then (if (wrap64 ((x6.size : Int) - 1)) < (x6.size : Int) then (mandolineref09_one.j1 k x5 x6 ((bt x6 (wrap64 ((x6.size : Int) - 1))) == 34) x201000 x201001 x201002 x201003 x201004 x201005 x201006) else (none)) else (none)) else (mandolineref09_one.j1 k x5 x6 false x201000 x201001 x201002 x201003 x201004 x201005 x201006)) else (none)) else (mandolineref09_one.j1 k x5 x6 false x201000 x201001 x201002 x201003 x201004 x201005 x201006))
def mandolineref09_one.j1 : Nat → ByteArray → ByteArray → Bool → Int → Int → Int → Int → Bool → Bool → Bool → Option (Int × Int × Int × Int × Bool × Bool × Bool)
  | 0, _, _, _, _, _, _, _, _, _, _ => none
  | k + 1, x5, x6, x42, x201000, x201001, x201002, x201003, x201004, x201005, x201006 => if x42 = true then (if 1 ≤ (wrap64 ((x6.size : Int) - 1)) then (if (wrap64 ((x6.size : Int) - 1)) ≤ (x6.size : Int) then (mandolineref09_one.j2 k x5 (x6.extract 1 ((wrap64 ((x6.size : Int) - 1)) : Int).toNat) x201000 x201001 x201002 x201003 x201004 x201005 x201006) else (none)) else (none)) else (mandolineref09_one.j2 k x5 x6 x201000 x201001 x201002 x201003 x201004 x201005 x201006)
def mandolineref09_one.j2 : Nat → ByteArray → ByteArray → Int → Int → Int → Int → Bool → Bool → Bool → Option (Int × Int × Int × Int × Bool × Bool × Bool)
  | 0, _, _, _, _, _, _, _, _, _ => none
  | k + 1, x5, x6, x201000, x201001, x201002, x201003, x201004, x201005, x201006 => (mandolineref09_lower.f k x5).bind fun t202 => (if t202.toList = ([109, 97, 120, 45, 97, 103, 101] : List UInt8) then ((mandolineref09_number.f k x6).bind fun t203 => ((mandolineref09_less.f x201000 t203).bind fun t204 => (some (t204, x201001, x201002, x201003, x201004, x201005, x201006)))) else (if t202.toList = ([115, 45, 109, 97, 120, 97, 103, 101] : List UInt8) then ((mandolineref09_number.f k x6).bind fun t205 => ((mandolineref09_less.f x201001 t205).bind fun t206 => (some (x201000, t206, x201002, x201003, x201004, x201005, x201006)))) else (if t202.toList = ([115, 116, 97, 108, 101, 45, 119, 104, 105, 108, 101, 45, 114, 101, 118, 97, 108, 105, 100, 97, 116, 101] : List UInt8) then ((mandolineref09_number.f k x6).bind fun t207 => ((mandolineref09_less.f x201002 t207).bind fun t208 => (some (x201000, x201001, t208, x201003, x201004, x201005, x201006)))) else (if t202.toList = ([115, 116, 97, 108, 101, 45, 105, 102, 45, 101, 114, 114, 111, 114] : List UInt8) then ((mandolineref09_number.f k x6).bind fun t209 => ((mandolineref09_less.f x201003 t209).bind fun t210 => (some (x201000, x201001, x201002, t210, x201004, x201005, x201006)))) else (if t202.toList = ([110, 111, 45, 115, 116, 111, 114, 101] : List UInt8) then (some (x201000, x201001, x201002, x201003, true, x201005, x201006)) else (if t202.toList = ([110, 111, 45, 99, 97, 99, 104, 101] : List UInt8) then (some (x201000, x201001, x201002, x201003, x201004, true, x201006)) else (if t202.toList = ([112, 114, 105, 118, 97, 116, 101] : List UInt8) then (some (x201000, x201001, x201002, x201003, x201004, x201005, true)) else (some (x201000, x201001, x201002, x201003, x201004, x201005, x201006)))))))))
end
def mandolineref09_one.f (k : Nat) (a0_0 : Int) (a0_1 : Int) (a0_2 : Int) (a0_3 : Int) (a0_4 : Bool) (a0_5 : Bool) (a0_6 : Bool) (a1 : ByteArray) : Option (Int × Int × Int × Int × Bool × Bool × Bool) := mandolineref09_one.l0 k a1 a1 (⟨#[]⟩ : ByteArray) (wrap64 ((a1.size : Int) - 1)) a0_0 a0_1 a0_2 a0_3 a0_4 a0_5 a0_6
theorem mandolineref09_one.mono_l : ∀ k, (∀ y0 y1 y2 y3 y4 y5 y6 y7 y8 y9 y10, LeO (mandolineref09_one.l0 k y0 y1 y2 y3 y4 y5 y6 y7 y8 y9 y10) (mandolineref09_one.l0 (k + 1) y0 y1 y2 y3 y4 y5 y6 y7 y8 y9 y10)) ∧ (∀ y0 y1 y2 y3 y4 y5 y6 y7 y8 y9, LeO (mandolineref09_one.j1 k y0 y1 y2 y3 y4 y5 y6 y7 y8 y9) (mandolineref09_one.j1 (k + 1) y0 y1 y2 y3 y4 y5 y6 y7 y8 y9)) ∧ (∀ y0 y1 y2 y3 y4 y5 y6 y7 y8, LeO (mandolineref09_one.j2 k y0 y1 y2 y3 y4 y5 y6 y7 y8) (mandolineref09_one.j2 (k + 1) y0 y1 y2 y3 y4 y5 y6 y7 y8))
  | 0 => ⟨fun _ _ _ _ _ _ _ _ _ _ _ r h => by simp [mandolineref09_one.l0] at h, fun _ _ _ _ _ _ _ _ _ _ r h => by simp [mandolineref09_one.j1] at h, fun _ _ _ _ _ _ _ _ _ r h => by simp [mandolineref09_one.j2] at h⟩
  | k + 1 => by
    obtain ⟨ih0, ih1, ih2⟩ := mandolineref09_one.mono_l k
    refine ⟨?_, ?_, ?_⟩
    · intro y0 y1 y2 y3 y4 y5 y6 y7 y8 y9 y10
      unfold mandolineref09_one.l0
      repeat' first
      | (with_reducible exact ih0 _ _ _ _ _ _ _ _ _ _ _)
      | (with_reducible exact ih1 _ _ _ _ _ _ _ _ _ _)
      | (with_reducible exact ih2 _ _ _ _ _ _ _ _ _)
      | (with_reducible exact mandolineref09_lower.mono _ _)
      | (with_reducible exact mandolineref09_number.mono _ _)
      | (with_reducible exact LeO.refl _)
      | (with_reducible exact LeO.none _)
      | (with_reducible refine LeO.ite ?_ ?_)
      | (with_reducible refine LeO.bind ?_ (fun _ => ?_))
      | exact ih0 _ _ _ _ _ _ _ _ _ _ _
      | exact ih1 _ _ _ _ _ _ _ _ _ _
      | exact ih2 _ _ _ _ _ _ _ _ _
      | exact mandolineref09_lower.mono _ _
      | exact mandolineref09_number.mono _ _
      | exact LeO.none _
      | refine LeO.ite ?_ ?_
      | refine LeO.bind ?_ (fun _ => ?_)
    · intro y0 y1 y2 y3 y4 y5 y6 y7 y8 y9
      unfold mandolineref09_one.j1
      repeat' first
      | (with_reducible exact ih0 _ _ _ _ _ _ _ _ _ _ _)
      | (with_reducible exact ih1 _ _ _ _ _ _ _ _ _ _)
      | (with_reducible exact ih2 _ _ _ _ _ _ _ _ _)
      | (with_reducible exact mandolineref09_lower.mono _ _)
      | (with_reducible exact mandolineref09_number.mono _ _)
      | (with_reducible exact LeO.refl _)
      | (with_reducible exact LeO.none _)
      | (with_reducible refine LeO.ite ?_ ?_)
      | (with_reducible refine LeO.bind ?_ (fun _ => ?_))
      | exact ih0 _ _ _ _ _ _ _ _ _ _ _
      | exact ih1 _ _ _ _ _ _ _ _ _ _
      | exact ih2 _ _ _ _ _ _ _ _ _
      | exact mandolineref09_lower.mono _ _
      | exact mandolineref09_number.mono _ _
      | exact LeO.none _
      | refine LeO.ite ?_ ?_
      | refine LeO.bind ?_ (fun _ => ?_)
    · intro y0 y1 y2 y3 y4 y5 y6 y7 y8
      unfold mandolineref09_one.j2
      repeat' first
      | (with_reducible exact ih0 _ _ _ _ _ _ _ _ _ _ _)
      | (with_reducible exact ih1 _ _ _ _ _ _ _ _ _ _)
      | (with_reducible exact ih2 _ _ _ _ _ _ _ _ _)
      | (with_reducible exact mandolineref09_lower.mono _ _)
      | (with_reducible exact mandolineref09_number.mono _ _)
      | (with_reducible exact LeO.refl _)
      | (with_reducible exact LeO.none _)
      | (with_reducible refine LeO.ite ?_ ?_)
      | (with_reducible refine LeO.bind ?_ (fun _ => ?_))
      | exact ih0 _ _ _ _ _ _ _ _ _ _ _
      | exact ih1 _ _ _ _ _ _ _ _ _ _
      | exact ih2 _ _ _ _ _ _ _ _ _
      | exact mandolineref09_lower.mono _ _
      | exact mandolineref09_number.mono _ _
      | exact LeO.none _
      | refine LeO.ite ?_ ?_
      | refine LeO.bind ?_ (fun _ => ?_)
theorem mandolineref09_one.mono : ∀ a0 a1 a2 a3 a4 a5 a6 a7 k, LeO (mandolineref09_one.f k a0 a1 a2 a3 a4 a5 a6 a7) (mandolineref09_one.f (k + 1) a0 a1 a2 a3 a4 a5 a6 a7) := by
  intro a0 a1 a2 a3 a4 a5 a6 a7 k
  obtain ⟨ih0, ih1, ih2⟩ := mandolineref09_one.mono_l k
  unfold mandolineref09_one.f
  repeat' first
      | (with_reducible exact ih0 _ _ _ _ _ _ _ _ _ _ _)
      | (with_reducible exact ih1 _ _ _ _ _ _ _ _ _ _)
      | (with_reducible exact ih2 _ _ _ _ _ _ _ _ _)
      | (with_reducible exact mandolineref09_lower.mono _ _)
      | (with_reducible exact mandolineref09_number.mono _ _)
      | (with_reducible exact LeO.refl _)
      | (with_reducible exact LeO.none _)
      | (with_reducible refine LeO.ite ?_ ?_)
      | (with_reducible refine LeO.bind ?_ (fun _ => ?_))
      | exact ih0 _ _ _ _ _ _ _ _ _ _ _
      | exact ih1 _ _ _ _ _ _ _ _ _ _
      | exact ih2 _ _ _ _ _ _ _ _ _
      | exact mandolineref09_lower.mono _ _
      | exact mandolineref09_number.mono _ _
      | exact LeO.none _
      | refine LeO.ite ?_ ?_
      | refine LeO.bind ?_ (fun _ => ?_)
set_option maxHeartbeats 8000000 in
set_option maxRecDepth 100000 in
theorem mandolineref09_one.calls (k : Nat) (a0_0 : Int) (a0_1 : Int) (a0_2 : Int) (a0_3 : Int) (a0_4 : Bool) (a0_5 : Bool) (a0_6 : Bool) (a1 : ByteArray) (r1 : Int) (r2 : Int) (r3 : Int) (r4 : Int) (r5 : Bool) (r6 : Bool) (r7 : Bool) (w : World) (h : mandolineref09_one.f k a0_0 a0_1 a0_2 a0_3 a0_4 a0_5 a0_6 a1 = some (r1, r2, r3, r4, r5, r6, r7)) :
    Calls Tryd.prog 29 #[.agg #[.int .i64 a0_0, .int .i64 a0_1, .int .i64 a0_2, .int .i64 a0_3, .bool a0_4, .bool a0_5, .bool a0_6], .string a1] w fun e w' => e = .returned (.agg #[.int .i64 r1, .int .i64 r2, .int .i64 r3, .int .i64 r4, .bool r5, .bool r6, .bool r7]) ∧ Below w.heap.size w w' := by
  have hu29 := Tryd.underlying29
  have HB := Aside0.mk (Below.refl w.heap.size w)
  have H : (mandolineref09_one.l0 k a1 a1 (⟨#[]⟩ : ByteArray) (wrap64 ((a1.size : Int) - 1)) a0_0 a0_1 a0_2 a0_3 a0_4 a0_5 a0_6) = some (r1, r2, r3, r4, r5, r6, r7) := h
  clear h
  have H' := Aside0.mk H
  clear H
  go_enter Tryd.func29, Tryd.ntmps29
  go_wp2_with (first | ((with_reducible refine gate_dst (N := 2) rfl ?_); (try (refine gate_guard (by rfl) ?_; dsimp only)); refine box_event ?hg (N := 2) ?hd (cs := #[.int .i64 a0_0, .int .i64 a0_1, .int .i64 a0_2, .int .i64 a0_3, .bool a0_4, .bool a0_5, .bool a0_6]) (t := 29) ?hr ?_; (case hd => rfl); (case hg => rfl); (case hr => first | (go_simp; done) | (go_simp; rfl)); intro gb200 hg w3 hbox hb; have n0_ := Aside0.mk (below_step (by repeat (first | (with_reducible first | exact HB.out | apply below_alloc | apply pw_below_drewN | apply below_drew1) | exact HB.out)) hb); have n1_ := Aside0.mk (hbox); have n2_ := Aside0.mk ((by rw [hg]; exact (below_size (by repeat (first | (with_reducible first | exact HB.out | apply below_alloc | apply pw_below_drewN | apply below_drew1) | exact HB.out))) : w.heap.size ≤ gb200)); have n3_ := Aside0.mk ((by rw [hg]; exact (below_size (by repeat (first | (with_reducible first | exact HB.out | apply below_alloc | apply pw_below_drewN | apply below_drew1) | exact HB.out))) : w.heap.size ≤ gb200)); clear HB; have HB := n0_; have BK200 := n1_; have GW200 := n2_; have GE200 := n3_; clear n0_ n1_ n2_ n3_; clear hb hbox hg) | ((with_reducible refine gate_dst (N := 4) rfl ?_); (try (refine gate_guard (by rfl) ?_; dsimp only)); refine box_event ?hg (N := 4) ?hd (cs := #[.int .i64 0, .int .i64 0, .int .i64 0, .int .i64 0, .bool false, .bool false, .bool false]) (t := 29) ?hr ?_; (case hd => rfl); (case hg => rfl); (case hr => first | (go_simp; done) | (go_simp; rfl)); intro gb201 hg w4 hbox hb; have n0_ := Aside0.mk (blk_below (g := gb200) (o := .cells #[.int .i64 a0_0, .int .i64 a0_1, .int .i64 a0_2, .int .i64 a0_3, .bool a0_4, .bool a0_5, .bool a0_6] 29 (0, 0)) (by (with_reducible repeat (first | refine blk_drewN ?_ _ | refine blk_drew ?_ | refine blk_alloc ?_ _)); exact BK200.out) hb); have n1_ := Aside0.mk (below_step (by repeat (first | (with_reducible first | exact HB.out | apply below_alloc | apply pw_below_drewN | apply below_drew1 | refine below_set ?_ GE200.out) | exact HB.out)) hb); have n2_ := Aside0.mk (hbox); have n3_ := Aside0.mk ((by rw [hg]; exact (below_size (by repeat (first | (with_reducible first | exact HB.out | apply below_alloc | apply pw_below_drewN | apply below_drew1 | refine below_set ?_ GE200.out) | exact HB.out))) : w.heap.size ≤ gb201)); have n4_ := Aside0.mk ((by rw [hg]; exact (below_size (by repeat (first | (with_reducible first | exact HB.out | apply below_alloc | apply pw_below_drewN | apply below_drew1 | refine below_set ?_ GE200.out) | exact HB.out))) : w.heap.size ≤ gb201)); have n5_ := Aside0.mk ((by rw [hg]; exact Nat.ne_of_lt (blk_lt (g := gb200) (o := .cells #[.int .i64 a0_0, .int .i64 a0_1, .int .i64 a0_2, .int .i64 a0_3, .bool a0_4, .bool a0_5, .bool a0_6] 29 (0, 0)) (by (with_reducible repeat (first | refine blk_drewN ?_ _ | refine blk_drew ?_ | refine blk_alloc ?_ _)); exact BK200.out)) : gb200 ≠ gb201)); have n6_ := Aside0.mk ((by rw [hg]; exact Nat.ne_of_gt (blk_lt (g := gb200) (o := .cells #[.int .i64 a0_0, .int .i64 a0_1, .int .i64 a0_2, .int .i64 a0_3, .bool a0_4, .bool a0_5, .bool a0_6] 29 (0, 0)) (by (with_reducible repeat (first | refine blk_drewN ?_ _ | refine blk_drew ?_ | refine blk_alloc ?_ _)); exact BK200.out)) : gb201 ≠ gb200)); clear BK200; clear HB; have BK200 := n0_; have HB := n1_; have BK201 := n2_; have GW201 := n3_; have GE201 := n4_; have NB200_201 := n5_; have NB201_200 := n6_; clear n0_ n1_ n2_ n3_ n4_ n5_ n6_; clear hb hbox hg))
  go_loopg [5, 6, 7] k (fun kq v5 v6 v7 w' => ∃ (x5_1 : ByteArray) (x6_1 : ByteArray) (x7_1 : Int), v5 = .string x5_1 ∧ v6 = .string x6_1 ∧ v7 = .int .i64 x7_1 ∧ Aside0 (mandolineref09_one.l0 kq a1 x5_1 x6_1 x7_1 a0_0 a0_1 a0_2 a0_3 a0_4 a0_5 a0_6 = some (r1, r2, r3, r4, r5, r6, r7)) ∧ Aside0 (kq ≤ k) ∧ Aside0 (w'.heap[gb200]? = some (.cells #[.int .i64 a0_0, .int .i64 a0_1, .int .i64 a0_2, .int .i64 a0_3, .bool a0_4, .bool a0_5, .bool a0_6] 29 (0, 0))) ∧ Aside0 (w'.heap[gb201]? = some (.cells #[.int .i64 0, .int .i64 0, .int .i64 0, .int .i64 0, .bool false, .bool false, .bool false] 29 (0, 0))) ∧ Aside0 (Below w.heap.size w w'))
  case atStart => exact ⟨(a1), ((⟨#[]⟩ : ByteArray)), (wrap64 ((a1.size : Int) - 1)), (by first | rfl | (simp; done) | (simp [*]; done)), (by first | rfl | (simp; done) | (simp [*]; done)), (by first | rfl | (simp; done) | (simp [*]; done)), H', ⟨Nat.le_refl _⟩, ⟨by (with_reducible repeat (first | refine blk_drewN ?_ _ | refine blk_drew ?_ | refine blk_alloc ?_ _)); exact BK200.out⟩, ⟨by (with_reducible repeat (first | refine blk_drewN ?_ _ | refine blk_drew ?_ | refine blk_alloc ?_ _)); exact BK201.out⟩, ⟨by repeat (first | (with_reducible first | exact HB.out | apply below_alloc | apply pw_below_drewN | apply below_drew1 | refine below_set ?_ GE200.out | refine below_set ?_ GE201.out) | exact HB.out)⟩⟩
  case round =>
    clear H'
    try clear c2
    try clear p2
    obtain ⟨x5_1, x6_1, x7_1, rfl, rfl, rfl, HA, HK1, BK200, BK201, HB⟩ := hrel
    cases gk with
    | zero => exact absurd HA.out (by simp [mandolineref09_one.l0])
    | succ k1 =>
      have H := HA.out
      clear HA
      simp only [mandolineref09_one.l0] at H
      by_cases c5 : x7_1 ≥ 0
      · rw [if_pos c5] at H
        have c5b0 : decide (0 ≤ x7_1) = true := decide_eq_true c5
        clear c5
        by_cases c6 : 0 ≤ x7_1
        · rw [if_pos c6] at H
          have c6b0 : decide (0 ≤ x7_1) = true := decide_eq_true c6
          clear c6
          by_cases c7 : x7_1 < (a1.size : Int)
          · rw [if_pos c7] at H
            have c7b0 : decide (x7_1 < (a1.size : Int)) = true := decide_eq_true c7
            clear c7
            by_cases c9 : (bt a1 x7_1) = 61
            · rw [if_pos c9] at H
              have c9b0 : ((bt a1 x7_1) == 61) = true := beq_iff_eq.mpr c9
              have c9b1 : ((bt a1 x7_1) != 61) = false := bne_eq_false_iff_eq.mpr c9
              clear c9
              have c10b0 := eq_true (of_decide_eq_true (by first | (with_reducible assumption) | assumption) : 0 ≤ x7_1)
              by_cases c11 : x7_1 ≤ (a1.size : Int)
              · rw [if_pos c11] at H
                have c11b0 := eq_true c11
                have c11b1 : decide (x7_1 ≤ (a1.size : Int)) = true := decide_eq_true c11
                clear c11
                obtain ⟨ji12, hji12⟩ : ∃ j_ : Int, (wrap64 (x7_1 + 1)) = j_ := ⟨_, rfl⟩
                replace H : (if 0 ≤ (ji12) then (if (ji12) ≤ (a1.size : Int) then (mandolineref09_one.l0 k1 a1 (a1.extract 0 (x7_1 : Int).toNat) (a1.extract ((ji12) : Int).toNat a1.size) (wrap64 (x7_1 - 1)) a0_0 a0_1 a0_2 a0_3 a0_4 a0_5 a0_6) else (none)) else (none)) = some (r1, r2, r3, r4, r5, r6, r7) := by first | (rw [hji12] at H; exact H) | (simp only [hji12] at H ⊢; exact H)
                have hji12w : (IntKind.i64.wrap (x7_1 + 1)) = ji12 := (i64_w _).trans hji12
                by_cases c13 : 0 ≤ (ji12)
                · rw [if_pos c13] at H
                  have c13b0 := eq_true c13
                  have c13b1 : decide (0 ≤ (ji12)) = true := decide_eq_true c13
                  clear c13
                  by_cases c14 : (ji12) ≤ (a1.size : Int)
                  · rw [if_pos c14] at H
                    have c14b0 := eq_true c14
                    have c14b1 : decide ((ji12) ≤ (a1.size : Int)) = true := decide_eq_true c14
                    clear c14
                    have H' := Aside0.mk H
                    clear H
                    have p8 : 0 ≤ (x7_1 : Int) := of_decide_eq_true (by first | (with_reducible assumption) | assumption)
                    have q8 : x7_1 < (a1.size : Int) := of_decide_eq_true (by first | (with_reducible assumption) | assumption)
                    have hx8 := bt_at a1 x7_1
                    replace p8 := eq_true p8
                    replace q8 := eq_true q8
                    go_wp2
                    go_roundg k1
                    case measure => have := HK1.out; omega
                    case rel => exact ⟨(a1.extract 0 (x7_1 : Int).toNat), (a1.extract ((ji12) : Int).toNat a1.size), (wrap64 (x7_1 - 1)), (by first | rfl | (simp; done) | (simp [*]; done)), (by first | rfl | (simp; done) | (simp only [← hji12] <;> (first | rfl | simp)) | (simp [*]; done)), (by first | rfl | (simp; done) | (simp [*]; done)), H', ⟨by have := HK1.out; omega⟩, ⟨by (with_reducible repeat (first | refine blk_drewN ?_ _ | refine blk_drew ?_ | refine blk_alloc ?_ _)); exact BK200.out⟩, ⟨by (with_reducible repeat (first | refine blk_drewN ?_ _ | refine blk_drew ?_ | refine blk_alloc ?_ _)); exact BK201.out⟩, ⟨by repeat (first | (with_reducible first | exact HB.out | apply below_alloc | apply pw_below_drewN | apply below_drew1 | refine below_set ?_ GE200.out | refine below_set ?_ GE201.out) | exact HB.out)⟩⟩
                  · rw [if_neg c14] at H
                    exact absurd H (by simp)
                · rw [if_neg c13] at H
                  exact absurd H (by simp)
              · rw [if_neg c11] at H
                exact absurd H (by simp)
            · rw [if_neg c9] at H
              have c9b0 : ((bt a1 x7_1) == 61) = false := beq_eq_false_iff_ne.mpr c9
              have c9b1 : ((bt a1 x7_1) != 61) = true := bne_iff_ne.mpr c9
              have H' := Aside0.mk H
              clear H
              have p8 : 0 ≤ (x7_1 : Int) := of_decide_eq_true (by first | (with_reducible assumption) | assumption)
              have q8 : x7_1 < (a1.size : Int) := of_decide_eq_true (by first | (with_reducible assumption) | assumption)
              have hx8 := bt_at a1 x7_1
              replace p8 := eq_true p8
              replace q8 := eq_true q8
              go_wp2
              go_roundg k1
              case measure => have := HK1.out; omega
              case rel => exact ⟨(x5_1), (x6_1), (wrap64 (x7_1 - 1)), (by first | rfl | (simp; done) | (simp [*]; done)), (by first | rfl | (simp; done) | (simp [*]; done)), (by first | rfl | (simp; done) | (simp [*]; done)), H', ⟨by have := HK1.out; omega⟩, ⟨by (with_reducible repeat (first | refine blk_drewN ?_ _ | refine blk_drew ?_ | refine blk_alloc ?_ _)); exact BK200.out⟩, ⟨by (with_reducible repeat (first | refine blk_drewN ?_ _ | refine blk_drew ?_ | refine blk_alloc ?_ _)); exact BK201.out⟩, ⟨by repeat (first | (with_reducible first | exact HB.out | apply below_alloc | apply pw_below_drewN | apply below_drew1 | refine below_set ?_ GE200.out | refine below_set ?_ GE201.out) | exact HB.out)⟩⟩
          · rw [if_neg c7] at H
            exact absurd H (by simp)
        · rw [if_neg c6] at H
          exact absurd H (by simp)
      · rw [if_neg c5] at H
        have c5b0 : decide (0 ≤ x7_1) = false := decide_eq_false c5
        clear c5
        have HC15 := Aside0.mk H
        clear H
        go_upto_region 9 with (fail)
        go_cut [42] (fun v42 wc => ∃ (kq : Nat) (x42_14 : Bool), v42 = .bool x42_14 ∧ Aside0 (mandolineref09_one.j1 kq x5_1 x6_1 x42_14 a0_0 a0_1 a0_2 a0_3 a0_4 a0_5 a0_6 = some (r1, r2, r3, r4, r5, r6, r7)) ∧ Aside0 (kq ≤ k1) ∧ Aside0 (wc.heap[gb200]? = some (.cells #[.int .i64 a0_0, .int .i64 a0_1, .int .i64 a0_2, .int .i64 a0_3, .bool a0_4, .bool a0_5, .bool a0_6] 29 (0, 0))) ∧ Aside0 (wc.heap[gb201]? = some (.cells #[.int .i64 0, .int .i64 0, .int .i64 0, .int .i64 0, .bool false, .bool false, .bool false] 29 (0, 0))) ∧ Aside0 (Below w.heap.size w wc))
        case first =>
          have H := HC15.out
          clear HC15
          by_cases c16 : (x6_1.size : Int) ≥ 2
          · rw [if_pos c16] at H
            have c16b0 : decide (2 ≤ (x6_1.size : Int)) = true := decide_eq_true c16
            have c16b1 : decide (2 ≤ x6_1.size) = true := decide_eq_true (by omega)
            clear c16
            (first | rw [c16b0] | (simp only [i64_w, i32_w]; rw [c16b0]) | skip)
            by_cases c17 : 0 < (x6_1.size : Int)
            · rw [if_pos c17] at H
              have c17b0 : decide (0 < (x6_1.size : Int)) = true := decide_eq_true c17
              have c17b1 : decide (0 < x6_1.size) = true := decide_eq_true (by omega)
              clear c17
              by_cases c19 : (bt x6_1 0) = 34
              · rw [if_pos c19] at H
                have c19b0 : ((bt x6_1 0) == 34) = true := beq_iff_eq.mpr c19
                have c19b1 : ((bt x6_1 0) != 34) = false := bne_eq_false_iff_eq.mpr c19
                clear c19
                obtain ⟨ji20, hji20⟩ : ∃ j_ : Int, (wrap64 ((x6_1.size : Int) - 1)) = j_ := ⟨_, rfl⟩
                replace H : (if 0 ≤ (ji20) then (if (ji20) < (x6_1.size : Int) then (mandolineref09_one.j1 k1 x5_1 x6_1 ((bt x6_1 (ji20)) == 34) a0_0 a0_1 a0_2 a0_3 a0_4 a0_5 a0_6) else (none)) else (none)) = some (r1, r2, r3, r4, r5, r6, r7) := by first | (rw [hji20] at H; exact H) | (simp only [hji20] at H ⊢; exact H)
                have hji20w : (IntKind.i64.wrap ((x6_1.size : Int) - 1)) = ji20 := (i64_w _).trans hji20
                by_cases c21 : 0 ≤ (ji20)
                · rw [if_pos c21] at H
                  have c21b0 : decide (0 ≤ (ji20)) = true := decide_eq_true c21
                  clear c21
                  by_cases c22 : (ji20) < (x6_1.size : Int)
                  · rw [if_pos c22] at H
                    have c22b0 : decide ((ji20) < (x6_1.size : Int)) = true := decide_eq_true c22
                    clear c22
                    have H' := Aside0.mk H
                    clear H
                    have p18 : 0 ≤ (0 : Int) := (by omega)
                    have q18 : 0 < x6_1.size := (by have : (0 : Int) < (x6_1.size : Int) := of_decide_eq_true (by first | (with_reducible assumption) | assumption); omega)
                    have hx18 : ∀ h : 0 < x6_1.size, ((x6_1[0]'h).toNat : Int) = bt x6_1 0 := bt_at x6_1 0
                    clear p18
                    have qi18 : (0 < (x6_1.size : Int)) = True := eq_true (of_decide_eq_true (by first | (with_reducible assumption) | assumption))
                    replace q18 := eq_true q18
                    have p23 : 0 ≤ ((ji20) : Int) := of_decide_eq_true (by first | (with_reducible assumption) | assumption)
                    have q23 : (ji20) < (x6_1.size : Int) := of_decide_eq_true (by first | (with_reducible assumption) | assumption)
                    have hx23 := bt_at x6_1 (ji20)
                    replace p23 := eq_true p23
                    replace q23 := eq_true q23
                    go_wp2
                    go_meet
                    case rel => exact ⟨_, (((bt x6_1 (ji20)) == 34)), (by first | rfl | (simp; done) | (simp only [← hji20] <;> (first | rfl | simp)) | (simp [*]; done)), H', ⟨by have := HK1.out; first | omega | exact Nat.le_refl _⟩, ⟨by (with_reducible repeat (first | refine blk_drewN ?_ _ | refine blk_drew ?_ | refine blk_alloc ?_ _)); exact BK200.out⟩, ⟨by (with_reducible repeat (first | refine blk_drewN ?_ _ | refine blk_drew ?_ | refine blk_alloc ?_ _)); exact BK201.out⟩, ⟨by repeat (first | (with_reducible first | exact HB.out | apply below_alloc | apply pw_below_drewN | apply below_drew1 | refine below_set ?_ GE200.out | refine below_set ?_ GE201.out) | exact HB.out)⟩⟩
                  · rw [if_neg c22] at H
                    exact absurd H (by simp)
                · rw [if_neg c21] at H
                  exact absurd H (by simp)
              · rw [if_neg c19] at H
                have c19b0 : ((bt x6_1 0) == 34) = false := beq_eq_false_iff_ne.mpr c19
                have c19b1 : ((bt x6_1 0) != 34) = true := bne_iff_ne.mpr c19
                have H' := Aside0.mk H
                clear H
                have p18 : 0 ≤ (0 : Int) := (by omega)
                have q18 : 0 < x6_1.size := (by have : (0 : Int) < (x6_1.size : Int) := of_decide_eq_true (by first | (with_reducible assumption) | assumption); omega)
                have hx18 : ∀ h : 0 < x6_1.size, ((x6_1[0]'h).toNat : Int) = bt x6_1 0 := bt_at x6_1 0
                clear p18
                have qi18 : (0 < (x6_1.size : Int)) = True := eq_true (of_decide_eq_true (by first | (with_reducible assumption) | assumption))
                replace q18 := eq_true q18
                go_wp2
                go_meet
                case rel => exact ⟨_, (false), (by first | rfl | (simp; done) | (simp [*]; done)), H', ⟨by have := HK1.out; first | omega | exact Nat.le_refl _⟩, ⟨by (with_reducible repeat (first | refine blk_drewN ?_ _ | refine blk_drew ?_ | refine blk_alloc ?_ _)); exact BK200.out⟩, ⟨by (with_reducible repeat (first | refine blk_drewN ?_ _ | refine blk_drew ?_ | refine blk_alloc ?_ _)); exact BK201.out⟩, ⟨by repeat (first | (with_reducible first | exact HB.out | apply below_alloc | apply pw_below_drewN | apply below_drew1 | refine below_set ?_ GE200.out | refine below_set ?_ GE201.out) | exact HB.out)⟩⟩
            · rw [if_neg c17] at H
              exact absurd H (by simp)
          · rw [if_neg c16] at H
            have c16b0 : decide (2 ≤ (x6_1.size : Int)) = false := decide_eq_false c16
            have c16b1 : decide (2 ≤ x6_1.size) = false := decide_eq_false (by omega)
            clear c16
            (first | rw [c16b0] | (simp only [i64_w, i32_w]; rw [c16b0]) | skip)
            have H' := Aside0.mk H
            clear H
            go_wp2
            go_meet
            case rel => exact ⟨_, (false), (by first | rfl | (simp; done) | (simp [*]; done)), H', ⟨by have := HK1.out; first | omega | exact Nat.le_refl _⟩, ⟨by (with_reducible repeat (first | refine blk_drewN ?_ _ | refine blk_drew ?_ | refine blk_alloc ?_ _)); exact BK200.out⟩, ⟨by (with_reducible repeat (first | refine blk_drewN ?_ _ | refine blk_drew ?_ | refine blk_alloc ?_ _)); exact BK201.out⟩, ⟨by repeat (first | (with_reducible first | exact HB.out | apply below_alloc | apply pw_below_drewN | apply below_drew1 | refine below_set ?_ GE200.out | refine below_set ?_ GE201.out) | exact HB.out)⟩⟩
        case rest =>
          clear HC15
          try clear c1
          try clear p1
          try clear q1
          try clear hx1
          try clear qi1
          try clear c2
          try clear p2
          try clear q2
          try clear hx2
          try clear c5
          try clear c5b0
          try clear c6
          try clear c6b0
          try clear p6
          try clear c7
          try clear c7b0
          try clear p8
          try clear q8
          try clear hx8
          try clear c9
          try clear c9b0
          try clear c9b1
          try clear c10
          try clear c10b0
          try clear c11
          try clear c11b0
          try clear c11b1
          try clear c13
          try clear c13b0
          try clear c13b1
          try clear c14
          try clear c14b0
          try clear c14b1
          try clear c16
          try clear c16b0
          try clear c16b1
          try clear c17
          try clear c17b0
          try clear c17b1
          try clear p18
          try clear q18
          try clear hx18
          try clear qi18
          try clear c19
          try clear c19b0
          try clear c19b1
          try clear c21
          try clear c21b0
          try clear c22
          try clear c22b0
          try clear p23
          try clear q23
          try clear hx23
          try clear p18
          try clear p2
          try clear p23
          try clear p8
          try clear q18
          try clear q23
          try clear q8
          obtain ⟨kq, x42_14, rfl, HA, HJ14, BK200, BK201, HB⟩ := hcut
          cases kq with
          | zero => exact absurd HA.out (by simp [mandolineref09_one.j1])
          | succ kj14 =>
            have H := HA.out
            clear HA
            simp only [mandolineref09_one.j1] at H
            have HC24 := Aside0.mk H
            clear H
            go_upto_if 42 with (fail)
            go_cut [6] (fun v6 wc => ∃ (kq : Nat) (x6_23 : ByteArray), v6 = .string x6_23 ∧ Aside0 (mandolineref09_one.j2 kq x5_1 x6_23 a0_0 a0_1 a0_2 a0_3 a0_4 a0_5 a0_6 = some (r1, r2, r3, r4, r5, r6, r7)) ∧ Aside0 (kq ≤ kj14) ∧ Aside0 (wc.heap[gb200]? = some (.cells #[.int .i64 a0_0, .int .i64 a0_1, .int .i64 a0_2, .int .i64 a0_3, .bool a0_4, .bool a0_5, .bool a0_6] 29 (0, 0))) ∧ Aside0 (wc.heap[gb201]? = some (.cells #[.int .i64 0, .int .i64 0, .int .i64 0, .int .i64 0, .bool false, .bool false, .bool false] 29 (0, 0))) ∧ Aside0 (Below w.heap.size w wc))
            case first =>
              have H := HC24.out
              clear HC24
              by_cases c25 : x42_14 = true
              · subst c25
                have H1 : (if 1 ≤ (wrap64 ((x6_1.size : Int) - 1)) then (if (wrap64 ((x6_1.size : Int) - 1)) ≤ (x6_1.size : Int) then (mandolineref09_one.j2 kj14 x5_1 (x6_1.extract 1 ((wrap64 ((x6_1.size : Int) - 1)) : Int).toNat) a0_0 a0_1 a0_2 a0_3 a0_4 a0_5 a0_6) else (none)) else (none)) = some (r1, r2, r3, r4, r5, r6, r7) := by rw [if_pos rfl] at H; exact H
                clear H
                have H := H1
                clear H1
                by_cases c26 : 1 ≤ (wrap64 ((x6_1.size : Int) - 1))
                · rw [if_pos c26] at H
                  have c26b0 := eq_true c26
                  have c26b1 : decide (1 ≤ (wrap64 ((x6_1.size : Int) - 1))) = true := decide_eq_true c26
                  clear c26
                  by_cases c27 : (wrap64 ((x6_1.size : Int) - 1)) ≤ (x6_1.size : Int)
                  · rw [if_pos c27] at H
                    have c27b0 := eq_true c27
                    have c27b1 : decide ((wrap64 ((x6_1.size : Int) - 1)) ≤ (x6_1.size : Int)) = true := decide_eq_true c27
                    clear c27
                    have H' := Aside0.mk H
                    clear H
                    go_wp2
                    go_meet
                    case rel => exact ⟨_, (x6_1.extract 1 ((wrap64 ((x6_1.size : Int) - 1)) : Int).toNat), (by first | rfl | (simp; done) | (simp [*]; done)), H', ⟨by have := HK1.out; have := HJ14.out; first | omega | exact Nat.le_refl _⟩, ⟨by (with_reducible repeat (first | refine blk_drewN ?_ _ | refine blk_drew ?_ | refine blk_alloc ?_ _)); exact BK200.out⟩, ⟨by (with_reducible repeat (first | refine blk_drewN ?_ _ | refine blk_drew ?_ | refine blk_alloc ?_ _)); exact BK201.out⟩, ⟨by repeat (first | (with_reducible first | exact HB.out | apply below_alloc | apply pw_below_drewN | apply below_drew1 | refine below_set ?_ GE200.out | refine below_set ?_ GE201.out) | exact HB.out)⟩⟩
                  · rw [if_neg c27] at H
                    exact absurd H (by simp)
                · rw [if_neg c26] at H
                  exact absurd H (by simp)
              · replace c25 := Bool.eq_false_iff.mpr c25
                subst c25
                have H1 : (mandolineref09_one.j2 kj14 x5_1 x6_1 a0_0 a0_1 a0_2 a0_3 a0_4 a0_5 a0_6) = some (r1, r2, r3, r4, r5, r6, r7) := by rw [if_neg (show ¬ (false = true) by decide)] at H; exact H
                clear H
                have H := H1
                clear H1
                have H' := Aside0.mk H
                clear H
                go_wp2
                go_meet
                case rel => exact ⟨_, (x6_1), (by first | rfl | (simp; done) | (simp [*]; done)), H', ⟨by have := HK1.out; have := HJ14.out; first | omega | exact Nat.le_refl _⟩, ⟨by (with_reducible repeat (first | refine blk_drewN ?_ _ | refine blk_drew ?_ | refine blk_alloc ?_ _)); exact BK200.out⟩, ⟨by (with_reducible repeat (first | refine blk_drewN ?_ _ | refine blk_drew ?_ | refine blk_alloc ?_ _)); exact BK201.out⟩, ⟨by repeat (first | (with_reducible first | exact HB.out | apply below_alloc | apply pw_below_drewN | apply below_drew1 | refine below_set ?_ GE200.out | refine below_set ?_ GE201.out) | exact HB.out)⟩⟩
            case rest =>
              clear HC24
              try clear c1
              try clear p1
              try clear q1
              try clear hx1
              try clear qi1
              try clear c2
              try clear p2
              try clear q2
              try clear hx2
              try clear c5
              try clear c5b0
              try clear c6
              try clear c6b0
              try clear p6
              try clear c7
              try clear c7b0
              try clear p8
              try clear q8
              try clear hx8
              try clear c9
              try clear c9b0
              try clear c9b1
              try clear c10
              try clear c10b0
              try clear c11
              try clear c11b0
              try clear c11b1
              try clear c13
              try clear c13b0
              try clear c13b1
              try clear c14
              try clear c14b0
              try clear c14b1
              try clear c16
              try clear c16b0
              try clear c16b1
              try clear c17
              try clear c17b0
              try clear c17b1
              try clear p18
              try clear q18
              try clear hx18
              try clear qi18
              try clear c19
              try clear c19b0
              try clear c19b1
              try clear c21
              try clear c21b0
              try clear c22
              try clear c22b0
              try clear p23
              try clear q23
              try clear hx23
              try clear c25
              try clear c26
              try clear c26b0
              try clear c26b1
              try clear c27
              try clear c27b0
              try clear c27b1
              try clear p1
              try clear p18
              try clear p2
              try clear p23
              try clear p6
              try clear p8
              try clear q1
              try clear q18
              try clear q2
              try clear q23
              try clear q8
              obtain ⟨kq, x6_23, rfl, HA, HJ23, BK200, BK201, HB⟩ := hcut
              cases kq with
              | zero => exact absurd HA.out (by simp [mandolineref09_one.j2])
              | succ kj23 =>
                have H := HA.out
                clear HA
                simp only [mandolineref09_one.j2] at H
                replace H := Option.bind_eq_some_iff.mp H
                obtain ⟨t202, A280, H⟩ := H
                replace H : (if t202.toList = ([109, 97, 120, 45, 97, 103, 101] : List UInt8) then ((mandolineref09_number.f kj23 x6_23).bind fun t203 => ((mandolineref09_less.f a0_0 t203).bind fun t204 => (some (t204, a0_1, a0_2, a0_3, a0_4, a0_5, a0_6)))) else (if t202.toList = ([115, 45, 109, 97, 120, 97, 103, 101] : List UInt8) then ((mandolineref09_number.f kj23 x6_23).bind fun t205 => ((mandolineref09_less.f a0_1 t205).bind fun t206 => (some (a0_0, t206, a0_2, a0_3, a0_4, a0_5, a0_6)))) else (if t202.toList = ([115, 116, 97, 108, 101, 45, 119, 104, 105, 108, 101, 45, 114, 101, 118, 97, 108, 105, 100, 97, 116, 101] : List UInt8) then ((mandolineref09_number.f kj23 x6_23).bind fun t207 => ((mandolineref09_less.f a0_2 t207).bind fun t208 => (some (a0_0, a0_1, t208, a0_3, a0_4, a0_5, a0_6)))) else (if t202.toList = ([115, 116, 97, 108, 101, 45, 105, 102, 45, 101, 114, 114, 111, 114] : List UInt8) then ((mandolineref09_number.f kj23 x6_23).bind fun t209 => ((mandolineref09_less.f a0_3 t209).bind fun t210 => (some (a0_0, a0_1, a0_2, t210, a0_4, a0_5, a0_6)))) else (if t202.toList = ([110, 111, 45, 115, 116, 111, 114, 101] : List UInt8) then (some (a0_0, a0_1, a0_2, a0_3, true, a0_5, a0_6)) else (if t202.toList = ([110, 111, 45, 99, 97, 99, 104, 101] : List UInt8) then (some (a0_0, a0_1, a0_2, a0_3, a0_4, true, a0_6)) else (if t202.toList = ([112, 114, 105, 118, 97, 116, 101] : List UInt8) then (some (a0_0, a0_1, a0_2, a0_3, a0_4, a0_5, true)) else (some (a0_0, a0_1, a0_2, a0_3, a0_4, a0_5, a0_6))))))))) = some (r1, r2, r3, r4, r5, r6, r7) := H
                have A28 := Aside0.mk A280
                clear A280
                by_cases c29 : t202.toList = ([109, 97, 120, 45, 97, 103, 101] : List UInt8)
                · rw [if_pos c29] at H
                  have c29b0 : (t202.toList == ([109, 97, 120, 45, 97, 103, 101] : List UInt8)) = true := beq_iff_eq.mpr c29
                  have c29b1 : (t202.toList != ([109, 97, 120, 45, 97, 103, 101] : List UInt8)) = false := bne_eq_false_iff_eq.mpr c29
                  clear c29
                  replace H := Option.bind_eq_some_iff.mp H
                  obtain ⟨t203, A300, H⟩ := H
                  replace H : ((mandolineref09_less.f a0_0 t203).bind fun t204 => (some (t204, a0_1, a0_2, a0_3, a0_4, a0_5, a0_6))) = some (r1, r2, r3, r4, r5, r6, r7) := H
                  have A30 := Aside0.mk A300
                  clear A300
                  replace H := Option.bind_eq_some_iff.mp H
                  obtain ⟨t204, A310, H⟩ := H
                  replace H : (some (t204, a0_1, a0_2, a0_3, a0_4, a0_5, a0_6)) = some (r1, r2, r3, r4, r5, r6, r7) := H
                  have A31 := Aside0.mk A310
                  clear A310
                  simp only [Option.some.injEq, Prod.mk.injEq] at H
                  obtain ⟨rfl, rfl, rfl, rfl, rfl, rfl, rfl⟩ := H
                  try go_wp2_with (first | ((with_reducible refine gate_callee (f := 43) rfl ?_); refine goesL_ (some 49) rfl rfl Tryd.func43 (by kernel_rfl) rfl #[.string x5_1] rfl (by (try simp only [List.map_toArray, List.map_cons, List.map_nil]); first | done | rfl | (simp only [List.length_drop, List.length_take]; rfl)) ?_; (with_reducible refine (mandolineref09_lower.calls kj23 x5_1 t202 _ A28.out).mono ?_); rintro e w32 ⟨rfl, hb⟩; refine ⟨_, rfl, ?_⟩; have n0_ := Aside0.mk (blk_below (g := gb200) (o := .cells #[.int .i64 a0_0, .int .i64 a0_1, .int .i64 a0_2, .int .i64 a0_3, .bool a0_4, .bool a0_5, .bool a0_6] 29 (0, 0)) (by (with_reducible repeat (first | refine blk_drewN ?_ _ | refine blk_drew ?_ | refine blk_alloc ?_ _)); exact BK200.out) hb); have n1_ := Aside0.mk (blk_below (g := gb201) (o := .cells #[.int .i64 0, .int .i64 0, .int .i64 0, .int .i64 0, .bool false, .bool false, .bool false] 29 (0, 0)) (by (with_reducible repeat (first | refine blk_drewN ?_ _ | refine blk_drew ?_ | refine blk_alloc ?_ _)); exact BK201.out) hb); have n2_ := Aside0.mk (below_step (by repeat (first | (with_reducible first | exact HB.out | apply below_alloc | apply pw_below_drewN | apply below_drew1 | refine below_set ?_ GE200.out | refine below_set ?_ GE201.out) | exact HB.out)) hb); clear BK200; clear BK201; clear HB; have BK200 := n0_; have BK201 := n1_; have HB := n2_; clear n0_ n1_ n2_; (try clear hb); (try clear hb2); (try clear hk); (try clear hi)))
                  have n0_ := Aside0.mk (blk_drew BK200.out)
                  have n1_ := Aside0.mk (blk_drew BK201.out)
                  have n2_ := Aside0.mk (below_drew1 HB.out)
                  clear BK200
                  clear BK201
                  clear HB
                  have BK200 := n0_
                  have BK201 := n1_
                  have HB := n2_
                  clear n0_ n1_ n2_
                  refine start_ (n := 7) (S := fun w' => w'.cell? ⟨gb200, 0, none⟩ = some (.int .i64 a0_0) ∧ w'.cell? ⟨gb200, 1, none⟩ = some (.int .i64 a0_1) ∧ w'.cell? ⟨gb200, 2, none⟩ = some (.int .i64 a0_2) ∧ w'.cell? ⟨gb200, 3, none⟩ = some (.int .i64 a0_3) ∧ w'.cell? ⟨gb200, 4, none⟩ = some (.bool a0_4) ∧ w'.cell? ⟨gb200, 5, none⟩ = some (.bool a0_5) ∧ w'.cell? ⟨gb200, 6, none⟩ = some (.bool a0_6)) (ds := [6]) #[false, false, false, false, false, false, false] (by kernel_rfl) rfl rfl ⟨(blk_cell BK200.out 0).trans rfl, (blk_cell BK200.out 1).trans rfl, (blk_cell BK200.out 2).trans rfl, (blk_cell BK200.out 3).trans rfl, (blk_cell BK200.out 4).trans rfl, (blk_cell BK200.out 5).trans rfl, (blk_cell BK200.out 6).trans rfl⟩ (fun hHeld => ?_)
                  generalize w32.drew = w33 at BK200 BK201 HB hHeld ⊢
                  refine pure_ (i := 0) (N := some 52) (v := ?_) (a' := ?_) #[true, false, false, false, false, false, false] rfl rfl (by kernel_rfl) (fun _ _ _ h => h) (Or.inl ⟨by rfl, ?_⟩) ?_ ?_
                  rotate_left
                  · intro w'
                    go_simp
                    with_reducible rfl
                  rotate_left
                  · simp only [Act.put, List.setIfInBounds_toArray, List.set_cons_zero, List.set_cons_succ, i64_w, i32_w]
                    rfl
                  refine pure_ (i := 2) (N := some 54) (v := ?_) (a' := ?_) #[true, false, true, false, false, false, false] rfl rfl (by kernel_rfl) (fun _ _ _ h => h) (Or.inl ⟨by rfl, ?_⟩) ?_ ?_
                  rotate_left
                  · intro w'
                    go_simp
                    with_reducible rfl
                  rotate_left
                  · simp only [Act.put, List.setIfInBounds_toArray, List.set_cons_zero, List.set_cons_succ, i64_w, i32_w]
                    rfl
                  refine take_ (i := 1) (N := some 53) (v := ?_) (a' := ?_) #[true, true, true, false, false, false, false] rfl rfl (by kernel_rfl) (fun _ _ _ h => h) (Or.inl ⟨by rfl, ?_⟩) hHeld ?_ ?_
                  rotate_left
                  · rintro w' ⟨s0, s1, s2, s3, s4, s5, s6⟩
                    go_simp
                    with_reducible rfl
                  rotate_left
                  · simp only [Act.put, List.setIfInBounds_toArray, List.set_cons_zero, List.set_cons_succ, i64_w, i32_w]
                    rfl
                  refine one_ (i := 3) (N := some 55) #[true, true, true, true, false, false, false] rfl rfl (by kernel_rfl) (by decide) (fun K hK => ?_)
                  refine goes_ Tryd.func39 (by kernel_rfl) rfl #[.string x6_23] (by rfl) rfl rfl (by (try simp only [List.map_toArray, List.map_cons, List.map_nil]); first | done | rfl | (simp only [List.length_drop, List.length_take]; rfl)) ?_
                  with_reducible refine (mandolineref09_number.calls kj23 x6_23 t203 _ A30.out).mono ?_
                  rintro e w' ⟨rfl, ⟨nd, rfl⟩⟩
                  refine ⟨_, rfl, ?_⟩
                  refine hK.out _ _ ⟨(blk_cell BK200.out 0).trans rfl, (blk_cell BK200.out 1).trans rfl, (blk_cell BK200.out 2).trans rfl, (blk_cell BK200.out 3).trans rfl, (blk_cell BK200.out 4).trans rfl, (blk_cell BK200.out 5).trans rfl, (blk_cell BK200.out 6).trans rfl⟩ (fun hHeld => ?_)
                  clear hK K
                  refine norm_ (a' := ?_) ?_ ?_
                  rotate_left
                  · show Act.put _ (some 55) _ = _
                    simp only [Act.put, List.setIfInBounds_toArray, List.set_cons_zero, List.set_cons_succ, i64_w, i32_w]
                    rfl
                  refine one_ (i := 4) (N := some 56) #[true, true, true, true, true, false, false] rfl rfl (by kernel_rfl) (by decide) (fun K hK => ?_)
                  refine goes_ Tryd.func44 (by kernel_rfl) rfl #[.int .i64 a0_0, .int .i64 t203] (by rfl) rfl rfl (by (try simp only [List.map_toArray, List.map_cons, List.map_nil]); first | done | rfl | (simp only [List.length_drop, List.length_take]; rfl)) ?_
                  with_reducible refine (mandolineref09_less.calls a0_0 t203 t204 _ A31.out).mono ?_
                  rintro e w' ⟨rfl, ⟨nd, rfl⟩⟩
                  refine ⟨_, rfl, ?_⟩
                  refine hK.out _ _ ⟨(blk_cell BK200.out 0).trans rfl, (blk_cell BK200.out 1).trans rfl, (blk_cell BK200.out 2).trans rfl, (blk_cell BK200.out 3).trans rfl, (blk_cell BK200.out 4).trans rfl, (blk_cell BK200.out 5).trans rfl, (blk_cell BK200.out 6).trans rfl⟩ (fun hHeld => ?_)
                  clear hK K
                  refine norm_ (a' := ?_) ?_ ?_
                  rotate_left
                  · show Act.put _ (some 56) _ = _
                    simp only [Act.put, List.setIfInBounds_toArray, List.set_cons_zero, List.set_cons_succ, i64_w, i32_w]
                    rfl
                  refine pure_ (i := 5) (N := some 57) (v := ?_) (a' := ?_) #[true, true, true, true, true, true, false] rfl rfl (by kernel_rfl) (fun _ _ _ h => h) (Or.inl ⟨by rfl, ?_⟩) ?_ ?_
                  rotate_left
                  · intro w'
                    go_simp
                    with_reducible rfl
                  rotate_left
                  · simp only [Act.put, List.setIfInBounds_toArray, List.set_cons_zero, List.set_cons_succ, i64_w, i32_w]
                    rfl
                  refine last_ (i := 6) (N := none) #[true, true, true, true, true, true, true] rfl rfl (by kernel_rfl) (by decide) (fun K hK => ?_)
                  have hs34 : w33.cell? ⟨gb200, 0, none⟩ = some (.int .i64 a0_0) := (blk_cell BK200.out 0).trans rfl
                  have hfs34 := blk_frozen BK200.out 0
                  have hns34_1 := NB201_200.out
                  have hms34_1 := NB200_201.out
                  refine skip_ (w1 := ?_) (by rfl) rfl ?_ ?_
                  rotate_left
                  · go_simp
                    rfl
                  refine hK.out _ _ ?_
                  clear hK K
                  refine done_ (by kernel_rfl) ?_
                  have hnb35 := NB200_201.out
                  have hnc35 := NB201_200.out
                  have hcz36_0 : w33.cell? ⟨gb200, 0, none⟩ = some (.int .i64 a0_0) := (blk_cell BK200.out 0).trans rfl
                  have hcz36_1 : w33.cell? ⟨gb200, 1, none⟩ = some (.int .i64 a0_1) := (blk_cell BK200.out 1).trans rfl
                  have hcz36_2 : w33.cell? ⟨gb200, 2, none⟩ = some (.int .i64 a0_2) := (blk_cell BK200.out 2).trans rfl
                  have hcz36_3 : w33.cell? ⟨gb200, 3, none⟩ = some (.int .i64 a0_3) := (blk_cell BK200.out 3).trans rfl
                  have hcz36_4 : w33.cell? ⟨gb200, 4, none⟩ = some (.bool a0_4) := (blk_cell BK200.out 4).trans rfl
                  have hcz36_5 : w33.cell? ⟨gb200, 5, none⟩ = some (.bool a0_5) := (blk_cell BK200.out 5).trans rfl
                  have hcz36_6 : w33.cell? ⟨gb200, 6, none⟩ = some (.bool a0_6) := (blk_cell BK200.out 6).trans rfl
                  have hfz36_0 := blk_frozen BK200.out 0
                  have hfz36_1 := blk_frozen BK200.out 1
                  have hfz36_2 := blk_frozen BK200.out 2
                  have hfz36_3 := blk_frozen BK200.out 3
                  have hfz36_4 := blk_frozen BK200.out 4
                  have hfz36_5 := blk_frozen BK200.out 5
                  have hfz36_6 := blk_frozen BK200.out 6
                  have hcz37_0 : w33.cell? ⟨gb201, 0, none⟩ = some (.int .i64 0) := (blk_cell BK201.out 0).trans rfl
                  have hcz37_1 : w33.cell? ⟨gb201, 1, none⟩ = some (.int .i64 0) := (blk_cell BK201.out 1).trans rfl
                  have hcz37_2 : w33.cell? ⟨gb201, 2, none⟩ = some (.int .i64 0) := (blk_cell BK201.out 2).trans rfl
                  have hcz37_3 : w33.cell? ⟨gb201, 3, none⟩ = some (.int .i64 0) := (blk_cell BK201.out 3).trans rfl
                  have hcz37_4 : w33.cell? ⟨gb201, 4, none⟩ = some (.bool false) := (blk_cell BK201.out 4).trans rfl
                  have hcz37_5 : w33.cell? ⟨gb201, 5, none⟩ = some (.bool false) := (blk_cell BK201.out 5).trans rfl
                  have hcz37_6 : w33.cell? ⟨gb201, 6, none⟩ = some (.bool false) := (blk_cell BK201.out 6).trans rfl
                  have hfz37_0 := blk_frozen BK201.out 0
                  have hfz37_1 := blk_frozen BK201.out 1
                  have hfz37_2 := blk_frozen BK201.out 2
                  have hfz37_3 := blk_frozen BK201.out 3
                  have hfz37_4 := blk_frozen BK201.out 4
                  have hfz37_5 := blk_frozen BK201.out 5
                  have hfz37_6 := blk_frozen BK201.out 6
                  try go_wp2
                  refine bodyPost_ret (results_cell_row rfl _ _ gb201 29 #[.int .i64 t204, .int .i64 a0_1, .int .i64 a0_2, .int .i64 a0_3, .bool a0_4, .bool a0_5, .bool a0_6] (0, 0) _ rfl (by (with_reducible repeat (first | refine blk_drewN ?_ _ | refine blk_drew ?_ | refine blk_alloc ?_ _)); refine blk_put (cs := #[.int .i64 t204, .int .i64 a0_1, .int .i64 a0_2, .int .i64 a0_3, .bool a0_4, .bool a0_5, .bool false]) ?_ 6 _ rfl; (with_reducible repeat (first | refine blk_drewN ?_ _ | refine blk_drew ?_ | refine blk_alloc ?_ _)); refine blk_put (cs := #[.int .i64 t204, .int .i64 a0_1, .int .i64 a0_2, .int .i64 a0_3, .bool a0_4, .bool false, .bool false]) ?_ 5 _ rfl; (with_reducible repeat (first | refine blk_drewN ?_ _ | refine blk_drew ?_ | refine blk_alloc ?_ _)); refine blk_put (cs := #[.int .i64 t204, .int .i64 a0_1, .int .i64 a0_2, .int .i64 a0_3, .bool false, .bool false, .bool false]) ?_ 4 _ rfl; (with_reducible repeat (first | refine blk_drewN ?_ _ | refine blk_drew ?_ | refine blk_alloc ?_ _)); refine blk_put (cs := #[.int .i64 t204, .int .i64 a0_1, .int .i64 a0_2, .int .i64 0, .bool false, .bool false, .bool false]) ?_ 3 _ rfl; (with_reducible repeat (first | refine blk_drewN ?_ _ | refine blk_drew ?_ | refine blk_alloc ?_ _)); refine blk_put (cs := #[.int .i64 t204, .int .i64 a0_1, .int .i64 0, .int .i64 0, .bool false, .bool false, .bool false]) ?_ 2 _ rfl; (with_reducible repeat (first | refine blk_drewN ?_ _ | refine blk_drew ?_ | refine blk_alloc ?_ _)); refine blk_put (cs := #[.int .i64 t204, .int .i64 0, .int .i64 0, .int .i64 0, .bool false, .bool false, .bool false]) ?_ 1 _ rfl; (with_reducible repeat (first | refine blk_drewN ?_ _ | refine blk_drew ?_ | refine blk_alloc ?_ _)); refine blk_put (cs := #[.int .i64 0, .int .i64 0, .int .i64 0, .int .i64 0, .bool false, .bool false, .bool false]) ?_ 0 _ rfl; (with_reducible repeat (first | refine blk_drewN ?_ _ | refine blk_drew ?_ | refine blk_alloc ?_ _)); refine blk_far ?_ NB201_200.out _; (with_reducible repeat (first | refine blk_drewN ?_ _ | refine blk_drew ?_ | refine blk_alloc ?_ _)); exact BK201.out) Tryd.underlying29 rfl (by kernel_rfl)) rfl ?_
                  exact ⟨by first | rfl | (simp [errW_none, errW_some] <;> rfl) | (simp [*, errW_none, errW_some] <;> rfl), by repeat (first | (with_reducible first | exact HB.out | apply below_alloc | apply pw_below_drewN | apply below_drew1 | refine below_set ?_ GE200.out | refine below_set ?_ GE201.out) | exact HB.out)⟩
                · rw [if_neg c29] at H
                  have c29b0 : (t202.toList == ([109, 97, 120, 45, 97, 103, 101] : List UInt8)) = false := beq_eq_false_iff_ne.mpr c29
                  have c29b1 : (t202.toList != ([109, 97, 120, 45, 97, 103, 101] : List UInt8)) = true := bne_iff_ne.mpr c29
                  by_cases c38 : t202.toList = ([115, 45, 109, 97, 120, 97, 103, 101] : List UInt8)
                  · rw [if_pos c38] at H
                    have c38b0 : (t202.toList == ([115, 45, 109, 97, 120, 97, 103, 101] : List UInt8)) = true := beq_iff_eq.mpr c38
                    have c38b1 : (t202.toList != ([115, 45, 109, 97, 120, 97, 103, 101] : List UInt8)) = false := bne_eq_false_iff_eq.mpr c38
                    clear c38
                    replace H := Option.bind_eq_some_iff.mp H
                    obtain ⟨t205, A390, H⟩ := H
                    replace H : ((mandolineref09_less.f a0_1 t205).bind fun t206 => (some (a0_0, t206, a0_2, a0_3, a0_4, a0_5, a0_6))) = some (r1, r2, r3, r4, r5, r6, r7) := H
                    have A39 := Aside0.mk A390
                    clear A390
                    replace H := Option.bind_eq_some_iff.mp H
                    obtain ⟨t206, A400, H⟩ := H
                    replace H : (some (a0_0, t206, a0_2, a0_3, a0_4, a0_5, a0_6)) = some (r1, r2, r3, r4, r5, r6, r7) := H
                    have A40 := Aside0.mk A400
                    clear A400
                    simp only [Option.some.injEq, Prod.mk.injEq] at H
                    obtain ⟨rfl, rfl, rfl, rfl, rfl, rfl, rfl⟩ := H
                    try go_wp2_with (first | ((with_reducible refine gate_callee (f := 43) rfl ?_); refine goesL_ (some 49) rfl rfl Tryd.func43 (by kernel_rfl) rfl #[.string x5_1] rfl (by (try simp only [List.map_toArray, List.map_cons, List.map_nil]); first | done | rfl | (simp only [List.length_drop, List.length_take]; rfl)) ?_; (with_reducible refine (mandolineref09_lower.calls kj23 x5_1 t202 _ A28.out).mono ?_); rintro e w41 ⟨rfl, hb⟩; refine ⟨_, rfl, ?_⟩; have n0_ := Aside0.mk (blk_below (g := gb200) (o := .cells #[.int .i64 a0_0, .int .i64 a0_1, .int .i64 a0_2, .int .i64 a0_3, .bool a0_4, .bool a0_5, .bool a0_6] 29 (0, 0)) (by (with_reducible repeat (first | refine blk_drewN ?_ _ | refine blk_drew ?_ | refine blk_alloc ?_ _)); exact BK200.out) hb); have n1_ := Aside0.mk (blk_below (g := gb201) (o := .cells #[.int .i64 0, .int .i64 0, .int .i64 0, .int .i64 0, .bool false, .bool false, .bool false] 29 (0, 0)) (by (with_reducible repeat (first | refine blk_drewN ?_ _ | refine blk_drew ?_ | refine blk_alloc ?_ _)); exact BK201.out) hb); have n2_ := Aside0.mk (below_step (by repeat (first | (with_reducible first | exact HB.out | apply below_alloc | apply pw_below_drewN | apply below_drew1 | refine below_set ?_ GE200.out | refine below_set ?_ GE201.out) | exact HB.out)) hb); clear BK200; clear BK201; clear HB; have BK200 := n0_; have BK201 := n1_; have HB := n2_; clear n0_ n1_ n2_; (try clear hb); (try clear hb2); (try clear hk); (try clear hi)))
                    have n0_ := Aside0.mk (blk_drew BK200.out)
                    have n1_ := Aside0.mk (blk_drew BK201.out)
                    have n2_ := Aside0.mk (below_drew1 HB.out)
                    clear BK200
                    clear BK201
                    clear HB
                    have BK200 := n0_
                    have BK201 := n1_
                    have HB := n2_
                    clear n0_ n1_ n2_
                    refine start_ (n := 7) (S := fun w' => w'.cell? ⟨gb200, 0, none⟩ = some (.int .i64 a0_0) ∧ w'.cell? ⟨gb200, 1, none⟩ = some (.int .i64 a0_1) ∧ w'.cell? ⟨gb200, 2, none⟩ = some (.int .i64 a0_2) ∧ w'.cell? ⟨gb200, 3, none⟩ = some (.int .i64 a0_3) ∧ w'.cell? ⟨gb200, 4, none⟩ = some (.bool a0_4) ∧ w'.cell? ⟨gb200, 5, none⟩ = some (.bool a0_5) ∧ w'.cell? ⟨gb200, 6, none⟩ = some (.bool a0_6)) (ds := [6]) #[false, false, false, false, false, false, false] (by kernel_rfl) rfl rfl ⟨(blk_cell BK200.out 0).trans rfl, (blk_cell BK200.out 1).trans rfl, (blk_cell BK200.out 2).trans rfl, (blk_cell BK200.out 3).trans rfl, (blk_cell BK200.out 4).trans rfl, (blk_cell BK200.out 5).trans rfl, (blk_cell BK200.out 6).trans rfl⟩ (fun hHeld => ?_)
                    generalize w41.drew = w42 at BK200 BK201 HB hHeld ⊢
                    refine pure_ (i := 0) (N := some 60) (v := ?_) (a' := ?_) #[true, false, false, false, false, false, false] rfl rfl (by kernel_rfl) (fun _ _ _ h => h) (Or.inl ⟨by rfl, ?_⟩) ?_ ?_
                    rotate_left
                    · intro w'
                      go_simp
                      with_reducible rfl
                    rotate_left
                    · simp only [Act.put, List.setIfInBounds_toArray, List.set_cons_zero, List.set_cons_succ, i64_w, i32_w]
                      rfl
                    refine pure_ (i := 2) (N := some 62) (v := ?_) (a' := ?_) #[true, false, true, false, false, false, false] rfl rfl (by kernel_rfl) (fun _ _ _ h => h) (Or.inl ⟨by rfl, ?_⟩) ?_ ?_
                    rotate_left
                    · intro w'
                      go_simp
                      with_reducible rfl
                    rotate_left
                    · simp only [Act.put, List.setIfInBounds_toArray, List.set_cons_zero, List.set_cons_succ, i64_w, i32_w]
                      rfl
                    refine take_ (i := 1) (N := some 61) (v := ?_) (a' := ?_) #[true, true, true, false, false, false, false] rfl rfl (by kernel_rfl) (fun _ _ _ h => h) (Or.inl ⟨by rfl, ?_⟩) hHeld ?_ ?_
                    rotate_left
                    · rintro w' ⟨s0, s1, s2, s3, s4, s5, s6⟩
                      go_simp
                      with_reducible rfl
                    rotate_left
                    · simp only [Act.put, List.setIfInBounds_toArray, List.set_cons_zero, List.set_cons_succ, i64_w, i32_w]
                      rfl
                    refine one_ (i := 3) (N := some 63) #[true, true, true, true, false, false, false] rfl rfl (by kernel_rfl) (by decide) (fun K hK => ?_)
                    refine goes_ Tryd.func39 (by kernel_rfl) rfl #[.string x6_23] (by rfl) rfl rfl (by (try simp only [List.map_toArray, List.map_cons, List.map_nil]); first | done | rfl | (simp only [List.length_drop, List.length_take]; rfl)) ?_
                    with_reducible refine (mandolineref09_number.calls kj23 x6_23 t205 _ A39.out).mono ?_
                    rintro e w' ⟨rfl, ⟨nd, rfl⟩⟩
                    refine ⟨_, rfl, ?_⟩
                    refine hK.out _ _ ⟨(blk_cell BK200.out 0).trans rfl, (blk_cell BK200.out 1).trans rfl, (blk_cell BK200.out 2).trans rfl, (blk_cell BK200.out 3).trans rfl, (blk_cell BK200.out 4).trans rfl, (blk_cell BK200.out 5).trans rfl, (blk_cell BK200.out 6).trans rfl⟩ (fun hHeld => ?_)
                    clear hK K
                    refine norm_ (a' := ?_) ?_ ?_
                    rotate_left
                    · show Act.put _ (some 63) _ = _
                      simp only [Act.put, List.setIfInBounds_toArray, List.set_cons_zero, List.set_cons_succ, i64_w, i32_w]
                      rfl
                    refine one_ (i := 4) (N := some 64) #[true, true, true, true, true, false, false] rfl rfl (by kernel_rfl) (by decide) (fun K hK => ?_)
                    refine goes_ Tryd.func44 (by kernel_rfl) rfl #[.int .i64 a0_1, .int .i64 t205] (by rfl) rfl rfl (by (try simp only [List.map_toArray, List.map_cons, List.map_nil]); first | done | rfl | (simp only [List.length_drop, List.length_take]; rfl)) ?_
                    with_reducible refine (mandolineref09_less.calls a0_1 t205 t206 _ A40.out).mono ?_
                    rintro e w' ⟨rfl, ⟨nd, rfl⟩⟩
                    refine ⟨_, rfl, ?_⟩
                    refine hK.out _ _ ⟨(blk_cell BK200.out 0).trans rfl, (blk_cell BK200.out 1).trans rfl, (blk_cell BK200.out 2).trans rfl, (blk_cell BK200.out 3).trans rfl, (blk_cell BK200.out 4).trans rfl, (blk_cell BK200.out 5).trans rfl, (blk_cell BK200.out 6).trans rfl⟩ (fun hHeld => ?_)
                    clear hK K
                    refine norm_ (a' := ?_) ?_ ?_
                    rotate_left
                    · show Act.put _ (some 64) _ = _
                      simp only [Act.put, List.setIfInBounds_toArray, List.set_cons_zero, List.set_cons_succ, i64_w, i32_w]
                      rfl
                    refine pure_ (i := 5) (N := some 65) (v := ?_) (a' := ?_) #[true, true, true, true, true, true, false] rfl rfl (by kernel_rfl) (fun _ _ _ h => h) (Or.inl ⟨by rfl, ?_⟩) ?_ ?_
                    rotate_left
                    · intro w'
                      go_simp
                      with_reducible rfl
                    rotate_left
                    · simp only [Act.put, List.setIfInBounds_toArray, List.set_cons_zero, List.set_cons_succ, i64_w, i32_w]
                      rfl
                    refine last_ (i := 6) (N := none) #[true, true, true, true, true, true, true] rfl rfl (by kernel_rfl) (by decide) (fun K hK => ?_)
                    have hs43 : w42.cell? ⟨gb200, 1, none⟩ = some (.int .i64 a0_1) := (blk_cell BK200.out 1).trans rfl
                    have hfs43 := blk_frozen BK200.out 1
                    have hns43_1 := NB201_200.out
                    have hms43_1 := NB200_201.out
                    refine skip_ (w1 := ?_) (by rfl) rfl ?_ ?_
                    rotate_left
                    · go_simp
                      rfl
                    refine hK.out _ _ ?_
                    clear hK K
                    refine done_ (by kernel_rfl) ?_
                    have hnb44 := NB200_201.out
                    have hnc44 := NB201_200.out
                    have hcz45_0 : w42.cell? ⟨gb200, 0, none⟩ = some (.int .i64 a0_0) := (blk_cell BK200.out 0).trans rfl
                    have hcz45_1 : w42.cell? ⟨gb200, 1, none⟩ = some (.int .i64 a0_1) := (blk_cell BK200.out 1).trans rfl
                    have hcz45_2 : w42.cell? ⟨gb200, 2, none⟩ = some (.int .i64 a0_2) := (blk_cell BK200.out 2).trans rfl
                    have hcz45_3 : w42.cell? ⟨gb200, 3, none⟩ = some (.int .i64 a0_3) := (blk_cell BK200.out 3).trans rfl
                    have hcz45_4 : w42.cell? ⟨gb200, 4, none⟩ = some (.bool a0_4) := (blk_cell BK200.out 4).trans rfl
                    have hcz45_5 : w42.cell? ⟨gb200, 5, none⟩ = some (.bool a0_5) := (blk_cell BK200.out 5).trans rfl
                    have hcz45_6 : w42.cell? ⟨gb200, 6, none⟩ = some (.bool a0_6) := (blk_cell BK200.out 6).trans rfl
                    have hfz45_0 := blk_frozen BK200.out 0
                    have hfz45_1 := blk_frozen BK200.out 1
                    have hfz45_2 := blk_frozen BK200.out 2
                    have hfz45_3 := blk_frozen BK200.out 3
                    have hfz45_4 := blk_frozen BK200.out 4
                    have hfz45_5 := blk_frozen BK200.out 5
                    have hfz45_6 := blk_frozen BK200.out 6
                    have hcz46_0 : w42.cell? ⟨gb201, 0, none⟩ = some (.int .i64 0) := (blk_cell BK201.out 0).trans rfl
                    have hcz46_1 : w42.cell? ⟨gb201, 1, none⟩ = some (.int .i64 0) := (blk_cell BK201.out 1).trans rfl
                    have hcz46_2 : w42.cell? ⟨gb201, 2, none⟩ = some (.int .i64 0) := (blk_cell BK201.out 2).trans rfl
                    have hcz46_3 : w42.cell? ⟨gb201, 3, none⟩ = some (.int .i64 0) := (blk_cell BK201.out 3).trans rfl
                    have hcz46_4 : w42.cell? ⟨gb201, 4, none⟩ = some (.bool false) := (blk_cell BK201.out 4).trans rfl
                    have hcz46_5 : w42.cell? ⟨gb201, 5, none⟩ = some (.bool false) := (blk_cell BK201.out 5).trans rfl
                    have hcz46_6 : w42.cell? ⟨gb201, 6, none⟩ = some (.bool false) := (blk_cell BK201.out 6).trans rfl
                    have hfz46_0 := blk_frozen BK201.out 0
                    have hfz46_1 := blk_frozen BK201.out 1
                    have hfz46_2 := blk_frozen BK201.out 2
                    have hfz46_3 := blk_frozen BK201.out 3
                    have hfz46_4 := blk_frozen BK201.out 4
                    have hfz46_5 := blk_frozen BK201.out 5
                    have hfz46_6 := blk_frozen BK201.out 6
                    try go_wp2
                    refine bodyPost_ret (results_cell_row rfl _ _ gb201 29 #[.int .i64 a0_0, .int .i64 t206, .int .i64 a0_2, .int .i64 a0_3, .bool a0_4, .bool a0_5, .bool a0_6] (0, 0) _ rfl (by (with_reducible repeat (first | refine blk_drewN ?_ _ | refine blk_drew ?_ | refine blk_alloc ?_ _)); refine blk_put (cs := #[.int .i64 a0_0, .int .i64 t206, .int .i64 a0_2, .int .i64 a0_3, .bool a0_4, .bool a0_5, .bool false]) ?_ 6 _ rfl; (with_reducible repeat (first | refine blk_drewN ?_ _ | refine blk_drew ?_ | refine blk_alloc ?_ _)); refine blk_put (cs := #[.int .i64 a0_0, .int .i64 t206, .int .i64 a0_2, .int .i64 a0_3, .bool a0_4, .bool false, .bool false]) ?_ 5 _ rfl; (with_reducible repeat (first | refine blk_drewN ?_ _ | refine blk_drew ?_ | refine blk_alloc ?_ _)); refine blk_put (cs := #[.int .i64 a0_0, .int .i64 t206, .int .i64 a0_2, .int .i64 a0_3, .bool false, .bool false, .bool false]) ?_ 4 _ rfl; (with_reducible repeat (first | refine blk_drewN ?_ _ | refine blk_drew ?_ | refine blk_alloc ?_ _)); refine blk_put (cs := #[.int .i64 a0_0, .int .i64 t206, .int .i64 a0_2, .int .i64 0, .bool false, .bool false, .bool false]) ?_ 3 _ rfl; (with_reducible repeat (first | refine blk_drewN ?_ _ | refine blk_drew ?_ | refine blk_alloc ?_ _)); refine blk_put (cs := #[.int .i64 a0_0, .int .i64 t206, .int .i64 0, .int .i64 0, .bool false, .bool false, .bool false]) ?_ 2 _ rfl; (with_reducible repeat (first | refine blk_drewN ?_ _ | refine blk_drew ?_ | refine blk_alloc ?_ _)); refine blk_put (cs := #[.int .i64 a0_0, .int .i64 0, .int .i64 0, .int .i64 0, .bool false, .bool false, .bool false]) ?_ 1 _ rfl; (with_reducible repeat (first | refine blk_drewN ?_ _ | refine blk_drew ?_ | refine blk_alloc ?_ _)); refine blk_put (cs := #[.int .i64 0, .int .i64 0, .int .i64 0, .int .i64 0, .bool false, .bool false, .bool false]) ?_ 0 _ rfl; (with_reducible repeat (first | refine blk_drewN ?_ _ | refine blk_drew ?_ | refine blk_alloc ?_ _)); refine blk_far ?_ NB201_200.out _; (with_reducible repeat (first | refine blk_drewN ?_ _ | refine blk_drew ?_ | refine blk_alloc ?_ _)); exact BK201.out) Tryd.underlying29 rfl (by kernel_rfl)) rfl ?_
                    exact ⟨by first | rfl | (simp [errW_none, errW_some] <;> rfl) | (simp [*, errW_none, errW_some] <;> rfl), by repeat (first | (with_reducible first | exact HB.out | apply below_alloc | apply pw_below_drewN | apply below_drew1 | refine below_set ?_ GE200.out | refine below_set ?_ GE201.out) | exact HB.out)⟩
                  · rw [if_neg c38] at H
                    have c38b0 : (t202.toList == ([115, 45, 109, 97, 120, 97, 103, 101] : List UInt8)) = false := beq_eq_false_iff_ne.mpr c38
                    have c38b1 : (t202.toList != ([115, 45, 109, 97, 120, 97, 103, 101] : List UInt8)) = true := bne_iff_ne.mpr c38
                    by_cases c47 : t202.toList = ([115, 116, 97, 108, 101, 45, 119, 104, 105, 108, 101, 45, 114, 101, 118, 97, 108, 105, 100, 97, 116, 101] : List UInt8)
                    · rw [if_pos c47] at H
                      have c47b0 : (t202.toList == ([115, 116, 97, 108, 101, 45, 119, 104, 105, 108, 101, 45, 114, 101, 118, 97, 108, 105, 100, 97, 116, 101] : List UInt8)) = true := beq_iff_eq.mpr c47
                      have c47b1 : (t202.toList != ([115, 116, 97, 108, 101, 45, 119, 104, 105, 108, 101, 45, 114, 101, 118, 97, 108, 105, 100, 97, 116, 101] : List UInt8)) = false := bne_eq_false_iff_eq.mpr c47
                      clear c47
                      replace H := Option.bind_eq_some_iff.mp H
                      obtain ⟨t207, A480, H⟩ := H
                      replace H : ((mandolineref09_less.f a0_2 t207).bind fun t208 => (some (a0_0, a0_1, t208, a0_3, a0_4, a0_5, a0_6))) = some (r1, r2, r3, r4, r5, r6, r7) := H
                      have A48 := Aside0.mk A480
                      clear A480
                      replace H := Option.bind_eq_some_iff.mp H
                      obtain ⟨t208, A490, H⟩ := H
                      replace H : (some (a0_0, a0_1, t208, a0_3, a0_4, a0_5, a0_6)) = some (r1, r2, r3, r4, r5, r6, r7) := H
                      have A49 := Aside0.mk A490
                      clear A490
                      simp only [Option.some.injEq, Prod.mk.injEq] at H
                      obtain ⟨rfl, rfl, rfl, rfl, rfl, rfl, rfl⟩ := H
                      try go_wp2_with (first | ((with_reducible refine gate_callee (f := 43) rfl ?_); refine goesL_ (some 49) rfl rfl Tryd.func43 (by kernel_rfl) rfl #[.string x5_1] rfl (by (try simp only [List.map_toArray, List.map_cons, List.map_nil]); first | done | rfl | (simp only [List.length_drop, List.length_take]; rfl)) ?_; (with_reducible refine (mandolineref09_lower.calls kj23 x5_1 t202 _ A28.out).mono ?_); rintro e w50 ⟨rfl, hb⟩; refine ⟨_, rfl, ?_⟩; have n0_ := Aside0.mk (blk_below (g := gb200) (o := .cells #[.int .i64 a0_0, .int .i64 a0_1, .int .i64 a0_2, .int .i64 a0_3, .bool a0_4, .bool a0_5, .bool a0_6] 29 (0, 0)) (by (with_reducible repeat (first | refine blk_drewN ?_ _ | refine blk_drew ?_ | refine blk_alloc ?_ _)); exact BK200.out) hb); have n1_ := Aside0.mk (blk_below (g := gb201) (o := .cells #[.int .i64 0, .int .i64 0, .int .i64 0, .int .i64 0, .bool false, .bool false, .bool false] 29 (0, 0)) (by (with_reducible repeat (first | refine blk_drewN ?_ _ | refine blk_drew ?_ | refine blk_alloc ?_ _)); exact BK201.out) hb); have n2_ := Aside0.mk (below_step (by repeat (first | (with_reducible first | exact HB.out | apply below_alloc | apply pw_below_drewN | apply below_drew1 | refine below_set ?_ GE200.out | refine below_set ?_ GE201.out) | exact HB.out)) hb); clear BK200; clear BK201; clear HB; have BK200 := n0_; have BK201 := n1_; have HB := n2_; clear n0_ n1_ n2_; (try clear hb); (try clear hb2); (try clear hk); (try clear hi)))
                      have n0_ := Aside0.mk (blk_drew BK200.out)
                      have n1_ := Aside0.mk (blk_drew BK201.out)
                      have n2_ := Aside0.mk (below_drew1 HB.out)
                      clear BK200
                      clear BK201
                      clear HB
                      have BK200 := n0_
                      have BK201 := n1_
                      have HB := n2_
                      clear n0_ n1_ n2_
                      refine start_ (n := 7) (S := fun w' => w'.cell? ⟨gb200, 0, none⟩ = some (.int .i64 a0_0) ∧ w'.cell? ⟨gb200, 1, none⟩ = some (.int .i64 a0_1) ∧ w'.cell? ⟨gb200, 2, none⟩ = some (.int .i64 a0_2) ∧ w'.cell? ⟨gb200, 3, none⟩ = some (.int .i64 a0_3) ∧ w'.cell? ⟨gb200, 4, none⟩ = some (.bool a0_4) ∧ w'.cell? ⟨gb200, 5, none⟩ = some (.bool a0_5) ∧ w'.cell? ⟨gb200, 6, none⟩ = some (.bool a0_6)) (ds := [6]) #[false, false, false, false, false, false, false] (by kernel_rfl) rfl rfl ⟨(blk_cell BK200.out 0).trans rfl, (blk_cell BK200.out 1).trans rfl, (blk_cell BK200.out 2).trans rfl, (blk_cell BK200.out 3).trans rfl, (blk_cell BK200.out 4).trans rfl, (blk_cell BK200.out 5).trans rfl, (blk_cell BK200.out 6).trans rfl⟩ (fun hHeld => ?_)
                      generalize w50.drew = w51 at BK200 BK201 HB hHeld ⊢
                      refine pure_ (i := 0) (N := some 68) (v := ?_) (a' := ?_) #[true, false, false, false, false, false, false] rfl rfl (by kernel_rfl) (fun _ _ _ h => h) (Or.inl ⟨by rfl, ?_⟩) ?_ ?_
                      rotate_left
                      · intro w'
                        go_simp
                        with_reducible rfl
                      rotate_left
                      · simp only [Act.put, List.setIfInBounds_toArray, List.set_cons_zero, List.set_cons_succ, i64_w, i32_w]
                        rfl
                      refine pure_ (i := 2) (N := some 70) (v := ?_) (a' := ?_) #[true, false, true, false, false, false, false] rfl rfl (by kernel_rfl) (fun _ _ _ h => h) (Or.inl ⟨by rfl, ?_⟩) ?_ ?_
                      rotate_left
                      · intro w'
                        go_simp
                        with_reducible rfl
                      rotate_left
                      · simp only [Act.put, List.setIfInBounds_toArray, List.set_cons_zero, List.set_cons_succ, i64_w, i32_w]
                        rfl
                      refine take_ (i := 1) (N := some 69) (v := ?_) (a' := ?_) #[true, true, true, false, false, false, false] rfl rfl (by kernel_rfl) (fun _ _ _ h => h) (Or.inl ⟨by rfl, ?_⟩) hHeld ?_ ?_
                      rotate_left
                      · rintro w' ⟨s0, s1, s2, s3, s4, s5, s6⟩
                        go_simp
                        with_reducible rfl
                      rotate_left
                      · simp only [Act.put, List.setIfInBounds_toArray, List.set_cons_zero, List.set_cons_succ, i64_w, i32_w]
                        rfl
                      refine one_ (i := 3) (N := some 71) #[true, true, true, true, false, false, false] rfl rfl (by kernel_rfl) (by decide) (fun K hK => ?_)
                      refine goes_ Tryd.func39 (by kernel_rfl) rfl #[.string x6_23] (by rfl) rfl rfl (by (try simp only [List.map_toArray, List.map_cons, List.map_nil]); first | done | rfl | (simp only [List.length_drop, List.length_take]; rfl)) ?_
                      with_reducible refine (mandolineref09_number.calls kj23 x6_23 t207 _ A48.out).mono ?_
                      rintro e w' ⟨rfl, ⟨nd, rfl⟩⟩
                      refine ⟨_, rfl, ?_⟩
                      refine hK.out _ _ ⟨(blk_cell BK200.out 0).trans rfl, (blk_cell BK200.out 1).trans rfl, (blk_cell BK200.out 2).trans rfl, (blk_cell BK200.out 3).trans rfl, (blk_cell BK200.out 4).trans rfl, (blk_cell BK200.out 5).trans rfl, (blk_cell BK200.out 6).trans rfl⟩ (fun hHeld => ?_)
                      clear hK K
                      refine norm_ (a' := ?_) ?_ ?_
                      rotate_left
                      · show Act.put _ (some 71) _ = _
                        simp only [Act.put, List.setIfInBounds_toArray, List.set_cons_zero, List.set_cons_succ, i64_w, i32_w]
                        rfl
                      refine one_ (i := 4) (N := some 72) #[true, true, true, true, true, false, false] rfl rfl (by kernel_rfl) (by decide) (fun K hK => ?_)
                      refine goes_ Tryd.func44 (by kernel_rfl) rfl #[.int .i64 a0_2, .int .i64 t207] (by rfl) rfl rfl (by (try simp only [List.map_toArray, List.map_cons, List.map_nil]); first | done | rfl | (simp only [List.length_drop, List.length_take]; rfl)) ?_
                      with_reducible refine (mandolineref09_less.calls a0_2 t207 t208 _ A49.out).mono ?_
                      rintro e w' ⟨rfl, ⟨nd, rfl⟩⟩
                      refine ⟨_, rfl, ?_⟩
                      refine hK.out _ _ ⟨(blk_cell BK200.out 0).trans rfl, (blk_cell BK200.out 1).trans rfl, (blk_cell BK200.out 2).trans rfl, (blk_cell BK200.out 3).trans rfl, (blk_cell BK200.out 4).trans rfl, (blk_cell BK200.out 5).trans rfl, (blk_cell BK200.out 6).trans rfl⟩ (fun hHeld => ?_)
                      clear hK K
                      refine norm_ (a' := ?_) ?_ ?_
                      rotate_left
                      · show Act.put _ (some 72) _ = _
                        simp only [Act.put, List.setIfInBounds_toArray, List.set_cons_zero, List.set_cons_succ, i64_w, i32_w]
                        rfl
                      refine pure_ (i := 5) (N := some 73) (v := ?_) (a' := ?_) #[true, true, true, true, true, true, false] rfl rfl (by kernel_rfl) (fun _ _ _ h => h) (Or.inl ⟨by rfl, ?_⟩) ?_ ?_
                      rotate_left
                      · intro w'
                        go_simp
                        with_reducible rfl
                      rotate_left
                      · simp only [Act.put, List.setIfInBounds_toArray, List.set_cons_zero, List.set_cons_succ, i64_w, i32_w]
                        rfl
                      refine last_ (i := 6) (N := none) #[true, true, true, true, true, true, true] rfl rfl (by kernel_rfl) (by decide) (fun K hK => ?_)
                      have hs52 : w51.cell? ⟨gb200, 2, none⟩ = some (.int .i64 a0_2) := (blk_cell BK200.out 2).trans rfl
                      have hfs52 := blk_frozen BK200.out 2
                      have hns52_1 := NB201_200.out
                      have hms52_1 := NB200_201.out
                      refine skip_ (w1 := ?_) (by rfl) rfl ?_ ?_
                      rotate_left
                      · go_simp
                        rfl
                      refine hK.out _ _ ?_
                      clear hK K
                      refine done_ (by kernel_rfl) ?_
                      have hnb53 := NB200_201.out
                      have hnc53 := NB201_200.out
                      have hcz54_0 : w51.cell? ⟨gb200, 0, none⟩ = some (.int .i64 a0_0) := (blk_cell BK200.out 0).trans rfl
                      have hcz54_1 : w51.cell? ⟨gb200, 1, none⟩ = some (.int .i64 a0_1) := (blk_cell BK200.out 1).trans rfl
                      have hcz54_2 : w51.cell? ⟨gb200, 2, none⟩ = some (.int .i64 a0_2) := (blk_cell BK200.out 2).trans rfl
                      have hcz54_3 : w51.cell? ⟨gb200, 3, none⟩ = some (.int .i64 a0_3) := (blk_cell BK200.out 3).trans rfl
                      have hcz54_4 : w51.cell? ⟨gb200, 4, none⟩ = some (.bool a0_4) := (blk_cell BK200.out 4).trans rfl
                      have hcz54_5 : w51.cell? ⟨gb200, 5, none⟩ = some (.bool a0_5) := (blk_cell BK200.out 5).trans rfl
                      have hcz54_6 : w51.cell? ⟨gb200, 6, none⟩ = some (.bool a0_6) := (blk_cell BK200.out 6).trans rfl
                      have hfz54_0 := blk_frozen BK200.out 0
                      have hfz54_1 := blk_frozen BK200.out 1
                      have hfz54_2 := blk_frozen BK200.out 2
                      have hfz54_3 := blk_frozen BK200.out 3
                      have hfz54_4 := blk_frozen BK200.out 4
                      have hfz54_5 := blk_frozen BK200.out 5
                      have hfz54_6 := blk_frozen BK200.out 6
                      have hcz55_0 : w51.cell? ⟨gb201, 0, none⟩ = some (.int .i64 0) := (blk_cell BK201.out 0).trans rfl
                      have hcz55_1 : w51.cell? ⟨gb201, 1, none⟩ = some (.int .i64 0) := (blk_cell BK201.out 1).trans rfl
                      have hcz55_2 : w51.cell? ⟨gb201, 2, none⟩ = some (.int .i64 0) := (blk_cell BK201.out 2).trans rfl
                      have hcz55_3 : w51.cell? ⟨gb201, 3, none⟩ = some (.int .i64 0) := (blk_cell BK201.out 3).trans rfl
                      have hcz55_4 : w51.cell? ⟨gb201, 4, none⟩ = some (.bool false) := (blk_cell BK201.out 4).trans rfl
                      have hcz55_5 : w51.cell? ⟨gb201, 5, none⟩ = some (.bool false) := (blk_cell BK201.out 5).trans rfl
                      have hcz55_6 : w51.cell? ⟨gb201, 6, none⟩ = some (.bool false) := (blk_cell BK201.out 6).trans rfl
                      have hfz55_0 := blk_frozen BK201.out 0
                      have hfz55_1 := blk_frozen BK201.out 1
                      have hfz55_2 := blk_frozen BK201.out 2
                      have hfz55_3 := blk_frozen BK201.out 3
                      have hfz55_4 := blk_frozen BK201.out 4
                      have hfz55_5 := blk_frozen BK201.out 5
                      have hfz55_6 := blk_frozen BK201.out 6
                      try go_wp2
                      refine bodyPost_ret (results_cell_row rfl _ _ gb201 29 #[.int .i64 a0_0, .int .i64 a0_1, .int .i64 t208, .int .i64 a0_3, .bool a0_4, .bool a0_5, .bool a0_6] (0, 0) _ rfl (by (with_reducible repeat (first | refine blk_drewN ?_ _ | refine blk_drew ?_ | refine blk_alloc ?_ _)); refine blk_put (cs := #[.int .i64 a0_0, .int .i64 a0_1, .int .i64 t208, .int .i64 a0_3, .bool a0_4, .bool a0_5, .bool false]) ?_ 6 _ rfl; (with_reducible repeat (first | refine blk_drewN ?_ _ | refine blk_drew ?_ | refine blk_alloc ?_ _)); refine blk_put (cs := #[.int .i64 a0_0, .int .i64 a0_1, .int .i64 t208, .int .i64 a0_3, .bool a0_4, .bool false, .bool false]) ?_ 5 _ rfl; (with_reducible repeat (first | refine blk_drewN ?_ _ | refine blk_drew ?_ | refine blk_alloc ?_ _)); refine blk_put (cs := #[.int .i64 a0_0, .int .i64 a0_1, .int .i64 t208, .int .i64 a0_3, .bool false, .bool false, .bool false]) ?_ 4 _ rfl; (with_reducible repeat (first | refine blk_drewN ?_ _ | refine blk_drew ?_ | refine blk_alloc ?_ _)); refine blk_put (cs := #[.int .i64 a0_0, .int .i64 a0_1, .int .i64 t208, .int .i64 0, .bool false, .bool false, .bool false]) ?_ 3 _ rfl; (with_reducible repeat (first | refine blk_drewN ?_ _ | refine blk_drew ?_ | refine blk_alloc ?_ _)); refine blk_put (cs := #[.int .i64 a0_0, .int .i64 a0_1, .int .i64 0, .int .i64 0, .bool false, .bool false, .bool false]) ?_ 2 _ rfl; (with_reducible repeat (first | refine blk_drewN ?_ _ | refine blk_drew ?_ | refine blk_alloc ?_ _)); refine blk_put (cs := #[.int .i64 a0_0, .int .i64 0, .int .i64 0, .int .i64 0, .bool false, .bool false, .bool false]) ?_ 1 _ rfl; (with_reducible repeat (first | refine blk_drewN ?_ _ | refine blk_drew ?_ | refine blk_alloc ?_ _)); refine blk_put (cs := #[.int .i64 0, .int .i64 0, .int .i64 0, .int .i64 0, .bool false, .bool false, .bool false]) ?_ 0 _ rfl; (with_reducible repeat (first | refine blk_drewN ?_ _ | refine blk_drew ?_ | refine blk_alloc ?_ _)); refine blk_far ?_ NB201_200.out _; (with_reducible repeat (first | refine blk_drewN ?_ _ | refine blk_drew ?_ | refine blk_alloc ?_ _)); exact BK201.out) Tryd.underlying29 rfl (by kernel_rfl)) rfl ?_
                      exact ⟨by first | rfl | (simp [errW_none, errW_some] <;> rfl) | (simp [*, errW_none, errW_some] <;> rfl), by repeat (first | (with_reducible first | exact HB.out | apply below_alloc | apply pw_below_drewN | apply below_drew1 | refine below_set ?_ GE200.out | refine below_set ?_ GE201.out) | exact HB.out)⟩
                    · rw [if_neg c47] at H
                      have c47b0 : (t202.toList == ([115, 116, 97, 108, 101, 45, 119, 104, 105, 108, 101, 45, 114, 101, 118, 97, 108, 105, 100, 97, 116, 101] : List UInt8)) = false := beq_eq_false_iff_ne.mpr c47
                      have c47b1 : (t202.toList != ([115, 116, 97, 108, 101, 45, 119, 104, 105, 108, 101, 45, 114, 101, 118, 97, 108, 105, 100, 97, 116, 101] : List UInt8)) = true := bne_iff_ne.mpr c47
                      by_cases c56 : t202.toList = ([115, 116, 97, 108, 101, 45, 105, 102, 45, 101, 114, 114, 111, 114] : List UInt8)
                      · rw [if_pos c56] at H
                        have c56b0 : (t202.toList == ([115, 116, 97, 108, 101, 45, 105, 102, 45, 101, 114, 114, 111, 114] : List UInt8)) = true := beq_iff_eq.mpr c56
                        have c56b1 : (t202.toList != ([115, 116, 97, 108, 101, 45, 105, 102, 45, 101, 114, 114, 111, 114] : List UInt8)) = false := bne_eq_false_iff_eq.mpr c56
                        clear c56
                        replace H := Option.bind_eq_some_iff.mp H
                        obtain ⟨t209, A570, H⟩ := H
                        replace H : ((mandolineref09_less.f a0_3 t209).bind fun t210 => (some (a0_0, a0_1, a0_2, t210, a0_4, a0_5, a0_6))) = some (r1, r2, r3, r4, r5, r6, r7) := H
                        have A57 := Aside0.mk A570
                        clear A570
                        replace H := Option.bind_eq_some_iff.mp H
                        obtain ⟨t210, A580, H⟩ := H
                        replace H : (some (a0_0, a0_1, a0_2, t210, a0_4, a0_5, a0_6)) = some (r1, r2, r3, r4, r5, r6, r7) := H
                        have A58 := Aside0.mk A580
                        clear A580
                        simp only [Option.some.injEq, Prod.mk.injEq] at H
                        obtain ⟨rfl, rfl, rfl, rfl, rfl, rfl, rfl⟩ := H
                        try go_wp2_with (first | ((with_reducible refine gate_callee (f := 43) rfl ?_); refine goesL_ (some 49) rfl rfl Tryd.func43 (by kernel_rfl) rfl #[.string x5_1] rfl (by (try simp only [List.map_toArray, List.map_cons, List.map_nil]); first | done | rfl | (simp only [List.length_drop, List.length_take]; rfl)) ?_; (with_reducible refine (mandolineref09_lower.calls kj23 x5_1 t202 _ A28.out).mono ?_); rintro e w59 ⟨rfl, hb⟩; refine ⟨_, rfl, ?_⟩; have n0_ := Aside0.mk (blk_below (g := gb200) (o := .cells #[.int .i64 a0_0, .int .i64 a0_1, .int .i64 a0_2, .int .i64 a0_3, .bool a0_4, .bool a0_5, .bool a0_6] 29 (0, 0)) (by (with_reducible repeat (first | refine blk_drewN ?_ _ | refine blk_drew ?_ | refine blk_alloc ?_ _)); exact BK200.out) hb); have n1_ := Aside0.mk (blk_below (g := gb201) (o := .cells #[.int .i64 0, .int .i64 0, .int .i64 0, .int .i64 0, .bool false, .bool false, .bool false] 29 (0, 0)) (by (with_reducible repeat (first | refine blk_drewN ?_ _ | refine blk_drew ?_ | refine blk_alloc ?_ _)); exact BK201.out) hb); have n2_ := Aside0.mk (below_step (by repeat (first | (with_reducible first | exact HB.out | apply below_alloc | apply pw_below_drewN | apply below_drew1 | refine below_set ?_ GE200.out | refine below_set ?_ GE201.out) | exact HB.out)) hb); clear BK200; clear BK201; clear HB; have BK200 := n0_; have BK201 := n1_; have HB := n2_; clear n0_ n1_ n2_; (try clear hb); (try clear hb2); (try clear hk); (try clear hi)))
                        have n0_ := Aside0.mk (blk_drew BK200.out)
                        have n1_ := Aside0.mk (blk_drew BK201.out)
                        have n2_ := Aside0.mk (below_drew1 HB.out)
                        clear BK200
                        clear BK201
                        clear HB
                        have BK200 := n0_
                        have BK201 := n1_
                        have HB := n2_
                        clear n0_ n1_ n2_
                        refine start_ (n := 7) (S := fun w' => w'.cell? ⟨gb200, 0, none⟩ = some (.int .i64 a0_0) ∧ w'.cell? ⟨gb200, 1, none⟩ = some (.int .i64 a0_1) ∧ w'.cell? ⟨gb200, 2, none⟩ = some (.int .i64 a0_2) ∧ w'.cell? ⟨gb200, 3, none⟩ = some (.int .i64 a0_3) ∧ w'.cell? ⟨gb200, 4, none⟩ = some (.bool a0_4) ∧ w'.cell? ⟨gb200, 5, none⟩ = some (.bool a0_5) ∧ w'.cell? ⟨gb200, 6, none⟩ = some (.bool a0_6)) (ds := [6]) #[false, false, false, false, false, false, false] (by kernel_rfl) rfl rfl ⟨(blk_cell BK200.out 0).trans rfl, (blk_cell BK200.out 1).trans rfl, (blk_cell BK200.out 2).trans rfl, (blk_cell BK200.out 3).trans rfl, (blk_cell BK200.out 4).trans rfl, (blk_cell BK200.out 5).trans rfl, (blk_cell BK200.out 6).trans rfl⟩ (fun hHeld => ?_)
                        generalize w59.drew = w60 at BK200 BK201 HB hHeld ⊢
                        refine pure_ (i := 0) (N := some 76) (v := ?_) (a' := ?_) #[true, false, false, false, false, false, false] rfl rfl (by kernel_rfl) (fun _ _ _ h => h) (Or.inl ⟨by rfl, ?_⟩) ?_ ?_
                        rotate_left
                        · intro w'
                          go_simp
                          with_reducible rfl
                        rotate_left
                        · simp only [Act.put, List.setIfInBounds_toArray, List.set_cons_zero, List.set_cons_succ, i64_w, i32_w]
                          rfl
                        refine pure_ (i := 2) (N := some 78) (v := ?_) (a' := ?_) #[true, false, true, false, false, false, false] rfl rfl (by kernel_rfl) (fun _ _ _ h => h) (Or.inl ⟨by rfl, ?_⟩) ?_ ?_
                        rotate_left
                        · intro w'
                          go_simp
                          with_reducible rfl
                        rotate_left
                        · simp only [Act.put, List.setIfInBounds_toArray, List.set_cons_zero, List.set_cons_succ, i64_w, i32_w]
                          rfl
                        refine take_ (i := 1) (N := some 77) (v := ?_) (a' := ?_) #[true, true, true, false, false, false, false] rfl rfl (by kernel_rfl) (fun _ _ _ h => h) (Or.inl ⟨by rfl, ?_⟩) hHeld ?_ ?_
                        rotate_left
                        · rintro w' ⟨s0, s1, s2, s3, s4, s5, s6⟩
                          go_simp
                          with_reducible rfl
                        rotate_left
                        · simp only [Act.put, List.setIfInBounds_toArray, List.set_cons_zero, List.set_cons_succ, i64_w, i32_w]
                          rfl
                        refine one_ (i := 3) (N := some 79) #[true, true, true, true, false, false, false] rfl rfl (by kernel_rfl) (by decide) (fun K hK => ?_)
                        refine goes_ Tryd.func39 (by kernel_rfl) rfl #[.string x6_23] (by rfl) rfl rfl (by (try simp only [List.map_toArray, List.map_cons, List.map_nil]); first | done | rfl | (simp only [List.length_drop, List.length_take]; rfl)) ?_
                        with_reducible refine (mandolineref09_number.calls kj23 x6_23 t209 _ A57.out).mono ?_
                        rintro e w' ⟨rfl, ⟨nd, rfl⟩⟩
                        refine ⟨_, rfl, ?_⟩
                        refine hK.out _ _ ⟨(blk_cell BK200.out 0).trans rfl, (blk_cell BK200.out 1).trans rfl, (blk_cell BK200.out 2).trans rfl, (blk_cell BK200.out 3).trans rfl, (blk_cell BK200.out 4).trans rfl, (blk_cell BK200.out 5).trans rfl, (blk_cell BK200.out 6).trans rfl⟩ (fun hHeld => ?_)
                        clear hK K
                        refine norm_ (a' := ?_) ?_ ?_
                        rotate_left
                        · show Act.put _ (some 79) _ = _
                          simp only [Act.put, List.setIfInBounds_toArray, List.set_cons_zero, List.set_cons_succ, i64_w, i32_w]
                          rfl
                        refine one_ (i := 4) (N := some 80) #[true, true, true, true, true, false, false] rfl rfl (by kernel_rfl) (by decide) (fun K hK => ?_)
                        refine goes_ Tryd.func44 (by kernel_rfl) rfl #[.int .i64 a0_3, .int .i64 t209] (by rfl) rfl rfl (by (try simp only [List.map_toArray, List.map_cons, List.map_nil]); first | done | rfl | (simp only [List.length_drop, List.length_take]; rfl)) ?_
                        with_reducible refine (mandolineref09_less.calls a0_3 t209 t210 _ A58.out).mono ?_
                        rintro e w' ⟨rfl, ⟨nd, rfl⟩⟩
                        refine ⟨_, rfl, ?_⟩
                        refine hK.out _ _ ⟨(blk_cell BK200.out 0).trans rfl, (blk_cell BK200.out 1).trans rfl, (blk_cell BK200.out 2).trans rfl, (blk_cell BK200.out 3).trans rfl, (blk_cell BK200.out 4).trans rfl, (blk_cell BK200.out 5).trans rfl, (blk_cell BK200.out 6).trans rfl⟩ (fun hHeld => ?_)
                        clear hK K
                        refine norm_ (a' := ?_) ?_ ?_
                        rotate_left
                        · show Act.put _ (some 80) _ = _
                          simp only [Act.put, List.setIfInBounds_toArray, List.set_cons_zero, List.set_cons_succ, i64_w, i32_w]
                          rfl
                        refine pure_ (i := 5) (N := some 81) (v := ?_) (a' := ?_) #[true, true, true, true, true, true, false] rfl rfl (by kernel_rfl) (fun _ _ _ h => h) (Or.inl ⟨by rfl, ?_⟩) ?_ ?_
                        rotate_left
                        · intro w'
                          go_simp
                          with_reducible rfl
                        rotate_left
                        · simp only [Act.put, List.setIfInBounds_toArray, List.set_cons_zero, List.set_cons_succ, i64_w, i32_w]
                          rfl
                        refine last_ (i := 6) (N := none) #[true, true, true, true, true, true, true] rfl rfl (by kernel_rfl) (by decide) (fun K hK => ?_)
                        have hs61 : w60.cell? ⟨gb200, 3, none⟩ = some (.int .i64 a0_3) := (blk_cell BK200.out 3).trans rfl
                        have hfs61 := blk_frozen BK200.out 3
                        have hns61_1 := NB201_200.out
                        have hms61_1 := NB200_201.out
                        refine skip_ (w1 := ?_) (by rfl) rfl ?_ ?_
                        rotate_left
                        · go_simp
                          rfl
                        refine hK.out _ _ ?_
                        clear hK K
                        refine done_ (by kernel_rfl) ?_
                        have hnb62 := NB200_201.out
                        have hnc62 := NB201_200.out
                        have hcz63_0 : w60.cell? ⟨gb200, 0, none⟩ = some (.int .i64 a0_0) := (blk_cell BK200.out 0).trans rfl
                        have hcz63_1 : w60.cell? ⟨gb200, 1, none⟩ = some (.int .i64 a0_1) := (blk_cell BK200.out 1).trans rfl
                        have hcz63_2 : w60.cell? ⟨gb200, 2, none⟩ = some (.int .i64 a0_2) := (blk_cell BK200.out 2).trans rfl
                        have hcz63_3 : w60.cell? ⟨gb200, 3, none⟩ = some (.int .i64 a0_3) := (blk_cell BK200.out 3).trans rfl
                        have hcz63_4 : w60.cell? ⟨gb200, 4, none⟩ = some (.bool a0_4) := (blk_cell BK200.out 4).trans rfl
                        have hcz63_5 : w60.cell? ⟨gb200, 5, none⟩ = some (.bool a0_5) := (blk_cell BK200.out 5).trans rfl
                        have hcz63_6 : w60.cell? ⟨gb200, 6, none⟩ = some (.bool a0_6) := (blk_cell BK200.out 6).trans rfl
                        have hfz63_0 := blk_frozen BK200.out 0
                        have hfz63_1 := blk_frozen BK200.out 1
                        have hfz63_2 := blk_frozen BK200.out 2
                        have hfz63_3 := blk_frozen BK200.out 3
                        have hfz63_4 := blk_frozen BK200.out 4
                        have hfz63_5 := blk_frozen BK200.out 5
                        have hfz63_6 := blk_frozen BK200.out 6
                        have hcz64_0 : w60.cell? ⟨gb201, 0, none⟩ = some (.int .i64 0) := (blk_cell BK201.out 0).trans rfl
                        have hcz64_1 : w60.cell? ⟨gb201, 1, none⟩ = some (.int .i64 0) := (blk_cell BK201.out 1).trans rfl
                        have hcz64_2 : w60.cell? ⟨gb201, 2, none⟩ = some (.int .i64 0) := (blk_cell BK201.out 2).trans rfl
                        have hcz64_3 : w60.cell? ⟨gb201, 3, none⟩ = some (.int .i64 0) := (blk_cell BK201.out 3).trans rfl
                        have hcz64_4 : w60.cell? ⟨gb201, 4, none⟩ = some (.bool false) := (blk_cell BK201.out 4).trans rfl
                        have hcz64_5 : w60.cell? ⟨gb201, 5, none⟩ = some (.bool false) := (blk_cell BK201.out 5).trans rfl
                        have hcz64_6 : w60.cell? ⟨gb201, 6, none⟩ = some (.bool false) := (blk_cell BK201.out 6).trans rfl
                        have hfz64_0 := blk_frozen BK201.out 0
                        have hfz64_1 := blk_frozen BK201.out 1
                        have hfz64_2 := blk_frozen BK201.out 2
                        have hfz64_3 := blk_frozen BK201.out 3
                        have hfz64_4 := blk_frozen BK201.out 4
                        have hfz64_5 := blk_frozen BK201.out 5
                        have hfz64_6 := blk_frozen BK201.out 6
                        try go_wp2
                        refine bodyPost_ret (results_cell_row rfl _ _ gb201 29 #[.int .i64 a0_0, .int .i64 a0_1, .int .i64 a0_2, .int .i64 t210, .bool a0_4, .bool a0_5, .bool a0_6] (0, 0) _ rfl (by (with_reducible repeat (first | refine blk_drewN ?_ _ | refine blk_drew ?_ | refine blk_alloc ?_ _)); refine blk_put (cs := #[.int .i64 a0_0, .int .i64 a0_1, .int .i64 a0_2, .int .i64 t210, .bool a0_4, .bool a0_5, .bool false]) ?_ 6 _ rfl; (with_reducible repeat (first | refine blk_drewN ?_ _ | refine blk_drew ?_ | refine blk_alloc ?_ _)); refine blk_put (cs := #[.int .i64 a0_0, .int .i64 a0_1, .int .i64 a0_2, .int .i64 t210, .bool a0_4, .bool false, .bool false]) ?_ 5 _ rfl; (with_reducible repeat (first | refine blk_drewN ?_ _ | refine blk_drew ?_ | refine blk_alloc ?_ _)); refine blk_put (cs := #[.int .i64 a0_0, .int .i64 a0_1, .int .i64 a0_2, .int .i64 t210, .bool false, .bool false, .bool false]) ?_ 4 _ rfl; (with_reducible repeat (first | refine blk_drewN ?_ _ | refine blk_drew ?_ | refine blk_alloc ?_ _)); refine blk_put (cs := #[.int .i64 a0_0, .int .i64 a0_1, .int .i64 a0_2, .int .i64 0, .bool false, .bool false, .bool false]) ?_ 3 _ rfl; (with_reducible repeat (first | refine blk_drewN ?_ _ | refine blk_drew ?_ | refine blk_alloc ?_ _)); refine blk_put (cs := #[.int .i64 a0_0, .int .i64 a0_1, .int .i64 0, .int .i64 0, .bool false, .bool false, .bool false]) ?_ 2 _ rfl; (with_reducible repeat (first | refine blk_drewN ?_ _ | refine blk_drew ?_ | refine blk_alloc ?_ _)); refine blk_put (cs := #[.int .i64 a0_0, .int .i64 0, .int .i64 0, .int .i64 0, .bool false, .bool false, .bool false]) ?_ 1 _ rfl; (with_reducible repeat (first | refine blk_drewN ?_ _ | refine blk_drew ?_ | refine blk_alloc ?_ _)); refine blk_put (cs := #[.int .i64 0, .int .i64 0, .int .i64 0, .int .i64 0, .bool false, .bool false, .bool false]) ?_ 0 _ rfl; (with_reducible repeat (first | refine blk_drewN ?_ _ | refine blk_drew ?_ | refine blk_alloc ?_ _)); refine blk_far ?_ NB201_200.out _; (with_reducible repeat (first | refine blk_drewN ?_ _ | refine blk_drew ?_ | refine blk_alloc ?_ _)); exact BK201.out) Tryd.underlying29 rfl (by kernel_rfl)) rfl ?_
                        exact ⟨by first | rfl | (simp [errW_none, errW_some] <;> rfl) | (simp [*, errW_none, errW_some] <;> rfl), by repeat (first | (with_reducible first | exact HB.out | apply below_alloc | apply pw_below_drewN | apply below_drew1 | refine below_set ?_ GE200.out | refine below_set ?_ GE201.out) | exact HB.out)⟩
                      · rw [if_neg c56] at H
                        have c56b0 : (t202.toList == ([115, 116, 97, 108, 101, 45, 105, 102, 45, 101, 114, 114, 111, 114] : List UInt8)) = false := beq_eq_false_iff_ne.mpr c56
                        have c56b1 : (t202.toList != ([115, 116, 97, 108, 101, 45, 105, 102, 45, 101, 114, 114, 111, 114] : List UInt8)) = true := bne_iff_ne.mpr c56
                        by_cases c65 : t202.toList = ([110, 111, 45, 115, 116, 111, 114, 101] : List UInt8)
                        · rw [if_pos c65] at H
                          have c65b0 : (t202.toList == ([110, 111, 45, 115, 116, 111, 114, 101] : List UInt8)) = true := beq_iff_eq.mpr c65
                          have c65b1 : (t202.toList != ([110, 111, 45, 115, 116, 111, 114, 101] : List UInt8)) = false := bne_eq_false_iff_eq.mpr c65
                          clear c65
                          simp only [Option.some.injEq, Prod.mk.injEq] at H
                          obtain ⟨rfl, rfl, rfl, rfl, rfl, rfl, rfl⟩ := H
                          go_wp2_with (first | ((with_reducible refine gate_callee (f := 43) rfl ?_); refine goesL_ (some 49) rfl rfl Tryd.func43 (by kernel_rfl) rfl #[.string x5_1] rfl (by (try simp only [List.map_toArray, List.map_cons, List.map_nil]); first | done | rfl | (simp only [List.length_drop, List.length_take]; rfl)) ?_; (with_reducible refine (mandolineref09_lower.calls kj23 x5_1 t202 _ A28.out).mono ?_); rintro e w66 ⟨rfl, hb⟩; refine ⟨_, rfl, ?_⟩; have n0_ := Aside0.mk (blk_below (g := gb200) (o := .cells #[.int .i64 a0_0, .int .i64 a0_1, .int .i64 a0_2, .int .i64 a0_3, .bool a0_4, .bool a0_5, .bool a0_6] 29 (0, 0)) (by (with_reducible repeat (first | refine blk_drewN ?_ _ | refine blk_drew ?_ | refine blk_alloc ?_ _)); exact BK200.out) hb); have n1_ := Aside0.mk (blk_below (g := gb201) (o := .cells #[.int .i64 0, .int .i64 0, .int .i64 0, .int .i64 0, .bool false, .bool false, .bool false] 29 (0, 0)) (by (with_reducible repeat (first | refine blk_drewN ?_ _ | refine blk_drew ?_ | refine blk_alloc ?_ _)); exact BK201.out) hb); have n2_ := Aside0.mk (below_step (by repeat (first | (with_reducible first | exact HB.out | apply below_alloc | apply pw_below_drewN | apply below_drew1 | refine below_set ?_ GE200.out | refine below_set ?_ GE201.out) | exact HB.out)) hb); clear BK200; clear BK201; clear HB; have BK200 := n0_; have BK201 := n1_; have HB := n2_; clear n0_ n1_ n2_; (try clear hb); (try clear hb2); (try clear hk); (try clear hi); have hnb67 := NB200_201.out; have hnc67 := NB201_200.out; have hcz68_0 : w66.cell? ⟨gb200, 0, none⟩ = some (.int .i64 a0_0) := (blk_cell BK200.out 0).trans rfl; have hcz68_1 : w66.cell? ⟨gb200, 1, none⟩ = some (.int .i64 a0_1) := (blk_cell BK200.out 1).trans rfl; have hcz68_2 : w66.cell? ⟨gb200, 2, none⟩ = some (.int .i64 a0_2) := (blk_cell BK200.out 2).trans rfl; have hcz68_3 : w66.cell? ⟨gb200, 3, none⟩ = some (.int .i64 a0_3) := (blk_cell BK200.out 3).trans rfl; have hcz68_4 : w66.cell? ⟨gb200, 4, none⟩ = some (.bool a0_4) := (blk_cell BK200.out 4).trans rfl; have hcz68_5 : w66.cell? ⟨gb200, 5, none⟩ = some (.bool a0_5) := (blk_cell BK200.out 5).trans rfl; have hcz68_6 : w66.cell? ⟨gb200, 6, none⟩ = some (.bool a0_6) := (blk_cell BK200.out 6).trans rfl; have hfz68_0 := blk_frozen BK200.out 0; have hfz68_1 := blk_frozen BK200.out 1; have hfz68_2 := blk_frozen BK200.out 2; have hfz68_3 := blk_frozen BK200.out 3; have hfz68_4 := blk_frozen BK200.out 4; have hfz68_5 := blk_frozen BK200.out 5; have hfz68_6 := blk_frozen BK200.out 6; have hcz69_0 : w66.cell? ⟨gb201, 0, none⟩ = some (.int .i64 0) := (blk_cell BK201.out 0).trans rfl; have hcz69_1 : w66.cell? ⟨gb201, 1, none⟩ = some (.int .i64 0) := (blk_cell BK201.out 1).trans rfl; have hcz69_2 : w66.cell? ⟨gb201, 2, none⟩ = some (.int .i64 0) := (blk_cell BK201.out 2).trans rfl; have hcz69_3 : w66.cell? ⟨gb201, 3, none⟩ = some (.int .i64 0) := (blk_cell BK201.out 3).trans rfl; have hcz69_4 : w66.cell? ⟨gb201, 4, none⟩ = some (.bool false) := (blk_cell BK201.out 4).trans rfl; have hcz69_5 : w66.cell? ⟨gb201, 5, none⟩ = some (.bool false) := (blk_cell BK201.out 5).trans rfl; have hcz69_6 : w66.cell? ⟨gb201, 6, none⟩ = some (.bool false) := (blk_cell BK201.out 6).trans rfl; have hfz69_0 := blk_frozen BK201.out 0; have hfz69_1 := blk_frozen BK201.out 1; have hfz69_2 := blk_frozen BK201.out 2; have hfz69_3 := blk_frozen BK201.out 3; have hfz69_4 := blk_frozen BK201.out 4; have hfz69_5 := blk_frozen BK201.out 5; have hfz69_6 := blk_frozen BK201.out 6))
                          refine bodyPost_ret (results_cell_row rfl _ _ gb201 29 #[.int .i64 a0_0, .int .i64 a0_1, .int .i64 a0_2, .int .i64 a0_3, .bool true, .bool a0_5, .bool a0_6] (0, 0) _ rfl (by (with_reducible repeat (first | refine blk_drewN ?_ _ | refine blk_drew ?_ | refine blk_alloc ?_ _)); refine blk_put (cs := #[.int .i64 a0_0, .int .i64 a0_1, .int .i64 a0_2, .int .i64 a0_3, .bool true, .bool a0_5, .bool false]) ?_ 6 _ rfl; (with_reducible repeat (first | refine blk_drewN ?_ _ | refine blk_drew ?_ | refine blk_alloc ?_ _)); refine blk_put (cs := #[.int .i64 a0_0, .int .i64 a0_1, .int .i64 a0_2, .int .i64 a0_3, .bool true, .bool false, .bool false]) ?_ 5 _ rfl; (with_reducible repeat (first | refine blk_drewN ?_ _ | refine blk_drew ?_ | refine blk_alloc ?_ _)); refine blk_put (cs := #[.int .i64 a0_0, .int .i64 a0_1, .int .i64 a0_2, .int .i64 a0_3, .bool false, .bool false, .bool false]) ?_ 4 _ rfl; (with_reducible repeat (first | refine blk_drewN ?_ _ | refine blk_drew ?_ | refine blk_alloc ?_ _)); refine blk_put (cs := #[.int .i64 a0_0, .int .i64 a0_1, .int .i64 a0_2, .int .i64 0, .bool false, .bool false, .bool false]) ?_ 3 _ rfl; (with_reducible repeat (first | refine blk_drewN ?_ _ | refine blk_drew ?_ | refine blk_alloc ?_ _)); refine blk_put (cs := #[.int .i64 a0_0, .int .i64 a0_1, .int .i64 0, .int .i64 0, .bool false, .bool false, .bool false]) ?_ 2 _ rfl; (with_reducible repeat (first | refine blk_drewN ?_ _ | refine blk_drew ?_ | refine blk_alloc ?_ _)); refine blk_put (cs := #[.int .i64 a0_0, .int .i64 0, .int .i64 0, .int .i64 0, .bool false, .bool false, .bool false]) ?_ 1 _ rfl; (with_reducible repeat (first | refine blk_drewN ?_ _ | refine blk_drew ?_ | refine blk_alloc ?_ _)); refine blk_put (cs := #[.int .i64 0, .int .i64 0, .int .i64 0, .int .i64 0, .bool false, .bool false, .bool false]) ?_ 0 _ rfl; (with_reducible repeat (first | refine blk_drewN ?_ _ | refine blk_drew ?_ | refine blk_alloc ?_ _)); refine blk_far ?_ NB201_200.out _; (with_reducible repeat (first | refine blk_drewN ?_ _ | refine blk_drew ?_ | refine blk_alloc ?_ _)); exact BK201.out) Tryd.underlying29 rfl (by kernel_rfl)) rfl ?_
                          exact ⟨by first | rfl | (simp [errW_none, errW_some] <;> rfl) | (simp [*, errW_none, errW_some] <;> rfl), by repeat (first | (with_reducible first | exact HB.out | apply below_alloc | apply pw_below_drewN | apply below_drew1 | refine below_set ?_ GE200.out | refine below_set ?_ GE201.out) | exact HB.out)⟩
                        · rw [if_neg c65] at H
                          have c65b0 : (t202.toList == ([110, 111, 45, 115, 116, 111, 114, 101] : List UInt8)) = false := beq_eq_false_iff_ne.mpr c65
                          have c65b1 : (t202.toList != ([110, 111, 45, 115, 116, 111, 114, 101] : List UInt8)) = true := bne_iff_ne.mpr c65
                          by_cases c70 : t202.toList = ([110, 111, 45, 99, 97, 99, 104, 101] : List UInt8)
                          · rw [if_pos c70] at H
                            have c70b0 : (t202.toList == ([110, 111, 45, 99, 97, 99, 104, 101] : List UInt8)) = true := beq_iff_eq.mpr c70
                            have c70b1 : (t202.toList != ([110, 111, 45, 99, 97, 99, 104, 101] : List UInt8)) = false := bne_eq_false_iff_eq.mpr c70
                            clear c70
                            simp only [Option.some.injEq, Prod.mk.injEq] at H
                            obtain ⟨rfl, rfl, rfl, rfl, rfl, rfl, rfl⟩ := H
                            go_wp2_with (first | ((with_reducible refine gate_callee (f := 43) rfl ?_); refine goesL_ (some 49) rfl rfl Tryd.func43 (by kernel_rfl) rfl #[.string x5_1] rfl (by (try simp only [List.map_toArray, List.map_cons, List.map_nil]); first | done | rfl | (simp only [List.length_drop, List.length_take]; rfl)) ?_; (with_reducible refine (mandolineref09_lower.calls kj23 x5_1 t202 _ A28.out).mono ?_); rintro e w71 ⟨rfl, hb⟩; refine ⟨_, rfl, ?_⟩; have n0_ := Aside0.mk (blk_below (g := gb200) (o := .cells #[.int .i64 a0_0, .int .i64 a0_1, .int .i64 a0_2, .int .i64 a0_3, .bool a0_4, .bool a0_5, .bool a0_6] 29 (0, 0)) (by (with_reducible repeat (first | refine blk_drewN ?_ _ | refine blk_drew ?_ | refine blk_alloc ?_ _)); exact BK200.out) hb); have n1_ := Aside0.mk (blk_below (g := gb201) (o := .cells #[.int .i64 0, .int .i64 0, .int .i64 0, .int .i64 0, .bool false, .bool false, .bool false] 29 (0, 0)) (by (with_reducible repeat (first | refine blk_drewN ?_ _ | refine blk_drew ?_ | refine blk_alloc ?_ _)); exact BK201.out) hb); have n2_ := Aside0.mk (below_step (by repeat (first | (with_reducible first | exact HB.out | apply below_alloc | apply pw_below_drewN | apply below_drew1 | refine below_set ?_ GE200.out | refine below_set ?_ GE201.out) | exact HB.out)) hb); clear BK200; clear BK201; clear HB; have BK200 := n0_; have BK201 := n1_; have HB := n2_; clear n0_ n1_ n2_; (try clear hb); (try clear hb2); (try clear hk); (try clear hi); have hnb72 := NB200_201.out; have hnc72 := NB201_200.out; have hcz73_0 : w71.cell? ⟨gb200, 0, none⟩ = some (.int .i64 a0_0) := (blk_cell BK200.out 0).trans rfl; have hcz73_1 : w71.cell? ⟨gb200, 1, none⟩ = some (.int .i64 a0_1) := (blk_cell BK200.out 1).trans rfl; have hcz73_2 : w71.cell? ⟨gb200, 2, none⟩ = some (.int .i64 a0_2) := (blk_cell BK200.out 2).trans rfl; have hcz73_3 : w71.cell? ⟨gb200, 3, none⟩ = some (.int .i64 a0_3) := (blk_cell BK200.out 3).trans rfl; have hcz73_4 : w71.cell? ⟨gb200, 4, none⟩ = some (.bool a0_4) := (blk_cell BK200.out 4).trans rfl; have hcz73_5 : w71.cell? ⟨gb200, 5, none⟩ = some (.bool a0_5) := (blk_cell BK200.out 5).trans rfl; have hcz73_6 : w71.cell? ⟨gb200, 6, none⟩ = some (.bool a0_6) := (blk_cell BK200.out 6).trans rfl; have hfz73_0 := blk_frozen BK200.out 0; have hfz73_1 := blk_frozen BK200.out 1; have hfz73_2 := blk_frozen BK200.out 2; have hfz73_3 := blk_frozen BK200.out 3; have hfz73_4 := blk_frozen BK200.out 4; have hfz73_5 := blk_frozen BK200.out 5; have hfz73_6 := blk_frozen BK200.out 6; have hcz74_0 : w71.cell? ⟨gb201, 0, none⟩ = some (.int .i64 0) := (blk_cell BK201.out 0).trans rfl; have hcz74_1 : w71.cell? ⟨gb201, 1, none⟩ = some (.int .i64 0) := (blk_cell BK201.out 1).trans rfl; have hcz74_2 : w71.cell? ⟨gb201, 2, none⟩ = some (.int .i64 0) := (blk_cell BK201.out 2).trans rfl; have hcz74_3 : w71.cell? ⟨gb201, 3, none⟩ = some (.int .i64 0) := (blk_cell BK201.out 3).trans rfl; have hcz74_4 : w71.cell? ⟨gb201, 4, none⟩ = some (.bool false) := (blk_cell BK201.out 4).trans rfl; have hcz74_5 : w71.cell? ⟨gb201, 5, none⟩ = some (.bool false) := (blk_cell BK201.out 5).trans rfl; have hcz74_6 : w71.cell? ⟨gb201, 6, none⟩ = some (.bool false) := (blk_cell BK201.out 6).trans rfl; have hfz74_0 := blk_frozen BK201.out 0; have hfz74_1 := blk_frozen BK201.out 1; have hfz74_2 := blk_frozen BK201.out 2; have hfz74_3 := blk_frozen BK201.out 3; have hfz74_4 := blk_frozen BK201.out 4; have hfz74_5 := blk_frozen BK201.out 5; have hfz74_6 := blk_frozen BK201.out 6))
                            refine bodyPost_ret (results_cell_row rfl _ _ gb201 29 #[.int .i64 a0_0, .int .i64 a0_1, .int .i64 a0_2, .int .i64 a0_3, .bool a0_4, .bool true, .bool a0_6] (0, 0) _ rfl (by (with_reducible repeat (first | refine blk_drewN ?_ _ | refine blk_drew ?_ | refine blk_alloc ?_ _)); refine blk_put (cs := #[.int .i64 a0_0, .int .i64 a0_1, .int .i64 a0_2, .int .i64 a0_3, .bool a0_4, .bool true, .bool false]) ?_ 6 _ rfl; (with_reducible repeat (first | refine blk_drewN ?_ _ | refine blk_drew ?_ | refine blk_alloc ?_ _)); refine blk_put (cs := #[.int .i64 a0_0, .int .i64 a0_1, .int .i64 a0_2, .int .i64 a0_3, .bool a0_4, .bool false, .bool false]) ?_ 5 _ rfl; (with_reducible repeat (first | refine blk_drewN ?_ _ | refine blk_drew ?_ | refine blk_alloc ?_ _)); refine blk_put (cs := #[.int .i64 a0_0, .int .i64 a0_1, .int .i64 a0_2, .int .i64 a0_3, .bool false, .bool false, .bool false]) ?_ 4 _ rfl; (with_reducible repeat (first | refine blk_drewN ?_ _ | refine blk_drew ?_ | refine blk_alloc ?_ _)); refine blk_put (cs := #[.int .i64 a0_0, .int .i64 a0_1, .int .i64 a0_2, .int .i64 0, .bool false, .bool false, .bool false]) ?_ 3 _ rfl; (with_reducible repeat (first | refine blk_drewN ?_ _ | refine blk_drew ?_ | refine blk_alloc ?_ _)); refine blk_put (cs := #[.int .i64 a0_0, .int .i64 a0_1, .int .i64 0, .int .i64 0, .bool false, .bool false, .bool false]) ?_ 2 _ rfl; (with_reducible repeat (first | refine blk_drewN ?_ _ | refine blk_drew ?_ | refine blk_alloc ?_ _)); refine blk_put (cs := #[.int .i64 a0_0, .int .i64 0, .int .i64 0, .int .i64 0, .bool false, .bool false, .bool false]) ?_ 1 _ rfl; (with_reducible repeat (first | refine blk_drewN ?_ _ | refine blk_drew ?_ | refine blk_alloc ?_ _)); refine blk_put (cs := #[.int .i64 0, .int .i64 0, .int .i64 0, .int .i64 0, .bool false, .bool false, .bool false]) ?_ 0 _ rfl; (with_reducible repeat (first | refine blk_drewN ?_ _ | refine blk_drew ?_ | refine blk_alloc ?_ _)); refine blk_far ?_ NB201_200.out _; (with_reducible repeat (first | refine blk_drewN ?_ _ | refine blk_drew ?_ | refine blk_alloc ?_ _)); exact BK201.out) Tryd.underlying29 rfl (by kernel_rfl)) rfl ?_
                            exact ⟨by first | rfl | (simp [errW_none, errW_some] <;> rfl) | (simp [*, errW_none, errW_some] <;> rfl), by repeat (first | (with_reducible first | exact HB.out | apply below_alloc | apply pw_below_drewN | apply below_drew1 | refine below_set ?_ GE200.out | refine below_set ?_ GE201.out) | exact HB.out)⟩
                          · rw [if_neg c70] at H
                            have c70b0 : (t202.toList == ([110, 111, 45, 99, 97, 99, 104, 101] : List UInt8)) = false := beq_eq_false_iff_ne.mpr c70
                            have c70b1 : (t202.toList != ([110, 111, 45, 99, 97, 99, 104, 101] : List UInt8)) = true := bne_iff_ne.mpr c70
                            by_cases c75 : t202.toList = ([112, 114, 105, 118, 97, 116, 101] : List UInt8)
                            · rw [if_pos c75] at H
                              have c75b0 : (t202.toList == ([112, 114, 105, 118, 97, 116, 101] : List UInt8)) = true := beq_iff_eq.mpr c75
                              have c75b1 : (t202.toList != ([112, 114, 105, 118, 97, 116, 101] : List UInt8)) = false := bne_eq_false_iff_eq.mpr c75
                              clear c75
                              simp only [Option.some.injEq, Prod.mk.injEq] at H
                              obtain ⟨rfl, rfl, rfl, rfl, rfl, rfl, rfl⟩ := H
                              go_wp2_with (first | ((with_reducible refine gate_callee (f := 43) rfl ?_); refine goesL_ (some 49) rfl rfl Tryd.func43 (by kernel_rfl) rfl #[.string x5_1] rfl (by (try simp only [List.map_toArray, List.map_cons, List.map_nil]); first | done | rfl | (simp only [List.length_drop, List.length_take]; rfl)) ?_; (with_reducible refine (mandolineref09_lower.calls kj23 x5_1 t202 _ A28.out).mono ?_); rintro e w76 ⟨rfl, hb⟩; refine ⟨_, rfl, ?_⟩; have n0_ := Aside0.mk (blk_below (g := gb200) (o := .cells #[.int .i64 a0_0, .int .i64 a0_1, .int .i64 a0_2, .int .i64 a0_3, .bool a0_4, .bool a0_5, .bool a0_6] 29 (0, 0)) (by (with_reducible repeat (first | refine blk_drewN ?_ _ | refine blk_drew ?_ | refine blk_alloc ?_ _)); exact BK200.out) hb); have n1_ := Aside0.mk (blk_below (g := gb201) (o := .cells #[.int .i64 0, .int .i64 0, .int .i64 0, .int .i64 0, .bool false, .bool false, .bool false] 29 (0, 0)) (by (with_reducible repeat (first | refine blk_drewN ?_ _ | refine blk_drew ?_ | refine blk_alloc ?_ _)); exact BK201.out) hb); have n2_ := Aside0.mk (below_step (by repeat (first | (with_reducible first | exact HB.out | apply below_alloc | apply pw_below_drewN | apply below_drew1 | refine below_set ?_ GE200.out | refine below_set ?_ GE201.out) | exact HB.out)) hb); clear BK200; clear BK201; clear HB; have BK200 := n0_; have BK201 := n1_; have HB := n2_; clear n0_ n1_ n2_; (try clear hb); (try clear hb2); (try clear hk); (try clear hi); have hnb77 := NB200_201.out; have hnc77 := NB201_200.out; have hcz78_0 : w76.cell? ⟨gb200, 0, none⟩ = some (.int .i64 a0_0) := (blk_cell BK200.out 0).trans rfl; have hcz78_1 : w76.cell? ⟨gb200, 1, none⟩ = some (.int .i64 a0_1) := (blk_cell BK200.out 1).trans rfl; have hcz78_2 : w76.cell? ⟨gb200, 2, none⟩ = some (.int .i64 a0_2) := (blk_cell BK200.out 2).trans rfl; have hcz78_3 : w76.cell? ⟨gb200, 3, none⟩ = some (.int .i64 a0_3) := (blk_cell BK200.out 3).trans rfl; have hcz78_4 : w76.cell? ⟨gb200, 4, none⟩ = some (.bool a0_4) := (blk_cell BK200.out 4).trans rfl; have hcz78_5 : w76.cell? ⟨gb200, 5, none⟩ = some (.bool a0_5) := (blk_cell BK200.out 5).trans rfl; have hcz78_6 : w76.cell? ⟨gb200, 6, none⟩ = some (.bool a0_6) := (blk_cell BK200.out 6).trans rfl; have hfz78_0 := blk_frozen BK200.out 0; have hfz78_1 := blk_frozen BK200.out 1; have hfz78_2 := blk_frozen BK200.out 2; have hfz78_3 := blk_frozen BK200.out 3; have hfz78_4 := blk_frozen BK200.out 4; have hfz78_5 := blk_frozen BK200.out 5; have hfz78_6 := blk_frozen BK200.out 6; have hcz79_0 : w76.cell? ⟨gb201, 0, none⟩ = some (.int .i64 0) := (blk_cell BK201.out 0).trans rfl; have hcz79_1 : w76.cell? ⟨gb201, 1, none⟩ = some (.int .i64 0) := (blk_cell BK201.out 1).trans rfl; have hcz79_2 : w76.cell? ⟨gb201, 2, none⟩ = some (.int .i64 0) := (blk_cell BK201.out 2).trans rfl; have hcz79_3 : w76.cell? ⟨gb201, 3, none⟩ = some (.int .i64 0) := (blk_cell BK201.out 3).trans rfl; have hcz79_4 : w76.cell? ⟨gb201, 4, none⟩ = some (.bool false) := (blk_cell BK201.out 4).trans rfl; have hcz79_5 : w76.cell? ⟨gb201, 5, none⟩ = some (.bool false) := (blk_cell BK201.out 5).trans rfl; have hcz79_6 : w76.cell? ⟨gb201, 6, none⟩ = some (.bool false) := (blk_cell BK201.out 6).trans rfl; have hfz79_0 := blk_frozen BK201.out 0; have hfz79_1 := blk_frozen BK201.out 1; have hfz79_2 := blk_frozen BK201.out 2; have hfz79_3 := blk_frozen BK201.out 3; have hfz79_4 := blk_frozen BK201.out 4; have hfz79_5 := blk_frozen BK201.out 5; have hfz79_6 := blk_frozen BK201.out 6))
                              refine bodyPost_ret (results_cell_row rfl _ _ gb201 29 #[.int .i64 a0_0, .int .i64 a0_1, .int .i64 a0_2, .int .i64 a0_3, .bool a0_4, .bool a0_5, .bool true] (0, 0) _ rfl (by (with_reducible repeat (first | refine blk_drewN ?_ _ | refine blk_drew ?_ | refine blk_alloc ?_ _)); refine blk_put (cs := #[.int .i64 a0_0, .int .i64 a0_1, .int .i64 a0_2, .int .i64 a0_3, .bool a0_4, .bool a0_5, .bool false]) ?_ 6 _ rfl; (with_reducible repeat (first | refine blk_drewN ?_ _ | refine blk_drew ?_ | refine blk_alloc ?_ _)); refine blk_put (cs := #[.int .i64 a0_0, .int .i64 a0_1, .int .i64 a0_2, .int .i64 a0_3, .bool a0_4, .bool false, .bool false]) ?_ 5 _ rfl; (with_reducible repeat (first | refine blk_drewN ?_ _ | refine blk_drew ?_ | refine blk_alloc ?_ _)); refine blk_put (cs := #[.int .i64 a0_0, .int .i64 a0_1, .int .i64 a0_2, .int .i64 a0_3, .bool false, .bool false, .bool false]) ?_ 4 _ rfl; (with_reducible repeat (first | refine blk_drewN ?_ _ | refine blk_drew ?_ | refine blk_alloc ?_ _)); refine blk_put (cs := #[.int .i64 a0_0, .int .i64 a0_1, .int .i64 a0_2, .int .i64 0, .bool false, .bool false, .bool false]) ?_ 3 _ rfl; (with_reducible repeat (first | refine blk_drewN ?_ _ | refine blk_drew ?_ | refine blk_alloc ?_ _)); refine blk_put (cs := #[.int .i64 a0_0, .int .i64 a0_1, .int .i64 0, .int .i64 0, .bool false, .bool false, .bool false]) ?_ 2 _ rfl; (with_reducible repeat (first | refine blk_drewN ?_ _ | refine blk_drew ?_ | refine blk_alloc ?_ _)); refine blk_put (cs := #[.int .i64 a0_0, .int .i64 0, .int .i64 0, .int .i64 0, .bool false, .bool false, .bool false]) ?_ 1 _ rfl; (with_reducible repeat (first | refine blk_drewN ?_ _ | refine blk_drew ?_ | refine blk_alloc ?_ _)); refine blk_put (cs := #[.int .i64 0, .int .i64 0, .int .i64 0, .int .i64 0, .bool false, .bool false, .bool false]) ?_ 0 _ rfl; (with_reducible repeat (first | refine blk_drewN ?_ _ | refine blk_drew ?_ | refine blk_alloc ?_ _)); refine blk_far ?_ NB201_200.out _; (with_reducible repeat (first | refine blk_drewN ?_ _ | refine blk_drew ?_ | refine blk_alloc ?_ _)); exact BK201.out) Tryd.underlying29 rfl (by kernel_rfl)) rfl ?_
                              exact ⟨by first | rfl | (simp [errW_none, errW_some] <;> rfl) | (simp [*, errW_none, errW_some] <;> rfl), by repeat (first | (with_reducible first | exact HB.out | apply below_alloc | apply pw_below_drewN | apply below_drew1 | refine below_set ?_ GE200.out | refine below_set ?_ GE201.out) | exact HB.out)⟩
                            · rw [if_neg c75] at H
                              have c75b0 : (t202.toList == ([112, 114, 105, 118, 97, 116, 101] : List UInt8)) = false := beq_eq_false_iff_ne.mpr c75
                              have c75b1 : (t202.toList != ([112, 114, 105, 118, 97, 116, 101] : List UInt8)) = true := bne_iff_ne.mpr c75
                              simp only [Option.some.injEq, Prod.mk.injEq] at H
                              obtain ⟨rfl, rfl, rfl, rfl, rfl, rfl, rfl⟩ := H
                              go_wp2_with (first | ((with_reducible refine gate_callee (f := 43) rfl ?_); refine goesL_ (some 49) rfl rfl Tryd.func43 (by kernel_rfl) rfl #[.string x5_1] rfl (by (try simp only [List.map_toArray, List.map_cons, List.map_nil]); first | done | rfl | (simp only [List.length_drop, List.length_take]; rfl)) ?_; (with_reducible refine (mandolineref09_lower.calls kj23 x5_1 t202 _ A28.out).mono ?_); rintro e w80 ⟨rfl, hb⟩; refine ⟨_, rfl, ?_⟩; have n0_ := Aside0.mk (blk_below (g := gb200) (o := .cells #[.int .i64 a0_0, .int .i64 a0_1, .int .i64 a0_2, .int .i64 a0_3, .bool a0_4, .bool a0_5, .bool a0_6] 29 (0, 0)) (by (with_reducible repeat (first | refine blk_drewN ?_ _ | refine blk_drew ?_ | refine blk_alloc ?_ _)); exact BK200.out) hb); have n1_ := Aside0.mk (blk_below (g := gb201) (o := .cells #[.int .i64 0, .int .i64 0, .int .i64 0, .int .i64 0, .bool false, .bool false, .bool false] 29 (0, 0)) (by (with_reducible repeat (first | refine blk_drewN ?_ _ | refine blk_drew ?_ | refine blk_alloc ?_ _)); exact BK201.out) hb); have n2_ := Aside0.mk (below_step (by repeat (first | (with_reducible first | exact HB.out | apply below_alloc | apply pw_below_drewN | apply below_drew1 | refine below_set ?_ GE200.out | refine below_set ?_ GE201.out) | exact HB.out)) hb); clear BK200; clear BK201; clear HB; have BK200 := n0_; have BK201 := n1_; have HB := n2_; clear n0_ n1_ n2_; (try clear hb); (try clear hb2); (try clear hk); (try clear hi); have hnb81 := NB200_201.out; have hnc81 := NB201_200.out; have hcz82_0 : w80.cell? ⟨gb200, 0, none⟩ = some (.int .i64 a0_0) := (blk_cell BK200.out 0).trans rfl; have hcz82_1 : w80.cell? ⟨gb200, 1, none⟩ = some (.int .i64 a0_1) := (blk_cell BK200.out 1).trans rfl; have hcz82_2 : w80.cell? ⟨gb200, 2, none⟩ = some (.int .i64 a0_2) := (blk_cell BK200.out 2).trans rfl; have hcz82_3 : w80.cell? ⟨gb200, 3, none⟩ = some (.int .i64 a0_3) := (blk_cell BK200.out 3).trans rfl; have hcz82_4 : w80.cell? ⟨gb200, 4, none⟩ = some (.bool a0_4) := (blk_cell BK200.out 4).trans rfl; have hcz82_5 : w80.cell? ⟨gb200, 5, none⟩ = some (.bool a0_5) := (blk_cell BK200.out 5).trans rfl; have hcz82_6 : w80.cell? ⟨gb200, 6, none⟩ = some (.bool a0_6) := (blk_cell BK200.out 6).trans rfl; have hfz82_0 := blk_frozen BK200.out 0; have hfz82_1 := blk_frozen BK200.out 1; have hfz82_2 := blk_frozen BK200.out 2; have hfz82_3 := blk_frozen BK200.out 3; have hfz82_4 := blk_frozen BK200.out 4; have hfz82_5 := blk_frozen BK200.out 5; have hfz82_6 := blk_frozen BK200.out 6; have hcz83_0 : w80.cell? ⟨gb201, 0, none⟩ = some (.int .i64 0) := (blk_cell BK201.out 0).trans rfl; have hcz83_1 : w80.cell? ⟨gb201, 1, none⟩ = some (.int .i64 0) := (blk_cell BK201.out 1).trans rfl; have hcz83_2 : w80.cell? ⟨gb201, 2, none⟩ = some (.int .i64 0) := (blk_cell BK201.out 2).trans rfl; have hcz83_3 : w80.cell? ⟨gb201, 3, none⟩ = some (.int .i64 0) := (blk_cell BK201.out 3).trans rfl; have hcz83_4 : w80.cell? ⟨gb201, 4, none⟩ = some (.bool false) := (blk_cell BK201.out 4).trans rfl; have hcz83_5 : w80.cell? ⟨gb201, 5, none⟩ = some (.bool false) := (blk_cell BK201.out 5).trans rfl; have hcz83_6 : w80.cell? ⟨gb201, 6, none⟩ = some (.bool false) := (blk_cell BK201.out 6).trans rfl; have hfz83_0 := blk_frozen BK201.out 0; have hfz83_1 := blk_frozen BK201.out 1; have hfz83_2 := blk_frozen BK201.out 2; have hfz83_3 := blk_frozen BK201.out 3; have hfz83_4 := blk_frozen BK201.out 4; have hfz83_5 := blk_frozen BK201.out 5; have hfz83_6 := blk_frozen BK201.out 6))
                              refine bodyPost_ret (results_cell_row rfl _ _ gb201 29 #[.int .i64 a0_0, .int .i64 a0_1, .int .i64 a0_2, .int .i64 a0_3, .bool a0_4, .bool a0_5, .bool a0_6] (0, 0) _ rfl (by (with_reducible repeat (first | refine blk_drewN ?_ _ | refine blk_drew ?_ | refine blk_alloc ?_ _)); refine blk_put (cs := #[.int .i64 a0_0, .int .i64 a0_1, .int .i64 a0_2, .int .i64 a0_3, .bool a0_4, .bool a0_5, .bool false]) ?_ 6 _ rfl; (with_reducible repeat (first | refine blk_drewN ?_ _ | refine blk_drew ?_ | refine blk_alloc ?_ _)); refine blk_put (cs := #[.int .i64 a0_0, .int .i64 a0_1, .int .i64 a0_2, .int .i64 a0_3, .bool a0_4, .bool false, .bool false]) ?_ 5 _ rfl; (with_reducible repeat (first | refine blk_drewN ?_ _ | refine blk_drew ?_ | refine blk_alloc ?_ _)); refine blk_put (cs := #[.int .i64 a0_0, .int .i64 a0_1, .int .i64 a0_2, .int .i64 a0_3, .bool false, .bool false, .bool false]) ?_ 4 _ rfl; (with_reducible repeat (first | refine blk_drewN ?_ _ | refine blk_drew ?_ | refine blk_alloc ?_ _)); refine blk_put (cs := #[.int .i64 a0_0, .int .i64 a0_1, .int .i64 a0_2, .int .i64 0, .bool false, .bool false, .bool false]) ?_ 3 _ rfl; (with_reducible repeat (first | refine blk_drewN ?_ _ | refine blk_drew ?_ | refine blk_alloc ?_ _)); refine blk_put (cs := #[.int .i64 a0_0, .int .i64 a0_1, .int .i64 0, .int .i64 0, .bool false, .bool false, .bool false]) ?_ 2 _ rfl; (with_reducible repeat (first | refine blk_drewN ?_ _ | refine blk_drew ?_ | refine blk_alloc ?_ _)); refine blk_put (cs := #[.int .i64 a0_0, .int .i64 0, .int .i64 0, .int .i64 0, .bool false, .bool false, .bool false]) ?_ 1 _ rfl; (with_reducible repeat (first | refine blk_drewN ?_ _ | refine blk_drew ?_ | refine blk_alloc ?_ _)); refine blk_put (cs := #[.int .i64 0, .int .i64 0, .int .i64 0, .int .i64 0, .bool false, .bool false, .bool false]) ?_ 0 _ rfl; (with_reducible repeat (first | refine blk_drewN ?_ _ | refine blk_drew ?_ | refine blk_alloc ?_ _)); exact BK201.out) Tryd.underlying29 rfl (by kernel_rfl)) rfl ?_
                              exact ⟨by first | rfl | (simp [errW_none, errW_some] <;> rfl) | (simp [*, errW_none, errW_some] <;> rfl), by repeat (first | (with_reducible first | exact HB.out | apply below_alloc | apply pw_below_drewN | apply below_drew1 | refine below_set ?_ GE200.out | refine below_set ?_ GE201.out) | exact HB.out)⟩

end Go.Proofs.YtmapdckelbobiaaDoor.X
