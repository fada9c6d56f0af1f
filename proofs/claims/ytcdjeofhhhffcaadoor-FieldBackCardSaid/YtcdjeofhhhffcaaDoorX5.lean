-- Printed by a program of this session (pp.py: the kit's print.py, run with contracts of its own) out of the translation. Not trusted: Lean checks it.
import Derived.Test.YtcdjeofhhhffcaaDoorX0
import Derived.Test.YtcdjeofhhhffcaaDoorX2
import Derived.Test.YtcdjeofhhhffcaaDoorX3
import Derived.Test.YtcdjeofhhhffcaaDoorX4
namespace Go.Proofs.YtcdjeofhhhffcaaDoor.X
open Go.RowKit Go.Proofs.YtcdjeofhhhffcaaDoorW.PrintWords Go.Proofs.YtcdjeofhhhffcaaDoorW.PrintLast Go.Proofs.YtcdjeofhhhffcaaDoorW.PrintMore
attribute [local go_sem] max2_int min2_int max_two min_two max_three min_three max_four min_four   -- for this text's walks alone
set_option linter.unusedVariables false
set_option linter.unusedSimpArgs false

/-! ### strings_Cut: function 43 -/
def strings_Cut.f (a0 : ByteArray) (a1 : ByteArray) : Option (ByteArray × ByteArray × Bool) := if a0.size < 4294967281 then some (⟨(Lib.cut a0.data.toList a1.data.toList).1.toArray⟩, ⟨(Lib.cut a0.data.toList a1.data.toList).2.1.toArray⟩, (Lib.cut a0.data.toList a1.data.toList).2.2) else none
theorem strings_Cut.calls (a0 : ByteArray) (a1 : ByteArray) (r1 : ByteArray) (r2 : ByteArray) (r3 : Bool) (w : World) (hG : Glob w) (h : strings_Cut.f a0 a1 = some (r1, r2, r3)) :
    Calls Tryd.prog 43 #[.string a0, .string a1] w fun e w' => e = .returned (.tuple #[.string r1, .string r2, .bool r3]) ∧ Below w.heap.size w w' := by
  unfold strings_Cut.f at h
  split at h
  · rename_i hc
    obtain ⟨h1, h2⟩ := Prod.mk.inj (Option.some.inj h)
    obtain ⟨h2, h3⟩ := Prod.mk.inj h2
    subst h1 h2 h3
    obtain ⟨m, hm⟩ := hG.maxLen
    exact (Tryd.strings_Cut a0 a1 m w hc hm).mono fun e w' ⟨he, n, hw⟩ => ⟨he, hw ▸ pw_below_drewN (Below.refl _ _) n⟩
  · exact absurd h (by simp)

/-! ### field_Parse: function 20 -/
mutual
def field_Parse.l0 : Nat → ByteArray → List (S33) → Int → Option ((List (S33)) × Int × Int)
  | 0, _, _, _ => none
  | k + 1, x0, x5, x6 => if 0 ≤ x6 then (if x6 ≤ (x0.size : Int) then ((strings_Cut.f (x0.extract (x6 : Int).toNat x0.size) (⟨#[13, 10]⟩ : ByteArray)).bind fun bt112 => (if bt112.2.2 = true then (field_Parse.j1 k x0 x5 (wrap64 (x6 + (wrap64 ((bt112.1.size : Int) + 2)))) bt112.1 bt112.2.2 false) else (field_Parse.j1 k x0 x5 (wrap64 (x6 + (wrap64 ((bt112.1.size : Int) + 2)))) bt112.1 bt112.2.2 (decide ((x0.size : Int) ≤ 65536))))) else (none)) else (none)
def field_Parse.j1 : Nat → ByteArray → List (S33) → Int → ByteArray → Bool → Bool → Option ((List (S33)) × Int × Int)
  | 0, _, _, _, _, _, _ => none
  | k + 1, x0, x5, x6, x7, x9, x27 => if x27 = true then (some (([] : List (S33)), 0, 3)) else (if x9 = true then (field_Parse.j2 k x0 x5 x6 x7 (decide (x6 > 65536))) else (field_Parse.j2 k x0 x5 x6 x7 true))
def field_Parse.j2 : Nat → ByteArray → List (S33) → Int → ByteArray → Bool → Option ((List (S33)) × Int × Int)
  | 0, _, _, _, _, _ => none
  | k + 1, x0, x5, x6, x7, x35 => if x35 = true then (some (([] : List (S33)), 0, 4)) else (if x7.toList = ([] : List UInt8) then (some (x5, x6, 0)) else (if (x5.length : Int) = 100 then (some (([] : List (S33)), 0, 4)) else ((strings_Cut.f x7 (⟨#[58]⟩ : ByteArray)).bind fun bt115 => ((strings_Trim.f bt115.2.1 (⟨#[32, 9]⟩ : ByteArray)).bind fun t118 => (if bt115.2.2 = true then ((field_Right.f k bt115.1 t118).bind fun t120 => (if t120 = true then (if x5.length < 4398046511104 then (field_Parse.l0 k x0 (x5 ++ [(⟨bt115.1, t118⟩ : S33)]) x6) else (none)) else (some (([] : List (S33)), 0, 2)))) else (some (([] : List (S33)), 0, 2)))))))
end
def field_Parse.f (k : Nat) (a0 : ByteArray) : Option ((List (S33)) × Int × Int) := field_Parse.l0 k a0 ([] : List (S33)) 0
theorem field_Parse.mono_l : ∀ k, (∀ y0 y1 y2, LeO (field_Parse.l0 k y0 y1 y2) (field_Parse.l0 (k + 1) y0 y1 y2)) ∧ (∀ y0 y1 y2 y3 y4 y5, LeO (field_Parse.j1 k y0 y1 y2 y3 y4 y5) (field_Parse.j1 (k + 1) y0 y1 y2 y3 y4 y5)) ∧ (∀ y0 y1 y2 y3 y4, LeO (field_Parse.j2 k y0 y1 y2 y3 y4) (field_Parse.j2 (k + 1) y0 y1 y2 y3 y4))
  | 0 => ⟨fun _ _ _ r h => by simp [field_Parse.l0] at h, fun _ _ _ _ _ _ r h => by simp [field_Parse.j1] at h, fun _ _ _ _ _ r h => by simp [field_Parse.j2] at h⟩
  | k + 1 => by
    obtain ⟨ih0, ih1, ih2⟩ := field_Parse.mono_l k
    refine ⟨?_, ?_, ?_⟩
    · intro y0 y1 y2
      unfold field_Parse.l0
      repeat' first
      | (with_reducible exact ih0 _ _ _)
      | (with_reducible exact ih1 _ _ _ _ _ _)
      | (with_reducible exact ih2 _ _ _ _ _)
      | (with_reducible exact field_Right.mono _ _ _)
      | (with_reducible exact LeO.refl _)
      | (with_reducible exact LeO.none _)
      | (with_reducible refine LeO.ite ?_ ?_)
      | (with_reducible refine LeO.bind ?_ (fun _ => ?_))
      | exact ih0 _ _ _
      | exact ih1 _ _ _ _ _ _
      | exact ih2 _ _ _ _ _
      | exact field_Right.mono _ _ _
      | exact LeO.none _
      | refine LeO.ite ?_ ?_
      | refine LeO.bind ?_ (fun _ => ?_)
    · intro y0 y1 y2 y3 y4 y5
      unfold field_Parse.j1
      repeat' first
      | (with_reducible exact ih0 _ _ _)
      | (with_reducible exact ih1 _ _ _ _ _ _)
      | (with_reducible exact ih2 _ _ _ _ _)
      | (with_reducible exact field_Right.mono _ _ _)
      | (with_reducible exact LeO.refl _)
      | (with_reducible exact LeO.none _)
      | (with_reducible refine LeO.ite ?_ ?_)
      | (with_reducible refine LeO.bind ?_ (fun _ => ?_))
      | exact ih0 _ _ _
      | exact ih1 _ _ _ _ _ _
      | exact ih2 _ _ _ _ _
      | exact field_Right.mono _ _ _
      | exact LeO.none _
      | refine LeO.ite ?_ ?_
      | refine LeO.bind ?_ (fun _ => ?_)
    · intro y0 y1 y2 y3 y4
      unfold field_Parse.j2
      repeat' first
      | (with_reducible exact ih0 _ _ _)
      | (with_reducible exact ih1 _ _ _ _ _ _)
      | (with_reducible exact ih2 _ _ _ _ _)
      | (with_reducible exact field_Right.mono _ _ _)
      | (with_reducible exact LeO.refl _)
      | (with_reducible exact LeO.none _)
      | (with_reducible refine LeO.ite ?_ ?_)
      | (with_reducible refine LeO.bind ?_ (fun _ => ?_))
      | exact ih0 _ _ _
      | exact ih1 _ _ _ _ _ _
      | exact ih2 _ _ _ _ _
      | exact field_Right.mono _ _ _
      | exact LeO.none _
      | refine LeO.ite ?_ ?_
      | refine LeO.bind ?_ (fun _ => ?_)
theorem field_Parse.mono : ∀ a0 k, LeO (field_Parse.f k a0) (field_Parse.f (k + 1) a0) := by
  intro a0 k
  obtain ⟨ih0, ih1, ih2⟩ := field_Parse.mono_l k
  unfold field_Parse.f
  repeat' first
      | (with_reducible exact ih0 _ _ _)
      | (with_reducible exact ih1 _ _ _ _ _ _)
      | (with_reducible exact ih2 _ _ _ _ _)
      | (with_reducible exact field_Right.mono _ _ _)
      | (with_reducible exact LeO.refl _)
      | (with_reducible exact LeO.none _)
      | (with_reducible refine LeO.ite ?_ ?_)
      | (with_reducible refine LeO.bind ?_ (fun _ => ?_))
      | exact ih0 _ _ _
      | exact ih1 _ _ _ _ _ _
      | exact ih2 _ _ _ _ _
      | exact field_Right.mono _ _ _
      | exact LeO.none _
      | refine LeO.ite ?_ ?_
      | refine LeO.bind ?_ (fun _ => ?_)
set_option maxHeartbeats 8000000 in
set_option maxRecDepth 100000 in
theorem field_Parse.calls (k : Nat) (a0 : ByteArray) (r1 : List (S33)) (r2 : Int) (r3 : Int) (w : World) (hG : Glob w) (h : field_Parse.f k a0 = some (r1, r2, r3)) :
    Calls Tryd.prog 20 #[.string a0] w fun e w' => ∃ v0_ : Value, e = .returned (.tuple #[v0_, .int .i64 r2, .int .i64 r3]) ∧ Kd.R k33 33 w' w.heap.size (fun _ => True) v0_ r1 ∧ Below w.heap.size w w' := by
  have HG := Aside0.mk hG
  clear hG
  have hu33 := Tryd.underlying33
  have HB := Aside0.mk (Below.refl w.heap.size w)
  have H : (field_Parse.l0 k a0 ([] : List (S33)) 0) = some (r1, r2, r3) := h
  clear h
  have H' := Aside0.mk H
  clear H
  go_enter Tryd.func20, Tryd.ntmps20
  go_wp2
  go_loopg [5, 6] k (fun kq v5 v6 w' => ∃ (x5_1 : List (S33)) (x6_1 : Int), v6 = .int .i64 x6_1 ∧ Aside0 (field_Parse.l0 kq a0 x5_1 x6_1 = some (r1, r2, r3)) ∧ Aside0 (kq ≤ k) ∧ Aside0 (Kd.R k33 33 w' w.heap.size (fun _ => True) v5 x5_1) ∧ Aside0 (Below w.heap.size w w'))
  case atStart => exact ⟨(([] : List (S33))), (0), (by first | rfl | (simp; done) | (simp [*]; done)), H', ⟨Nat.le_refl _⟩, ⟨by first | exact Kd.R_nil _ _ _ _ _ | exact Kd.N_nil _ _ _ _ _ | exact Kd.V_nil _ _ _ _ _ | exact Kd.Q_nil _ _ _ _ _ | exact Kd.S_nil _ _ _ _ _⟩, ⟨by repeat (first | (with_reducible first | exact HB.out | apply below_alloc | apply pw_below_drewN | apply below_drew1) | exact HB.out)⟩⟩
  case round =>
    clear H'
    obtain ⟨x5_1, x6_1, rfl, HA, HK1, HO_5, HB⟩ := hrel
    cases gk with
    | zero => exact absurd HA.out (by simp [field_Parse.l0])
    | succ k1 =>
      have H := HA.out
      clear HA
      simp only [field_Parse.l0] at H
      by_cases c2 : 0 ≤ x6_1
      · rw [if_pos c2] at H
        have c2b0 := eq_true c2
        have c2b1 : decide (0 ≤ x6_1) = true := decide_eq_true c2
        clear c2
        by_cases c3 : x6_1 ≤ (a0.size : Int)
        · rw [if_pos c3] at H
          have c3b0 := eq_true c3
          have c3b1 : decide (x6_1 ≤ (a0.size : Int)) = true := decide_eq_true c3
          clear c3
          replace H := Option.bind_eq_some_iff.mp H
          obtain ⟨⟨t112, t113, t114⟩, A40, H⟩ := H
          replace H : (if t114 = true then (field_Parse.j1 k1 a0 x5_1 (wrap64 (x6_1 + (wrap64 ((t112.size : Int) + 2)))) t112 t114 false) else (field_Parse.j1 k1 a0 x5_1 (wrap64 (x6_1 + (wrap64 ((t112.size : Int) + 2)))) t112 t114 (decide ((a0.size : Int) ≤ 65536)))) = some (r1, r2, r3) := H
          have A4 := Aside0.mk A40
          clear A40
          have HC5 := Aside0.mk H
          clear H
          go_upto_region 5 with (first | ((with_reducible refine gate_callee (f := 43) rfl ?_); refine goesL_ (some 18) rfl rfl Tryd.func43 (by kernel_rfl) rfl #[.string (a0.extract (x6_1 : Int).toNat a0.size), .string (⟨#[13, 10]⟩ : ByteArray)] rfl (by (try simp only [List.map_toArray, List.map_cons, List.map_nil]); first | done | rfl | (simp only [List.length_drop, List.length_take]; rfl)) ?_; (with_reducible refine (strings_Cut.calls (a0.extract (x6_1 : Int).toNat a0.size) (⟨#[13, 10]⟩ : ByteArray) t112 t113 t114 _ ?side1 A4.out).mono ?_); (case side1 => exact Glob.below HG.out (by repeat (first | (with_reducible first | exact HB.out | apply below_alloc | apply pw_below_drewN | apply below_drew1) | exact HB.out))); rintro e w6 ⟨rfl, hb⟩; refine ⟨_, rfl, ?_⟩; have n0_ := Aside0.mk (Kd.R_below (by (with_reducible repeat (first | apply Kd.R_alloc | apply Kd.R_drewN | apply Kd.R_drew)); exact HO_5.out) hb); have n1_ := Aside0.mk (below_step (by repeat (first | (with_reducible first | exact HB.out | apply below_alloc | apply pw_below_drewN | apply below_drew1) | exact HB.out)) hb); clear HO_5; clear HB; have HO_5 := n0_; have HB := n1_; clear n0_ n1_; (try clear hb); (try clear hb2); (try clear hk); (try clear hi)))
          (try simp only [Act.put, List.setIfInBounds_toArray, List.set_cons_zero, List.set_cons_succ])
          go_cut [27] (fun v27 wc => ∃ (kq : Nat) (x27_4 : Bool), v27 = .bool x27_4 ∧ Aside0 (field_Parse.j1 kq a0 x5_1 (wrap64 (x6_1 + (wrap64 ((t112.size : Int) + 2)))) t112 t114 x27_4 = some (r1, r2, r3)) ∧ Aside0 (kq ≤ k1) ∧ Aside0 (Kd.R k33 33 wc w.heap.size (fun _ => True) u5 x5_1) ∧ Aside0 (Below w.heap.size w wc))
          case first =>
            have H := HC5.out
            clear HC5
            by_cases c7 : t114 = true
            · subst c7
              have H1 : (field_Parse.j1 k1 a0 x5_1 (wrap64 (x6_1 + (wrap64 ((t112.size : Int) + 2)))) t112 true false) = some (r1, r2, r3) := by rw [if_pos rfl] at H; exact H
              clear H
              have H := H1
              clear H1
              have H' := Aside0.mk H
              clear H
              go_wp2
              go_meet
              case rel => exact ⟨_, (false), (by first | rfl | (simp; done) | (simp [*]; done)), H', ⟨by have := HK1.out; first | omega | exact Nat.le_refl _⟩, ⟨by (with_reducible repeat (first | apply Kd.R_alloc | apply Kd.R_drewN | apply Kd.R_drew)); exact HO_5.out⟩, ⟨by repeat (first | (with_reducible first | exact HB.out | apply below_alloc | apply pw_below_drewN | apply below_drew1) | exact HB.out)⟩⟩
            · replace c7 := Bool.eq_false_iff.mpr c7
              subst c7
              have H1 : (field_Parse.j1 k1 a0 x5_1 (wrap64 (x6_1 + (wrap64 ((t112.size : Int) + 2)))) t112 false (decide ((a0.size : Int) ≤ 65536))) = some (r1, r2, r3) := by rw [if_neg (show ¬ (false = true) by decide)] at H; exact H
              clear H
              have H := H1
              clear H1
              have H' := Aside0.mk H
              clear H
              go_wp2
              go_meet
              case rel => exact ⟨_, (decide ((a0.size : Int) ≤ 65536)), (by first | rfl | (simp; done) | (simp [*]; done)), H', ⟨by have := HK1.out; first | omega | exact Nat.le_refl _⟩, ⟨by (with_reducible repeat (first | apply Kd.R_alloc | apply Kd.R_drewN | apply Kd.R_drew)); exact HO_5.out⟩, ⟨by repeat (first | (with_reducible first | exact HB.out | apply below_alloc | apply pw_below_drewN | apply below_drew1) | exact HB.out)⟩⟩
          case rest =>
            clear HC5
            try clear c2
            try clear c2b0
            try clear c2b1
            try clear p2
            try clear c3
            try clear c3b0
            try clear c3b1
            try clear c4
            try clear p6
            try clear c7
            obtain ⟨kq, x27_4, rfl, HA, HJ4, HO_5, HB⟩ := hcut
            cases kq with
            | zero => exact absurd HA.out (by simp [field_Parse.j1])
            | succ kj4 =>
              have H := HA.out
              clear HA
              simp only [field_Parse.j1] at H
              by_cases c8 : x27_4 = true
              · subst c8
                have H1 : (some (([] : List (S33)), 0, 3)) = some (r1, r2, r3) := by rw [if_pos rfl] at H; exact H
                clear H
                have H := H1
                clear H1
                simp only [Option.some.injEq, Prod.mk.injEq] at H
                obtain ⟨rfl, rfl, rfl⟩ := H
                go_wp2
                go_ret3
                exact ⟨_, by first | rfl | (simp [errW_none, errW_some] <;> rfl) | (simp [*, errW_none, errW_some] <;> rfl), by first | exact Kd.R_nil _ _ _ _ _ | exact Kd.N_nil _ _ _ _ _ | exact Kd.V_nil _ _ _ _ _ | exact Kd.Q_nil _ _ _ _ _ | exact Kd.S_nil _ _ _ _ _, by repeat (first | (with_reducible first | exact HB.out | apply below_alloc | apply pw_below_drewN | apply below_drew1) | exact HB.out)⟩
              · replace c8 := Bool.eq_false_iff.mpr c8
                subst c8
                have H1 : (if t114 = true then (field_Parse.j2 kj4 a0 x5_1 (wrap64 (x6_1 + (wrap64 ((t112.size : Int) + 2)))) t112 (decide ((wrap64 (x6_1 + (wrap64 ((t112.size : Int) + 2)))) > 65536))) else (field_Parse.j2 kj4 a0 x5_1 (wrap64 (x6_1 + (wrap64 ((t112.size : Int) + 2)))) t112 true)) = some (r1, r2, r3) := by rw [if_neg (show ¬ (false = true) by decide)] at H; exact H
                clear H
                have H := H1
                clear H1
                have HC9 := Aside0.mk H
                clear H
                go_upto_region 7 with (fail)
                go_cut [35] (fun v35 wc => ∃ (kq : Nat) (x35_8 : Bool), v35 = .bool x35_8 ∧ Aside0 (field_Parse.j2 kq a0 x5_1 (wrap64 (x6_1 + (wrap64 ((t112.size : Int) + 2)))) t112 x35_8 = some (r1, r2, r3)) ∧ Aside0 (kq ≤ kj4) ∧ Aside0 (Kd.R k33 33 wc w.heap.size (fun _ => True) u5 x5_1) ∧ Aside0 (Below w.heap.size w wc))
                case first =>
                  have H := HC9.out
                  clear HC9
                  by_cases c10 : t114 = true
                  · subst c10
                    have H1 : (field_Parse.j2 kj4 a0 x5_1 (wrap64 (x6_1 + (wrap64 ((t112.size : Int) + 2)))) t112 (decide ((wrap64 (x6_1 + (wrap64 ((t112.size : Int) + 2)))) > 65536))) = some (r1, r2, r3) := by rw [if_pos rfl] at H; exact H
                    clear H
                    have H := H1
                    clear H1
                    have H' := Aside0.mk H
                    clear H
                    go_wp2
                    go_meet
                    case rel => exact ⟨_, (decide ((wrap64 (x6_1 + (wrap64 ((t112.size : Int) + 2)))) > 65536)), (by first | rfl | (simp; done) | (simp [*]; done)), H', ⟨by have := HK1.out; have := HJ4.out; first | omega | exact Nat.le_refl _⟩, ⟨by (with_reducible repeat (first | apply Kd.R_alloc | apply Kd.R_drewN | apply Kd.R_drew)); exact HO_5.out⟩, ⟨by repeat (first | (with_reducible first | exact HB.out | apply below_alloc | apply pw_below_drewN | apply below_drew1) | exact HB.out)⟩⟩
                  · replace c10 := Bool.eq_false_iff.mpr c10
                    subst c10
                    have H1 : (field_Parse.j2 kj4 a0 x5_1 (wrap64 (x6_1 + (wrap64 ((t112.size : Int) + 2)))) t112 true) = some (r1, r2, r3) := by rw [if_neg (show ¬ (false = true) by decide)] at H; exact H
                    clear H
                    have H := H1
                    clear H1
                    have H' := Aside0.mk H
                    clear H
                    go_wp2
                    go_meet
                    case rel => exact ⟨_, (true), (by first | rfl | (simp; done) | (simp [*]; done)), H', ⟨by have := HK1.out; have := HJ4.out; first | omega | exact Nat.le_refl _⟩, ⟨by (with_reducible repeat (first | apply Kd.R_alloc | apply Kd.R_drewN | apply Kd.R_drew)); exact HO_5.out⟩, ⟨by repeat (first | (with_reducible first | exact HB.out | apply below_alloc | apply pw_below_drewN | apply below_drew1) | exact HB.out)⟩⟩
                case rest =>
                  clear HC9
                  try clear c1
                  try clear c2
                  try clear c2b0
                  try clear c2b1
                  try clear p2
                  try clear c3
                  try clear c3b0
                  try clear c3b1
                  try clear c4
                  try clear p6
                  try clear c7
                  try clear c8
                  try clear c10
                  try clear p2
                  try clear p6
                  obtain ⟨kq, x35_8, rfl, HA, HJ8, HO_5, HB⟩ := hcut
                  cases kq with
                  | zero => exact absurd HA.out (by simp [field_Parse.j2])
                  | succ kj8 =>
                    have H := HA.out
                    clear HA
                    simp only [field_Parse.j2] at H
                    by_cases c11 : x35_8 = true
                    · subst c11
                      have H1 : (some (([] : List (S33)), 0, 4)) = some (r1, r2, r3) := by rw [if_pos rfl] at H; exact H
                      clear H
                      have H := H1
                      clear H1
                      simp only [Option.some.injEq, Prod.mk.injEq] at H
                      obtain ⟨rfl, rfl, rfl⟩ := H
                      go_wp2
                      go_ret3
                      exact ⟨_, by first | rfl | (simp [errW_none, errW_some] <;> rfl) | (simp [*, errW_none, errW_some] <;> rfl), by first | exact Kd.R_nil _ _ _ _ _ | exact Kd.N_nil _ _ _ _ _ | exact Kd.V_nil _ _ _ _ _ | exact Kd.Q_nil _ _ _ _ _ | exact Kd.S_nil _ _ _ _ _, by repeat (first | (with_reducible first | exact HB.out | apply below_alloc | apply pw_below_drewN | apply below_drew1) | exact HB.out)⟩
                    · replace c11 := Bool.eq_false_iff.mpr c11
                      subst c11
                      have H1 : (if t112.toList = ([] : List UInt8) then (some (x5_1, (wrap64 (x6_1 + (wrap64 ((t112.size : Int) + 2)))), 0)) else (if (x5_1.length : Int) = 100 then (some (([] : List (S33)), 0, 4)) else ((strings_Cut.f t112 (⟨#[58]⟩ : ByteArray)).bind fun bt115 => ((strings_Trim.f bt115.2.1 (⟨#[32, 9]⟩ : ByteArray)).bind fun t118 => (if bt115.2.2 = true then ((field_Right.f kj8 bt115.1 t118).bind fun t120 => (if t120 = true then (if x5_1.length < 4398046511104 then (field_Parse.l0 kj8 a0 (x5_1 ++ [(⟨bt115.1, t118⟩ : S33)]) (wrap64 (x6_1 + (wrap64 ((t112.size : Int) + 2))))) else (none)) else (some (([] : List (S33)), 0, 2)))) else (some (([] : List (S33)), 0, 2))))))) = some (r1, r2, r3) := by rw [if_neg (show ¬ (false = true) by decide)] at H; exact H
                      clear H
                      have H := H1
                      clear H1
                      by_cases c12 : t112.toList = ([] : List UInt8)
                      · rw [if_pos c12] at H
                        have c12b0 : (t112.toList == ([] : List UInt8)) = true := beq_iff_eq.mpr c12
                        have c12b1 : (t112.toList != ([] : List UInt8)) = false := bne_eq_false_iff_eq.mpr c12
                        clear c12
                        simp only [Option.some.injEq, Prod.mk.injEq] at H
                        obtain ⟨rfl, rfl, rfl⟩ := H
                        go_wp2
                        go_ret3
                        exact ⟨_, by first | rfl | (simp [errW_none, errW_some] <;> rfl) | (simp [*, errW_none, errW_some] <;> rfl), by (with_reducible repeat (first | apply Kd.R_alloc | apply Kd.R_drewN | apply Kd.R_drew)); exact HO_5.out, by repeat (first | (with_reducible first | exact HB.out | apply below_alloc | apply pw_below_drewN | apply below_drew1) | exact HB.out)⟩
                      · rw [if_neg c12] at H
                        have c12b0 : (t112.toList == ([] : List UInt8)) = false := beq_eq_false_iff_ne.mpr c12
                        have c12b1 : (t112.toList != ([] : List UInt8)) = true := bne_iff_ne.mpr c12
                        by_cases c13 : (x5_1.length : Int) = 100
                        · rw [if_pos c13] at H
                          have c13b0 : ((x5_1.length : Int) == 100) = true := beq_iff_eq.mpr c13
                          have c13b1 : ((x5_1.length : Int) != 100) = false := bne_eq_false_iff_eq.mpr c13
                          clear c13
                          simp only [Option.some.injEq, Prod.mk.injEq] at H
                          obtain ⟨rfl, rfl, rfl⟩ := H
                          obtain ⟨Ao14, co14, eo14⟩ := Kd.R_slice HO_5.out
                          subst eo14
                          go_wp2
                          go_ret3
                          exact ⟨_, by first | rfl | (simp [errW_none, errW_some] <;> rfl) | (simp [*, errW_none, errW_some] <;> rfl), by first | exact Kd.R_nil _ _ _ _ _ | exact Kd.N_nil _ _ _ _ _ | exact Kd.V_nil _ _ _ _ _ | exact Kd.Q_nil _ _ _ _ _ | exact Kd.S_nil _ _ _ _ _, by repeat (first | (with_reducible first | exact HB.out | apply below_alloc | apply pw_below_drewN | apply below_drew1) | exact HB.out)⟩
                        · rw [if_neg c13] at H
                          have c13b0 : ((x5_1.length : Int) == 100) = false := beq_eq_false_iff_ne.mpr c13
                          have c13b1 : ((x5_1.length : Int) != 100) = true := bne_iff_ne.mpr c13
                          replace H := Option.bind_eq_some_iff.mp H
                          obtain ⟨⟨t115, t116, t117⟩, A150, H⟩ := H
                          replace H : ((strings_Trim.f t116 (⟨#[32, 9]⟩ : ByteArray)).bind fun t118 => (if t117 = true then ((field_Right.f kj8 t115 t118).bind fun t120 => (if t120 = true then (if x5_1.length < 4398046511104 then (field_Parse.l0 kj8 a0 (x5_1 ++ [(⟨t115, t118⟩ : S33)]) (wrap64 (x6_1 + (wrap64 ((t112.size : Int) + 2))))) else (none)) else (some (([] : List (S33)), 0, 2)))) else (some (([] : List (S33)), 0, 2)))) = some (r1, r2, r3) := H
                          have A15 := Aside0.mk A150
                          clear A150
                          replace H := Option.bind_eq_some_iff.mp H
                          obtain ⟨t118, A160, H⟩ := H
                          replace H : (if t117 = true then ((field_Right.f kj8 t115 t118).bind fun t120 => (if t120 = true then (if x5_1.length < 4398046511104 then (field_Parse.l0 kj8 a0 (x5_1 ++ [(⟨t115, t118⟩ : S33)]) (wrap64 (x6_1 + (wrap64 ((t112.size : Int) + 2))))) else (none)) else (some (([] : List (S33)), 0, 2)))) else (some (([] : List (S33)), 0, 2))) = some (r1, r2, r3) := H
                          have A16 := Aside0.mk A160
                          clear A160
                          by_cases c17 : t117 = true
                          · subst c17
                            have H1 : ((field_Right.f kj8 t115 t118).bind fun t120 => (if t120 = true then (if x5_1.length < 4398046511104 then (field_Parse.l0 kj8 a0 (x5_1 ++ [(⟨t115, t118⟩ : S33)]) (wrap64 (x6_1 + (wrap64 ((t112.size : Int) + 2))))) else (none)) else (some (([] : List (S33)), 0, 2)))) = some (r1, r2, r3) := by rw [if_pos rfl] at H; exact H
                            clear H
                            have H := H1
                            clear H1
                            replace H := Option.bind_eq_some_iff.mp H
                            obtain ⟨t120, A180, H⟩ := H
                            replace H : (if t120 = true then (if x5_1.length < 4398046511104 then (field_Parse.l0 kj8 a0 (x5_1 ++ [(⟨t115, t118⟩ : S33)]) (wrap64 (x6_1 + (wrap64 ((t112.size : Int) + 2))))) else (none)) else (some (([] : List (S33)), 0, 2))) = some (r1, r2, r3) := H
                            have A18 := Aside0.mk A180
                            clear A180
                            by_cases c19 : t120 = true
                            · subst c19
                              have H1 : (if x5_1.length < 4398046511104 then (field_Parse.l0 kj8 a0 (x5_1 ++ [(⟨t115, t118⟩ : S33)]) (wrap64 (x6_1 + (wrap64 ((t112.size : Int) + 2))))) else (none)) = some (r1, r2, r3) := by rw [if_pos rfl] at H; exact H
                              clear H
                              have H := H1
                              clear H1
                              by_cases c20 : x5_1.length < 4398046511104
                              · rw [if_pos c20] at H
                                have LMc20 := Aside0.mk c20
                                clear c20
                                obtain ⟨y121, hy121⟩ : ∃ y_ : List (S33), y_ = (x5_1 ++ [(⟨t115, t118⟩ : S33)]) := ⟨_, rfl⟩
                                replace H : (field_Parse.l0 kj8 a0 y121 (wrap64 (x6_1 + (wrap64 ((t112.size : Int) + 2))))) = some (r1, r2, r3) := by first | (rw [hy121]; with_reducible exact H) | (have H2_ := (Option.bind_some _ _).symm.trans H; rw [hy121]; with_reducible exact H2_) | (have H2_ := (Option.bind_some _ _).symm.trans H; with_reducible exact H2_) | with_reducible exact H | (rw [hy121]; exact H) | exact H
                                have Ny121 := Aside0.mk hy121
                                clear hy121
                                have H' := Aside0.mk H
                                clear H
                                obtain ⟨Ao21, co21, eo21⟩ := Kd.R_slice HO_5.out
                                subst eo21
                                go_wp2_with (first | ((with_reducible refine gate_callee (f := 43) rfl ?_); refine goesL_ (some 53) rfl rfl Tryd.func43 (by kernel_rfl) rfl #[.string t112, .string (⟨#[58]⟩ : ByteArray)] rfl (by (try simp only [List.map_toArray, List.map_cons, List.map_nil]); first | done | rfl | (simp only [List.length_drop, List.length_take]; rfl)) ?_; (with_reducible refine (strings_Cut.calls t112 (⟨#[58]⟩ : ByteArray) t115 t116 true _ ?side1 A15.out).mono ?_); (case side1 => exact Glob.below HG.out (by repeat (first | (with_reducible first | exact HB.out | apply below_alloc | apply pw_below_drewN | apply below_drew1) | exact HB.out))); rintro e w22 ⟨rfl, hb⟩; refine ⟨_, rfl, ?_⟩; have n0_ := Aside0.mk (Kd.R_below (by (with_reducible repeat (first | apply Kd.R_alloc | apply Kd.R_drewN | apply Kd.R_drew)); exact HO_5.out) hb); have n1_ := Aside0.mk (below_step (by repeat (first | (with_reducible first | exact HB.out | apply below_alloc | apply pw_below_drewN | apply below_drew1) | exact HB.out)) hb); clear HO_5; clear HB; have HO_5 := n0_; have HB := n1_; clear n0_ n1_; (try clear hb); (try clear hb2); (try clear hk); (try clear hi)) | ((with_reducible refine gate_callee (f := 39) rfl ?_); refine goesL_ (some 59) rfl rfl Tryd.func39 (by kernel_rfl) rfl #[.string t116, .string (⟨#[32, 9]⟩ : ByteArray)] rfl (by (try simp only [List.map_toArray, List.map_cons, List.map_nil]); first | done | rfl | (simp only [List.length_drop, List.length_take]; rfl)) ?_; (with_reducible refine (strings_Trim.calls t116 (⟨#[32, 9]⟩ : ByteArray) t118 _ A16.out).mono ?_); rintro e w23 ⟨rfl, hb⟩; refine ⟨_, rfl, ?_⟩; have n0_ := Aside0.mk (Kd.R_below (by (with_reducible repeat (first | apply Kd.R_alloc | apply Kd.R_drewN | apply Kd.R_drew)); exact HO_5.out) hb); have n1_ := Aside0.mk (below_step (by repeat (first | (with_reducible first | exact HB.out | apply below_alloc | apply pw_below_drewN | apply below_drew1) | exact HB.out)) hb); clear HO_5; clear HB; have HO_5 := n0_; have HB := n1_; clear n0_ n1_; (try clear hb); (try clear hb2); (try clear hk); (try clear hi)) | ((with_reducible refine gate_dst (N := 13) rfl ?_); (try (refine gate_guard (by rfl) ?_; dsimp only)); refine box_event ?hg (N := 13) ?hd (cs := #[.string (⟨#[]⟩ : ByteArray), .string (⟨#[]⟩ : ByteArray)]) (t := 33) ?hr ?_; (case hd => rfl); (case hg => rfl); (case hr => first | (go_simp; done) | (go_simp; rfl)); intro gb119 hg w24 hbox hb; have n0_ := Aside0.mk (Kd.R_below (Kd.R_elderB (by (with_reducible repeat (first | apply Kd.R_alloc | apply Kd.R_drewN | apply Kd.R_drew)); exact HO_5.out) gb119 (Nat.le_of_eq hg.symm)) hb); have n1_ := Aside0.mk (below_step (by repeat (first | (with_reducible first | exact HB.out | apply below_alloc | apply pw_below_drewN | apply below_drew1) | exact HB.out)) hb); have n2_ := Aside0.mk (hbox); have n3_ := Aside0.mk ((by rw [hg]; exact (below_size (by repeat (first | (with_reducible first | exact HB.out | apply below_alloc | apply pw_below_drewN | apply below_drew1) | exact HB.out))) : w.heap.size ≤ gb119)); have n4_ := Aside0.mk ((by rw [hg]; exact (below_size (by repeat (first | (with_reducible first | exact HB.out | apply below_alloc | apply pw_below_drewN | apply below_drew1) | exact HB.out))) : w.heap.size ≤ gb119)); clear HO_5; clear HB; have HO_5 := n0_; have HB := n1_; have BK119 := n2_; have GW119 := n3_; have GE119 := n4_; clear n0_ n1_ n2_ n3_ n4_; clear hb hbox hg; have hcz25_0 : w24.cell? ⟨gb119, 0, none⟩ = some (.string (⟨#[]⟩ : ByteArray)) := (blk_cell BK119.out 0).trans rfl; have hcz25_1 : w24.cell? ⟨gb119, 1, none⟩ = some (.string (⟨#[]⟩ : ByteArray)) := (blk_cell BK119.out 1).trans rfl; have hfz25_0 := blk_frozen BK119.out 0; have hfz25_1 := blk_frozen BK119.out 1) | (go_at_call 18; (with_reducible refine (field_Right.calls kj8 t115 t118 true _ A18.out).mono ?_); rintro e w26 ⟨rfl, hb⟩; have n0_ := Aside0.mk (Kd.R_below (by (with_reducible repeat (first | apply Kd.R_alloc | apply Kd.R_drewN | apply Kd.R_drew)); exact (Kd.R_mono (Kd.R_far (p := ⟨gb119, 1, none⟩) (Kd.R_far (p := ⟨gb119, 0, none⟩) (Kd.R_mono HO_5.out (fun k_ hk => (⟨hk, hk.2⟩ : _ ∧ k_ ≠ gb119))) (fun _ hk => hk.2) (.string t115)) (fun _ hk => hk.2) (.string t118)) (fun _ h_ => h_.1))) hb); have n1_ := Aside0.mk (blk_below (g := gb119) (o := .cells #[.string t115, .string t118] 33 (0, 0)) (by (with_reducible repeat (first | refine blk_drewN ?_ _ | refine blk_drew ?_ | refine blk_alloc ?_ _)); refine blk_put (cs := #[.string t115, .string (⟨#[]⟩ : ByteArray)]) ?_ 1 _ rfl; (with_reducible repeat (first | refine blk_drewN ?_ _ | refine blk_drew ?_ | refine blk_alloc ?_ _)); refine blk_put (cs := #[.string (⟨#[]⟩ : ByteArray), .string (⟨#[]⟩ : ByteArray)]) ?_ 0 _ rfl; (with_reducible repeat (first | refine blk_drewN ?_ _ | refine blk_drew ?_ | refine blk_alloc ?_ _)); exact BK119.out) hb); have n2_ := Aside0.mk (below_step (by repeat (first | (with_reducible first | exact HB.out | apply below_alloc | apply pw_below_drewN | apply below_drew1 | refine below_set ?_ GE119.out) | exact HB.out)) hb); clear HO_5; clear BK119; clear HB; have HO_5 := n0_; have BK119 := n1_; have HB := n2_; clear n0_ n1_ n2_; (try clear hb); (try clear hb2); (try clear hk); (try clear hi); have hcz27_0 : w26.cell? ⟨gb119, 0, none⟩ = some (.string t115) := (blk_cell BK119.out 0).trans rfl; have hcz27_1 : w26.cell? ⟨gb119, 1, none⟩ = some (.string t118) := (blk_cell BK119.out 1).trans rfl; have hfz27_0 := blk_frozen BK119.out 0; have hfz27_1 := blk_frozen BK119.out 1) | ((with_reducible refine gate_builtin (b := .append) (xs := #[.tmp 68, .tmp 70]) rfl ?_); (try (refine gate_guard (by rfl) ?_; dsimp only)); at_builtin; refine Kd.R_append k33 (w0 := w) w.heap.size rfl (.tmp 68) (.tmp 70) 35 33 (.agg #[(.string ⟨#[]⟩), (.string ⟨#[]⟩)]) 32 rfl Tryd.underlying35 info33 rfl (by decide) (by omega) (.slice Ao21 x5_1.length co21) x5_1 (⟨t115, t118⟩ : S33) [.string t115, .string t118] (fun k_ => k_ ≠ gb119) (fun _ => False) rfl rfl ?aP (fun _ hk => hk.elim) ?aF ?aO ?aB ?aS ?aL ?_; (case aP => exact k33_mkM _ _ _ (⟨t115, t118⟩ : S33)); (case aB => exact (by repeat (first | (with_reducible first | exact HB.out | apply below_alloc | apply pw_below_drewN | apply below_drew1 | refine below_set ?_ GE119.out) | exact HB.out))); (case aF => exact (fun k_ hk => Kd.freshB (g := gb119) (o := .cells #[.string t115, .string t118] 33 (0, 0)) (by (with_reducible repeat (first | refine blk_drewN ?_ _ | refine blk_drew ?_ | refine blk_alloc ?_ _)); exact BK119.out) k_ hk)); (case aO => exact (by (with_reducible repeat (first | apply Kd.R_alloc | apply Kd.R_drewN | apply Kd.R_drew)); exact Kd.R_mono HO_5.out (fun _ hk => hk.2))); (case aS => exact (below_size (by repeat (first | (with_reducible first | exact HB.out | apply below_alloc | apply pw_below_drewN | apply below_drew1 | refine below_set ?_ GE119.out) | exact HB.out)))); (case aL => have := LMc20.out; omega); intro v122 w28 ho hb hg hat; rw [← Ny121.out] at ho; have n0_ := Aside0.mk (blk_grown (g := gb119) (o := .cells #[.string t115, .string t118] 33 (0, 0)) (by (with_reducible repeat (first | refine blk_drewN ?_ _ | refine blk_drew ?_ | refine blk_alloc ?_ _)); exact BK119.out) hg (Kd.R_away HO_5.out (fun _ hk => hk.2))); have n1_ := Aside0.mk (hb); have n2_ := Aside0.mk (ho); clear BK119; clear HB; clear HO_5; have BK119 := n0_; have HB := n1_; have HO123 := n2_; clear n0_ n1_ n2_; clear ho hb hg hat))
                                go_roundg kj8
                                case measure => have := HK1.out; have := HJ4.out; have := HJ8.out; omega
                                case rel => exact ⟨(y121), ((wrap64 (x6_1 + (wrap64 ((t112.size : Int) + 2))))), (by first | rfl | (simp; done) | (simp [*]; done)), H', ⟨by have := HK1.out; have := HJ4.out; have := HJ8.out; omega⟩, ⟨by (with_reducible repeat (first | apply Kd.R_alloc | apply Kd.R_drewN | apply Kd.R_drew)); exact Kd.R_mono HO123.out (fun _ hk => trivial)⟩, ⟨by repeat (first | (with_reducible first | exact HB.out | apply below_alloc | apply pw_below_drewN | apply below_drew1 | refine below_set ?_ GE119.out) | exact HB.out)⟩⟩
                              · rw [if_neg c20] at H
                                exact absurd H (by simp)
                            · replace c19 := Bool.eq_false_iff.mpr c19
                              subst c19
                              have H1 : (some (([] : List (S33)), 0, 2)) = some (r1, r2, r3) := by rw [if_neg (show ¬ (false = true) by decide)] at H; exact H
                              clear H
                              have H := H1
                              clear H1
                              simp only [Option.some.injEq, Prod.mk.injEq] at H
                              obtain ⟨rfl, rfl, rfl⟩ := H
                              obtain ⟨Ao29, co29, eo29⟩ := Kd.R_slice HO_5.out
                              subst eo29
                              go_wp2_with (first | ((with_reducible refine gate_callee (f := 43) rfl ?_); refine goesL_ (some 53) rfl rfl Tryd.func43 (by kernel_rfl) rfl #[.string t112, .string (⟨#[58]⟩ : ByteArray)] rfl (by (try simp only [List.map_toArray, List.map_cons, List.map_nil]); first | done | rfl | (simp only [List.length_drop, List.length_take]; rfl)) ?_; (with_reducible refine (strings_Cut.calls t112 (⟨#[58]⟩ : ByteArray) t115 t116 true _ ?side1 A15.out).mono ?_); (case side1 => exact Glob.below HG.out (by repeat (first | (with_reducible first | exact HB.out | apply below_alloc | apply pw_below_drewN | apply below_drew1) | exact HB.out))); rintro e w30 ⟨rfl, hb⟩; refine ⟨_, rfl, ?_⟩; have n0_ := Aside0.mk (Kd.R_below (by (with_reducible repeat (first | apply Kd.R_alloc | apply Kd.R_drewN | apply Kd.R_drew)); exact HO_5.out) hb); have n1_ := Aside0.mk (below_step (by repeat (first | (with_reducible first | exact HB.out | apply below_alloc | apply pw_below_drewN | apply below_drew1) | exact HB.out)) hb); clear HO_5; clear HB; have HO_5 := n0_; have HB := n1_; clear n0_ n1_; (try clear hb); (try clear hb2); (try clear hk); (try clear hi)) | ((with_reducible refine gate_callee (f := 39) rfl ?_); refine goesL_ (some 59) rfl rfl Tryd.func39 (by kernel_rfl) rfl #[.string t116, .string (⟨#[32, 9]⟩ : ByteArray)] rfl (by (try simp only [List.map_toArray, List.map_cons, List.map_nil]); first | done | rfl | (simp only [List.length_drop, List.length_take]; rfl)) ?_; (with_reducible refine (strings_Trim.calls t116 (⟨#[32, 9]⟩ : ByteArray) t118 _ A16.out).mono ?_); rintro e w31 ⟨rfl, hb⟩; refine ⟨_, rfl, ?_⟩; have n0_ := Aside0.mk (Kd.R_below (by (with_reducible repeat (first | apply Kd.R_alloc | apply Kd.R_drewN | apply Kd.R_drew)); exact HO_5.out) hb); have n1_ := Aside0.mk (below_step (by repeat (first | (with_reducible first | exact HB.out | apply below_alloc | apply pw_below_drewN | apply below_drew1) | exact HB.out)) hb); clear HO_5; clear HB; have HO_5 := n0_; have HB := n1_; clear n0_ n1_; (try clear hb); (try clear hb2); (try clear hk); (try clear hi)) | ((with_reducible refine gate_dst (N := 13) rfl ?_); (try (refine gate_guard (by rfl) ?_; dsimp only)); refine box_event ?hg (N := 13) ?hd (cs := #[.string (⟨#[]⟩ : ByteArray), .string (⟨#[]⟩ : ByteArray)]) (t := 33) ?hr ?_; (case hd => rfl); (case hg => rfl); (case hr => first | (go_simp; done) | (go_simp; rfl)); intro gb119 hg w32 hbox hb; have n0_ := Aside0.mk (Kd.R_below (Kd.R_elderB (by (with_reducible repeat (first | apply Kd.R_alloc | apply Kd.R_drewN | apply Kd.R_drew)); exact HO_5.out) gb119 (Nat.le_of_eq hg.symm)) hb); have n1_ := Aside0.mk (below_step (by repeat (first | (with_reducible first | exact HB.out | apply below_alloc | apply pw_below_drewN | apply below_drew1) | exact HB.out)) hb); have n2_ := Aside0.mk (hbox); have n3_ := Aside0.mk ((by rw [hg]; exact (below_size (by repeat (first | (with_reducible first | exact HB.out | apply below_alloc | apply pw_below_drewN | apply below_drew1) | exact HB.out))) : w.heap.size ≤ gb119)); have n4_ := Aside0.mk ((by rw [hg]; exact (below_size (by repeat (first | (with_reducible first | exact HB.out | apply below_alloc | apply pw_below_drewN | apply below_drew1) | exact HB.out))) : w.heap.size ≤ gb119)); clear HO_5; clear HB; have HO_5 := n0_; have HB := n1_; have BK119 := n2_; have GW119 := n3_; have GE119 := n4_; clear n0_ n1_ n2_ n3_ n4_; clear hb hbox hg; have hcz33_0 : w32.cell? ⟨gb119, 0, none⟩ = some (.string (⟨#[]⟩ : ByteArray)) := (blk_cell BK119.out 0).trans rfl; have hcz33_1 : w32.cell? ⟨gb119, 1, none⟩ = some (.string (⟨#[]⟩ : ByteArray)) := (blk_cell BK119.out 1).trans rfl; have hfz33_0 := blk_frozen BK119.out 0; have hfz33_1 := blk_frozen BK119.out 1) | (go_at_call 18; (with_reducible refine (field_Right.calls kj8 t115 t118 false _ A18.out).mono ?_); rintro e w34 ⟨rfl, hb⟩; have n0_ := Aside0.mk (Kd.R_below (by (with_reducible repeat (first | apply Kd.R_alloc | apply Kd.R_drewN | apply Kd.R_drew)); exact (Kd.R_mono (Kd.R_far (p := ⟨gb119, 1, none⟩) (Kd.R_far (p := ⟨gb119, 0, none⟩) (Kd.R_mono HO_5.out (fun k_ hk => (⟨hk, hk.2⟩ : _ ∧ k_ ≠ gb119))) (fun _ hk => hk.2) (.string t115)) (fun _ hk => hk.2) (.string t118)) (fun _ h_ => h_.1))) hb); have n1_ := Aside0.mk (blk_below (g := gb119) (o := .cells #[.string t115, .string t118] 33 (0, 0)) (by (with_reducible repeat (first | refine blk_drewN ?_ _ | refine blk_drew ?_ | refine blk_alloc ?_ _)); refine blk_put (cs := #[.string t115, .string (⟨#[]⟩ : ByteArray)]) ?_ 1 _ rfl; (with_reducible repeat (first | refine blk_drewN ?_ _ | refine blk_drew ?_ | refine blk_alloc ?_ _)); refine blk_put (cs := #[.string (⟨#[]⟩ : ByteArray), .string (⟨#[]⟩ : ByteArray)]) ?_ 0 _ rfl; (with_reducible repeat (first | refine blk_drewN ?_ _ | refine blk_drew ?_ | refine blk_alloc ?_ _)); exact BK119.out) hb); have n2_ := Aside0.mk (below_step (by repeat (first | (with_reducible first | exact HB.out | apply below_alloc | apply pw_below_drewN | apply below_drew1 | refine below_set ?_ GE119.out) | exact HB.out)) hb); clear HO_5; clear BK119; clear HB; have HO_5 := n0_; have BK119 := n1_; have HB := n2_; clear n0_ n1_ n2_; (try clear hb); (try clear hb2); (try clear hk); (try clear hi)))
                              go_ret3
                              exact ⟨_, by first | rfl | (simp [errW_none, errW_some] <;> rfl) | (simp [*, errW_none, errW_some] <;> rfl), by first | exact Kd.R_nil _ _ _ _ _ | exact Kd.N_nil _ _ _ _ _ | exact Kd.V_nil _ _ _ _ _ | exact Kd.Q_nil _ _ _ _ _ | exact Kd.S_nil _ _ _ _ _, by repeat (first | (with_reducible first | exact HB.out | apply below_alloc | apply pw_below_drewN | apply below_drew1 | refine below_set ?_ GE119.out) | exact HB.out)⟩
                          · replace c17 := Bool.eq_false_iff.mpr c17
                            subst c17
                            have H1 : (some (([] : List (S33)), 0, 2)) = some (r1, r2, r3) := by rw [if_neg (show ¬ (false = true) by decide)] at H; exact H
                            clear H
                            have H := H1
                            clear H1
                            simp only [Option.some.injEq, Prod.mk.injEq] at H
                            obtain ⟨rfl, rfl, rfl⟩ := H
                            obtain ⟨Ao35, co35, eo35⟩ := Kd.R_slice HO_5.out
                            subst eo35
                            go_wp2_with (first | ((with_reducible refine gate_callee (f := 43) rfl ?_); refine goesL_ (some 53) rfl rfl Tryd.func43 (by kernel_rfl) rfl #[.string t112, .string (⟨#[58]⟩ : ByteArray)] rfl (by (try simp only [List.map_toArray, List.map_cons, List.map_nil]); first | done | rfl | (simp only [List.length_drop, List.length_take]; rfl)) ?_; (with_reducible refine (strings_Cut.calls t112 (⟨#[58]⟩ : ByteArray) t115 t116 false _ ?side1 A15.out).mono ?_); (case side1 => exact Glob.below HG.out (by repeat (first | (with_reducible first | exact HB.out | apply below_alloc | apply pw_below_drewN | apply below_drew1) | exact HB.out))); rintro e w36 ⟨rfl, hb⟩; refine ⟨_, rfl, ?_⟩; have n0_ := Aside0.mk (Kd.R_below (by (with_reducible repeat (first | apply Kd.R_alloc | apply Kd.R_drewN | apply Kd.R_drew)); exact HO_5.out) hb); have n1_ := Aside0.mk (below_step (by repeat (first | (with_reducible first | exact HB.out | apply below_alloc | apply pw_below_drewN | apply below_drew1) | exact HB.out)) hb); clear HO_5; clear HB; have HO_5 := n0_; have HB := n1_; clear n0_ n1_; (try clear hb); (try clear hb2); (try clear hk); (try clear hi)) | ((with_reducible refine gate_callee (f := 39) rfl ?_); refine goesL_ (some 59) rfl rfl Tryd.func39 (by kernel_rfl) rfl #[.string t116, .string (⟨#[32, 9]⟩ : ByteArray)] rfl (by (try simp only [List.map_toArray, List.map_cons, List.map_nil]); first | done | rfl | (simp only [List.length_drop, List.length_take]; rfl)) ?_; (with_reducible refine (strings_Trim.calls t116 (⟨#[32, 9]⟩ : ByteArray) t118 _ A16.out).mono ?_); rintro e w37 ⟨rfl, hb⟩; refine ⟨_, rfl, ?_⟩; have n0_ := Aside0.mk (Kd.R_below (by (with_reducible repeat (first | apply Kd.R_alloc | apply Kd.R_drewN | apply Kd.R_drew)); exact HO_5.out) hb); have n1_ := Aside0.mk (below_step (by repeat (first | (with_reducible first | exact HB.out | apply below_alloc | apply pw_below_drewN | apply below_drew1) | exact HB.out)) hb); clear HO_5; clear HB; have HO_5 := n0_; have HB := n1_; clear n0_ n1_; (try clear hb); (try clear hb2); (try clear hk); (try clear hi)) | ((with_reducible refine gate_dst (N := 13) rfl ?_); (try (refine gate_guard (by rfl) ?_; dsimp only)); refine box_event ?hg (N := 13) ?hd (cs := #[.string (⟨#[]⟩ : ByteArray), .string (⟨#[]⟩ : ByteArray)]) (t := 33) ?hr ?_; (case hd => rfl); (case hg => rfl); (case hr => first | (go_simp; done) | (go_simp; rfl)); intro gb119 hg w38 hbox hb; have n0_ := Aside0.mk (Kd.R_below (Kd.R_elderB (by (with_reducible repeat (first | apply Kd.R_alloc | apply Kd.R_drewN | apply Kd.R_drew)); exact HO_5.out) gb119 (Nat.le_of_eq hg.symm)) hb); have n1_ := Aside0.mk (below_step (by repeat (first | (with_reducible first | exact HB.out | apply below_alloc | apply pw_below_drewN | apply below_drew1) | exact HB.out)) hb); have n2_ := Aside0.mk (hbox); have n3_ := Aside0.mk ((by rw [hg]; exact (below_size (by repeat (first | (with_reducible first | exact HB.out | apply below_alloc | apply pw_below_drewN | apply below_drew1) | exact HB.out))) : w.heap.size ≤ gb119)); have n4_ := Aside0.mk ((by rw [hg]; exact (below_size (by repeat (first | (with_reducible first | exact HB.out | apply below_alloc | apply pw_below_drewN | apply below_drew1) | exact HB.out))) : w.heap.size ≤ gb119)); clear HO_5; clear HB; have HO_5 := n0_; have HB := n1_; have BK119 := n2_; have GW119 := n3_; have GE119 := n4_; clear n0_ n1_ n2_ n3_ n4_; clear hb hbox hg; have hcz39_0 : w38.cell? ⟨gb119, 0, none⟩ = some (.string (⟨#[]⟩ : ByteArray)) := (blk_cell BK119.out 0).trans rfl; have hcz39_1 : w38.cell? ⟨gb119, 1, none⟩ = some (.string (⟨#[]⟩ : ByteArray)) := (blk_cell BK119.out 1).trans rfl; have hfz39_0 := blk_frozen BK119.out 0; have hfz39_1 := blk_frozen BK119.out 1))
                            go_ret3
                            exact ⟨_, by first | rfl | (simp [errW_none, errW_some] <;> rfl) | (simp [*, errW_none, errW_some] <;> rfl), by first | exact Kd.R_nil _ _ _ _ _ | exact Kd.N_nil _ _ _ _ _ | exact Kd.V_nil _ _ _ _ _ | exact Kd.Q_nil _ _ _ _ _ | exact Kd.S_nil _ _ _ _ _, by repeat (first | (with_reducible first | exact HB.out | apply below_alloc | apply pw_below_drewN | apply below_drew1 | refine below_set ?_ GE119.out) | exact HB.out)⟩
        · rw [if_neg c3] at H
          exact absurd H (by simp)
      · rw [if_neg c2] at H
        exact absurd H (by simp)

/-! ### mandolinelaw07_alive: function 11 -/
def mandolinelaw07_alive.f (k : Nat)  : Option (Bool) := (field_Parse.f k (⟨#[97, 58, 32, 49, 44, 32, 34, 98, 44, 92, 34, 99, 34, 32, 44, 44, 32, 100, 13, 10, 13, 10, 120]⟩ : ByteArray)).bind fun bt124 => ((field_Parse.f k (⟨#[97, 32, 58, 32, 49, 13, 10, 13, 10]⟩ : ByteArray)).bind fun bt129 => (if bt124.2.2 = 0 then (if bt124.2.1 = 22 then (if (bt124.1.length : Int) = 1 then (if bt129.2.2 = 2 then (if 0 < (bt124.1.length : Int) then ((mandolinelaw07_items.f k (([(rd_T33 bt124.1 0).f1] : List ByteArray))).bind fun t138 => ((mandolineref07_Texts.f k t138 (([(⟨#[49]⟩ : ByteArray), (⟨#[34, 98, 44, 92, 34, 99, 34]⟩ : ByteArray), (⟨#[100]⟩ : ByteArray)] : List ByteArray))).bind fun t144 => (some t144))) else (none)) else (some false)) else (some false)) else (some false)) else (some false)))
theorem mandolinelaw07_alive.mono : ∀ k, LeO (mandolinelaw07_alive.f k ) (mandolinelaw07_alive.f (k + 1) ) := by
  intro  k
  unfold mandolinelaw07_alive.f
  repeat' first
      | (with_reducible exact field_Parse.mono _ _)
      | (with_reducible exact mandolinelaw07_items.mono _ _)
      | (with_reducible exact mandolineref07_Texts.mono _ _ _)
      | (with_reducible exact LeO.refl _)
      | (with_reducible exact LeO.none _)
      | (with_reducible refine LeO.ite ?_ ?_)
      | (with_reducible refine LeO.bind ?_ (fun _ => ?_))
      | exact field_Parse.mono _ _
      | exact mandolinelaw07_items.mono _ _
      | exact mandolineref07_Texts.mono _ _ _
      | exact LeO.none _
      | refine LeO.ite ?_ ?_
      | refine LeO.bind ?_ (fun _ => ?_)
set_option maxHeartbeats 8000000 in
set_option maxRecDepth 100000 in
theorem mandolinelaw07_alive.calls (k : Nat)  (r : Bool) (w : World) (hG : Glob w) (h : mandolinelaw07_alive.f k  = some r) :
    Calls Tryd.prog 11 #[] w fun e w' => e = .returned (.bool r) ∧ Below w.heap.size w w' := by
  have HG := Aside0.mk hG
  clear hG
  have HB := Aside0.mk (Below.refl w.heap.size w)
  have H : ((field_Parse.f k (⟨#[97, 58, 32, 49, 44, 32, 34, 98, 44, 92, 34, 99, 34, 32, 44, 44, 32, 100, 13, 10, 13, 10, 120]⟩ : ByteArray)).bind fun bt124 => ((field_Parse.f k (⟨#[97, 32, 58, 32, 49, 13, 10, 13, 10]⟩ : ByteArray)).bind fun bt129 => (if bt124.2.2 = 0 then (if bt124.2.1 = 22 then (if (bt124.1.length : Int) = 1 then (if bt129.2.2 = 2 then (if 0 < (bt124.1.length : Int) then ((mandolinelaw07_items.f k (([(rd_T33 bt124.1 0).f1] : List ByteArray))).bind fun t138 => ((mandolineref07_Texts.f k t138 (([(⟨#[49]⟩ : ByteArray), (⟨#[34, 98, 44, 92, 34, 99, 34]⟩ : ByteArray), (⟨#[100]⟩ : ByteArray)] : List ByteArray))).bind fun t144 => (some t144))) else (none)) else (some false)) else (some false)) else (some false)) else (some false)))) = some r := h
  clear h
  replace H := Option.bind_eq_some_iff.mp H
  obtain ⟨⟨t124, t125, t126⟩, A10, H⟩ := H
  replace H : ((field_Parse.f k (⟨#[97, 32, 58, 32, 49, 13, 10, 13, 10]⟩ : ByteArray)).bind fun bt129 => (if t126 = 0 then (if t125 = 22 then (if (t124.length : Int) = 1 then (if bt129.2.2 = 2 then (if 0 < (t124.length : Int) then ((mandolinelaw07_items.f k (([(rd_T33 t124 0).f1] : List ByteArray))).bind fun t138 => ((mandolineref07_Texts.f k t138 (([(⟨#[49]⟩ : ByteArray), (⟨#[34, 98, 44, 92, 34, 99, 34]⟩ : ByteArray), (⟨#[100]⟩ : ByteArray)] : List ByteArray))).bind fun t144 => (some t144))) else (none)) else (some false)) else (some false)) else (some false)) else (some false))) = some r := H
  have A1 := Aside0.mk A10
  clear A10
  replace H := Option.bind_eq_some_iff.mp H
  obtain ⟨⟨t129, t130, t131⟩, A20, H⟩ := H
  replace H : (if t126 = 0 then (if t125 = 22 then (if (t124.length : Int) = 1 then (if t131 = 2 then (if 0 < (t124.length : Int) then ((mandolinelaw07_items.f k (([(rd_T33 t124 0).f1] : List ByteArray))).bind fun t138 => ((mandolineref07_Texts.f k t138 (([(⟨#[49]⟩ : ByteArray), (⟨#[34, 98, 44, 92, 34, 99, 34]⟩ : ByteArray), (⟨#[100]⟩ : ByteArray)] : List ByteArray))).bind fun t144 => (some t144))) else (none)) else (some false)) else (some false)) else (some false)) else (some false)) = some r := H
  have A2 := Aside0.mk A20
  clear A20
  by_cases c3 : t126 = 0
  · rw [if_pos c3] at H
    have c3b0 : (t126 == 0) = true := beq_iff_eq.mpr c3
    have c3b1 : (t126 != 0) = false := bne_eq_false_iff_eq.mpr c3
    clear c3
    by_cases c4 : t125 = 22
    · rw [if_pos c4] at H
      have c4b0 : (t125 == 22) = true := beq_iff_eq.mpr c4
      have c4b1 : (t125 != 22) = false := bne_eq_false_iff_eq.mpr c4
      clear c4
      by_cases c5 : (t124.length : Int) = 1
      · rw [if_pos c5] at H
        have c5b0 : ((t124.length : Int) == 1) = true := beq_iff_eq.mpr c5
        have c5b1 : ((t124.length : Int) != 1) = false := bne_eq_false_iff_eq.mpr c5
        clear c5
        by_cases c6 : t131 = 2
        · rw [if_pos c6] at H
          have c6b0 : (t131 == 2) = true := beq_iff_eq.mpr c6
          have c6b1 : (t131 != 2) = false := bne_eq_false_iff_eq.mpr c6
          clear c6
          by_cases c7 : 0 < (t124.length : Int)
          · rw [if_pos c7] at H
            have c7b0 : decide (0 < (t124.length : Int)) = true := decide_eq_true c7
            have c7b1 : decide (0 < t124.length) = true := decide_eq_true (by omega)
            clear c7
            obtain ⟨y135, hy135⟩ : ∃ y_ : List ByteArray, y_ = (([(rd_T33 t124 0).f1] : List ByteArray)) := ⟨_, rfl⟩
            replace H : ((mandolinelaw07_items.f k y135).bind fun t138 => ((mandolineref07_Texts.f k t138 (([(⟨#[49]⟩ : ByteArray), (⟨#[34, 98, 44, 92, 34, 99, 34]⟩ : ByteArray), (⟨#[100]⟩ : ByteArray)] : List ByteArray))).bind fun t144 => (some t144))) = some r := by first | (rw [hy135]; with_reducible exact H) | (have H2_ := (Option.bind_some _ _).symm.trans H; rw [hy135]; with_reducible exact H2_) | (have H2_ := (Option.bind_some _ _).symm.trans H; with_reducible exact H2_) | with_reducible exact H | (rw [hy135]; exact H) | exact H
            have Ny135 := Aside0.mk hy135
            clear hy135
            replace H := Option.bind_eq_some_iff.mp H
            obtain ⟨t138, A80, H⟩ := H
            replace H : ((mandolineref07_Texts.f k t138 (([(⟨#[49]⟩ : ByteArray), (⟨#[34, 98, 44, 92, 34, 99, 34]⟩ : ByteArray), (⟨#[100]⟩ : ByteArray)] : List ByteArray))).bind fun t144 => (some t144)) = some r := H
            have A8 := Aside0.mk A80
            clear A80
            obtain ⟨y141, hy141⟩ : ∃ y_ : List ByteArray, y_ = (([(⟨#[49]⟩ : ByteArray), (⟨#[34, 98, 44, 92, 34, 99, 34]⟩ : ByteArray), (⟨#[100]⟩ : ByteArray)] : List ByteArray)) := ⟨_, rfl⟩
            replace H : ((mandolineref07_Texts.f k t138 y141).bind fun t144 => (some t144)) = some r := by first | (rw [hy141]; with_reducible exact H) | (have H2_ := (Option.bind_some _ _).symm.trans H; rw [hy141]; with_reducible exact H2_) | (have H2_ := (Option.bind_some _ _).symm.trans H; with_reducible exact H2_) | with_reducible exact H | (rw [hy141]; exact H) | exact H
            have Ny141 := Aside0.mk hy141
            clear hy141
            replace H := Option.bind_eq_some_iff.mp H
            obtain ⟨t144, A90, H⟩ := H
            replace H : (some t144) = some r := H
            have A9 := Aside0.mk A90
            clear A90
            obtain rfl := Option.some.inj H
            go_enter Tryd.func11, Tryd.ntmps11
            go_wp2_with (first | ((with_reducible refine gate_callee (f := 20) rfl ?_); refine goesL_ (some 8) rfl rfl Tryd.func20 (by kernel_rfl) rfl #[.string (⟨#[97, 58, 32, 49, 44, 32, 34, 98, 44, 92, 34, 99, 34, 32, 44, 44, 32, 100, 13, 10, 13, 10, 120]⟩ : ByteArray)] rfl (by (try simp only [List.map_toArray, List.map_cons, List.map_nil]); first | done | rfl | (simp only [List.length_drop, List.length_take]; rfl)) ?_; (with_reducible refine (field_Parse.calls k (⟨#[97, 58, 32, 49, 44, 32, 34, 98, 44, 92, 34, 99, 34, 32, 44, 44, 32, 100, 13, 10, 13, 10, 120]⟩ : ByteArray) t124 t125 t126 _ ?side1 A1.out).mono ?_); (case side1 => exact Glob.below HG.out (by repeat (first | (with_reducible first | exact HB.out | apply below_alloc | apply pw_below_drewN | apply below_drew1) | exact HB.out))); rintro e w10 ⟨v127, rfl, ho0, hb⟩; refine ⟨_, rfl, ?_⟩; have n0_ := Aside0.mk (Kd.R_lower ho0 (below_size (by repeat (first | (with_reducible first | exact HB.out | apply below_alloc | apply pw_below_drewN | apply below_drew1) | exact HB.out)))); have n1_ := Aside0.mk (below_step (by repeat (first | (with_reducible first | exact HB.out | apply below_alloc | apply pw_below_drewN | apply below_drew1) | exact HB.out)) hb); clear HB; have HO128 := n0_; have HB := n1_; clear n0_ n1_; (try clear hb); (try clear hb2); (try clear hk); (try clear hi); (try clear ho0)) | ((with_reducible refine gate_callee (f := 20) rfl ?_); refine goesL_ (some 13) rfl rfl Tryd.func20 (by kernel_rfl) rfl #[.string (⟨#[97, 32, 58, 32, 49, 13, 10, 13, 10]⟩ : ByteArray)] rfl (by (try simp only [List.map_toArray, List.map_cons, List.map_nil]); first | done | rfl | (simp only [List.length_drop, List.length_take]; rfl)) ?_; (with_reducible refine (field_Parse.calls k (⟨#[97, 32, 58, 32, 49, 13, 10, 13, 10]⟩ : ByteArray) t129 t130 t131 _ ?side1 A2.out).mono ?_); (case side1 => exact Glob.below HG.out (by repeat (first | (with_reducible first | exact HB.out | apply below_alloc | apply pw_below_drewN | apply below_drew1) | exact HB.out))); rintro e w11 ⟨v132, rfl, ho0, hb⟩; refine ⟨_, rfl, ?_⟩; have n0_ := Aside0.mk (Kd.R_elder' (by (with_reducible repeat (first | apply Kd.R_alloc | apply Kd.R_drewN | apply Kd.R_drew)); exact HO128.out) (Kd.R_base ho0) hb); have n1_ := Aside0.mk (Kd.R_lower (Kd.R_new' ho0 (Kd.R_lt (by (with_reducible repeat (first | apply Kd.R_alloc | apply Kd.R_drewN | apply Kd.R_drew)); exact HO128.out))) (below_size (by repeat (first | (with_reducible first | exact HB.out | apply below_alloc | apply pw_below_drewN | apply below_drew1) | exact HB.out)))); have n2_ := Aside0.mk (below_step (by repeat (first | (with_reducible first | exact HB.out | apply below_alloc | apply pw_below_drewN | apply below_drew1) | exact HB.out)) hb); clear HO128; clear HB; have HO128 := n0_; have HO133 := n1_; have HB := n2_; clear n0_ n1_ n2_; (try clear hb); (try clear hb2); (try clear hk); (try clear hi); (try clear ho0); obtain ⟨Ao12, co12, eo12⟩ := Kd.R_slice HO128.out; subst eo12; have p134 : 0 ≤ (0 : Int) := (by omega); have q134 : 0 < (t124.length : Int) := of_decide_eq_true (by first | (with_reducible assumption) | assumption); obtain ⟨ad134, e134, hx134_0, hx134_1⟩ := at_T33 (Kd.R_reads' HO128.out).2.2 0 p134 q134; cases e134; have qi134 : (0 < t124.length) = True := eq_true (by omega); (try rw [show ((0 : Int)).toNat = 0 from rfl] at hx134_0); (try rw [show 0 * 2 = 0 from rfl] at hx134_0); (try rw [Addr.add_zero'] at hx134_0); (try rw [show ((0 : Int)).toNat = 0 from rfl] at hx134_1); (try rw [show 0 * 2 = 0 from rfl] at hx134_1); (try rw [Addr.add_zero'] at hx134_1); replace p134 := eq_true p134; replace q134 := eq_true q134) | ((with_reducible refine gate_dst (N := 37) rfl ?_); (try (refine gate_guard (by rfl) ?_; dsimp only)); refine Kd.R_lit Kd.string _ 9 ?hg (N := 37) ?hd (xs := ([(rd_T33 t124 0).f1] : List ByteArray)) (inner := [.string ((rd_T33 t124 0).f1)]) (ok := fun _ => True) (okp := fun _ => True) ?hr ?hp (fun _ hk => hk) trivial (Below.refl _ _) (Nat.le_refl _) (by simp) ?_; (case hd => rfl); (case hg => rfl); (case hr => first | (go_simp; done) | (go_simp; rfl)); (case hp => exact (Reps.one (show Kd.M Kd.string _ _ _ ((rd_T33 t124 0).f1) [.string ((rd_T33 t124 0).f1)] from rfl) (Reps.none _ _))); intro v136 w13 ho14 hb hg_ hnew_; clear hg_ hnew_; (first | rw [← Ny135.out] at ho14 | (simp only [Int.reduceToNat] at ho14; rw [← Ny135.out] at ho14)); have n0_ := Aside0.mk (Kd.R_below (by (with_reducible repeat (first | apply Kd.R_alloc | apply Kd.R_drewN | apply Kd.R_drew)); exact HO128.out) hb); have n1_ := Aside0.mk (Kd.R_below (by (with_reducible repeat (first | apply Kd.R_alloc | apply Kd.R_drewN | apply Kd.R_drew)); exact HO133.out) hb); have n2_ := Aside0.mk (Kd.R_lower ho14 (below_size (by repeat (first | (with_reducible first | exact HB.out | apply below_alloc | apply pw_below_drewN | apply below_drew1) | exact HB.out)))); have n3_ := Aside0.mk (below_step (by repeat (first | (with_reducible first | exact HB.out | apply below_alloc | apply pw_below_drewN | apply below_drew1) | exact HB.out)) hb); clear HO128; clear HO133; clear HB; have HO128 := n0_; have HO133 := n1_; have HO137 := n2_; have HB := n3_; clear n0_ n1_ n2_ n3_; clear hb ho14; obtain ⟨Ao15, co15, eo15⟩ := Kd.R_slice HO137.out; subst eo15) | (go_at_call 15; (with_reducible refine (mandolinelaw07_items.calls k _ _ y135 t138 _ ?side1 ?side2 A8.out).mono ?_); (case side1 => repeat (first | exact (Kd.R_reads' HO137.out).2.2 | (with_reducible refine Kd.C_alloc ?_ _) | (with_reducible refine Kd.C_drewN ?_ _) | (with_reducible refine Kd.C_drew ?_))); (case side2 => exact (Kd.R_reads' HO137.out).2.1); rintro e w16 ⟨v139, rfl, ho0, hb⟩; have n0_ := Aside0.mk (Kd.R_below (by (with_reducible repeat (first | apply Kd.R_alloc | apply Kd.R_drewN | apply Kd.R_drew)); exact HO128.out) hb); have n1_ := Aside0.mk (Kd.R_below (by (with_reducible repeat (first | apply Kd.R_alloc | apply Kd.R_drewN | apply Kd.R_drew)); exact HO133.out) hb); have n2_ := Aside0.mk (Kd.R_elder' (by (with_reducible repeat (first | apply Kd.R_alloc | apply Kd.R_drewN | apply Kd.R_drew)); exact HO137.out) (Kd.R_base ho0) hb); have n3_ := Aside0.mk (Kd.R_lower (Kd.R_new' ho0 (Kd.R_lt (by (with_reducible repeat (first | apply Kd.R_alloc | apply Kd.R_drewN | apply Kd.R_drew)); exact HO137.out))) (below_size (by repeat (first | (with_reducible first | exact HB.out | apply below_alloc | apply pw_below_drewN | apply below_drew1) | exact HB.out)))); have n4_ := Aside0.mk (below_step (by repeat (first | (with_reducible first | exact HB.out | apply below_alloc | apply pw_below_drewN | apply below_drew1) | exact HB.out)) hb); clear HO128; clear HO133; clear HO137; clear HB; have HO128 := n0_; have HO133 := n1_; have HO137 := n2_; have HO140 := n3_; have HB := n4_; clear n0_ n1_ n2_ n3_ n4_; (try clear hb); (try clear hb2); (try clear hk); (try clear hi); (try clear ho0)) | ((with_reducible refine gate_dst (N := 39) rfl ?_); (try (refine gate_guard (by rfl) ?_; dsimp only)); refine Kd.R_lit Kd.string _ 9 ?hg (N := 39) ?hd (xs := ([(⟨#[49]⟩ : ByteArray), (⟨#[34, 98, 44, 92, 34, 99, 34]⟩ : ByteArray), (⟨#[100]⟩ : ByteArray)] : List ByteArray)) (inner := [.string (⟨#[49]⟩ : ByteArray), .string (⟨#[34, 98, 44, 92, 34, 99, 34]⟩ : ByteArray), .string (⟨#[100]⟩ : ByteArray)]) (ok := fun _ => True) (okp := fun _ => True) ?hr ?hp (fun _ hk => hk) trivial (Below.refl _ _) (Nat.le_refl _) (by simp) ?_; (case hd => rfl); (case hg => rfl); (case hr => first | (go_simp; done) | (go_simp; rfl)); (case hp => exact (Reps.one (show Kd.M Kd.string _ _ _ (⟨#[49]⟩ : ByteArray) [.string (⟨#[49]⟩ : ByteArray)] from rfl) (Reps.one (show Kd.M Kd.string _ _ _ (⟨#[34, 98, 44, 92, 34, 99, 34]⟩ : ByteArray) [.string (⟨#[34, 98, 44, 92, 34, 99, 34]⟩ : ByteArray)] from rfl) (Reps.one (show Kd.M Kd.string _ _ _ (⟨#[100]⟩ : ByteArray) [.string (⟨#[100]⟩ : ByteArray)] from rfl) (Reps.none _ _))))); intro v142 w17 ho18 hb hg_ hnew_; clear hg_ hnew_; (first | rw [← Ny141.out] at ho18 | (simp only [Int.reduceToNat] at ho18; rw [← Ny141.out] at ho18)); have n0_ := Aside0.mk (Kd.R_below (by (with_reducible repeat (first | apply Kd.R_alloc | apply Kd.R_drewN | apply Kd.R_drew)); exact HO128.out) hb); have n1_ := Aside0.mk (Kd.R_below (by (with_reducible repeat (first | apply Kd.R_alloc | apply Kd.R_drewN | apply Kd.R_drew)); exact HO133.out) hb); have n2_ := Aside0.mk (Kd.R_elder' (by (with_reducible repeat (first | apply Kd.R_alloc | apply Kd.R_drewN | apply Kd.R_drew)); exact HO137.out) (Kd.R_base ho18) hb); have n3_ := Aside0.mk (Kd.R_elder' (by (with_reducible repeat (first | apply Kd.R_alloc | apply Kd.R_drewN | apply Kd.R_drew)); exact HO140.out) (Kd.R_base ho18) hb); have n4_ := Aside0.mk (Kd.R_lower (Kd.R_new' (Kd.R_new' ho18 (Kd.R_lt (by (with_reducible repeat (first | apply Kd.R_alloc | apply Kd.R_drewN | apply Kd.R_drew)); exact HO137.out))) (Kd.R_lt (by (with_reducible repeat (first | apply Kd.R_alloc | apply Kd.R_drewN | apply Kd.R_drew)); exact HO140.out))) (below_size (by repeat (first | (with_reducible first | exact HB.out | apply below_alloc | apply pw_below_drewN | apply below_drew1) | exact HB.out)))); have n5_ := Aside0.mk (below_step (by repeat (first | (with_reducible first | exact HB.out | apply below_alloc | apply pw_below_drewN | apply below_drew1) | exact HB.out)) hb); clear HO128; clear HO133; clear HO137; clear HO140; clear HB; have HO128 := n0_; have HO133 := n1_; have HO137 := n2_; have HO140 := n3_; have HO143 := n4_; have HB := n5_; clear n0_ n1_ n2_ n3_ n4_ n5_; clear hb ho18; obtain ⟨Ao19, co19, eo19⟩ := Kd.R_slice HO140.out; subst eo19; obtain ⟨Ao20, co20, eo20⟩ := Kd.R_slice HO143.out; subst eo20) | (go_at_call 14; (with_reducible refine (mandolineref07_Texts.calls k _ _ t138 _ _ y141 t144 _ ?side1 ?side2 ?side3 ?side4 A9.out).mono ?_); (case side1 => repeat (first | exact (Kd.R_reads' HO140.out).2.2 | (with_reducible refine Kd.C_alloc ?_ _) | (with_reducible refine Kd.C_drewN ?_ _) | (with_reducible refine Kd.C_drew ?_))); (case side2 => exact (Kd.R_reads' HO140.out).2.1); (case side3 => repeat (first | exact (Kd.R_reads' HO143.out).2.2 | (with_reducible refine Kd.C_alloc ?_ _) | (with_reducible refine Kd.C_drewN ?_ _) | (with_reducible refine Kd.C_drew ?_))); (case side4 => exact (Kd.R_reads' HO143.out).2.1); rintro e w' ⟨rfl, ⟨nd, rfl⟩⟩))
            go_ret
            exact ⟨by first | rfl | (simp [errW_none, errW_some] <;> rfl) | (simp [*, errW_none, errW_some] <;> rfl), by repeat (first | (with_reducible first | exact HB.out | apply below_alloc | apply pw_below_drewN | apply below_drew1) | exact HB.out)⟩
          · rw [if_neg c7] at H
            exact absurd H (by simp)
        · rw [if_neg c6] at H
          have c6b0 : (t131 == 2) = false := beq_eq_false_iff_ne.mpr c6
          have c6b1 : (t131 != 2) = true := bne_iff_ne.mpr c6
          obtain rfl := Option.some.inj H
          go_enter Tryd.func11, Tryd.ntmps11
          go_wp2_with (first | ((with_reducible refine gate_callee (f := 20) rfl ?_); refine goesL_ (some 8) rfl rfl Tryd.func20 (by kernel_rfl) rfl #[.string (⟨#[97, 58, 32, 49, 44, 32, 34, 98, 44, 92, 34, 99, 34, 32, 44, 44, 32, 100, 13, 10, 13, 10, 120]⟩ : ByteArray)] rfl (by (try simp only [List.map_toArray, List.map_cons, List.map_nil]); first | done | rfl | (simp only [List.length_drop, List.length_take]; rfl)) ?_; (with_reducible refine (field_Parse.calls k (⟨#[97, 58, 32, 49, 44, 32, 34, 98, 44, 92, 34, 99, 34, 32, 44, 44, 32, 100, 13, 10, 13, 10, 120]⟩ : ByteArray) t124 t125 t126 _ ?side1 A1.out).mono ?_); (case side1 => exact Glob.below HG.out (by repeat (first | (with_reducible first | exact HB.out | apply below_alloc | apply pw_below_drewN | apply below_drew1) | exact HB.out))); rintro e w21 ⟨v127, rfl, ho0, hb⟩; refine ⟨_, rfl, ?_⟩; have n0_ := Aside0.mk (Kd.R_lower ho0 (below_size (by repeat (first | (with_reducible first | exact HB.out | apply below_alloc | apply pw_below_drewN | apply below_drew1) | exact HB.out)))); have n1_ := Aside0.mk (below_step (by repeat (first | (with_reducible first | exact HB.out | apply below_alloc | apply pw_below_drewN | apply below_drew1) | exact HB.out)) hb); clear HB; have HO128 := n0_; have HB := n1_; clear n0_ n1_; (try clear hb); (try clear hb2); (try clear hk); (try clear hi); (try clear ho0)) | ((with_reducible refine gate_callee (f := 20) rfl ?_); refine goesL_ (some 13) rfl rfl Tryd.func20 (by kernel_rfl) rfl #[.string (⟨#[97, 32, 58, 32, 49, 13, 10, 13, 10]⟩ : ByteArray)] rfl (by (try simp only [List.map_toArray, List.map_cons, List.map_nil]); first | done | rfl | (simp only [List.length_drop, List.length_take]; rfl)) ?_; (with_reducible refine (field_Parse.calls k (⟨#[97, 32, 58, 32, 49, 13, 10, 13, 10]⟩ : ByteArray) t129 t130 t131 _ ?side1 A2.out).mono ?_); (case side1 => exact Glob.below HG.out (by repeat (first | (with_reducible first | exact HB.out | apply below_alloc | apply pw_below_drewN | apply below_drew1) | exact HB.out))); rintro e w22 ⟨v132, rfl, ho0, hb⟩; refine ⟨_, rfl, ?_⟩; have n0_ := Aside0.mk (Kd.R_elder' (by (with_reducible repeat (first | apply Kd.R_alloc | apply Kd.R_drewN | apply Kd.R_drew)); exact HO128.out) (Kd.R_base ho0) hb); have n1_ := Aside0.mk (Kd.R_lower (Kd.R_new' ho0 (Kd.R_lt (by (with_reducible repeat (first | apply Kd.R_alloc | apply Kd.R_drewN | apply Kd.R_drew)); exact HO128.out))) (below_size (by repeat (first | (with_reducible first | exact HB.out | apply below_alloc | apply pw_below_drewN | apply below_drew1) | exact HB.out)))); have n2_ := Aside0.mk (below_step (by repeat (first | (with_reducible first | exact HB.out | apply below_alloc | apply pw_below_drewN | apply below_drew1) | exact HB.out)) hb); clear HO128; clear HB; have HO128 := n0_; have HO133 := n1_; have HB := n2_; clear n0_ n1_ n2_; (try clear hb); (try clear hb2); (try clear hk); (try clear hi); (try clear ho0); obtain ⟨Ao23, co23, eo23⟩ := Kd.R_slice HO128.out; subst eo23))
          go_ret
          exact ⟨by first | rfl | (simp [errW_none, errW_some] <;> rfl) | (simp [*, errW_none, errW_some] <;> rfl), by repeat (first | (with_reducible first | exact HB.out | apply below_alloc | apply pw_below_drewN | apply below_drew1) | exact HB.out)⟩
      · rw [if_neg c5] at H
        have c5b0 : ((t124.length : Int) == 1) = false := beq_eq_false_iff_ne.mpr c5
        have c5b1 : ((t124.length : Int) != 1) = true := bne_iff_ne.mpr c5
        obtain rfl := Option.some.inj H
        go_enter Tryd.func11, Tryd.ntmps11
        go_wp2_with (first | ((with_reducible refine gate_callee (f := 20) rfl ?_); refine goesL_ (some 8) rfl rfl Tryd.func20 (by kernel_rfl) rfl #[.string (⟨#[97, 58, 32, 49, 44, 32, 34, 98, 44, 92, 34, 99, 34, 32, 44, 44, 32, 100, 13, 10, 13, 10, 120]⟩ : ByteArray)] rfl (by (try simp only [List.map_toArray, List.map_cons, List.map_nil]); first | done | rfl | (simp only [List.length_drop, List.length_take]; rfl)) ?_; (with_reducible refine (field_Parse.calls k (⟨#[97, 58, 32, 49, 44, 32, 34, 98, 44, 92, 34, 99, 34, 32, 44, 44, 32, 100, 13, 10, 13, 10, 120]⟩ : ByteArray) t124 t125 t126 _ ?side1 A1.out).mono ?_); (case side1 => exact Glob.below HG.out (by repeat (first | (with_reducible first | exact HB.out | apply below_alloc | apply pw_below_drewN | apply below_drew1) | exact HB.out))); rintro e w24 ⟨v127, rfl, ho0, hb⟩; refine ⟨_, rfl, ?_⟩; have n0_ := Aside0.mk (Kd.R_lower ho0 (below_size (by repeat (first | (with_reducible first | exact HB.out | apply below_alloc | apply pw_below_drewN | apply below_drew1) | exact HB.out)))); have n1_ := Aside0.mk (below_step (by repeat (first | (with_reducible first | exact HB.out | apply below_alloc | apply pw_below_drewN | apply below_drew1) | exact HB.out)) hb); clear HB; have HO128 := n0_; have HB := n1_; clear n0_ n1_; (try clear hb); (try clear hb2); (try clear hk); (try clear hi); (try clear ho0)) | ((with_reducible refine gate_callee (f := 20) rfl ?_); refine goesL_ (some 13) rfl rfl Tryd.func20 (by kernel_rfl) rfl #[.string (⟨#[97, 32, 58, 32, 49, 13, 10, 13, 10]⟩ : ByteArray)] rfl (by (try simp only [List.map_toArray, List.map_cons, List.map_nil]); first | done | rfl | (simp only [List.length_drop, List.length_take]; rfl)) ?_; (with_reducible refine (field_Parse.calls k (⟨#[97, 32, 58, 32, 49, 13, 10, 13, 10]⟩ : ByteArray) t129 t130 t131 _ ?side1 A2.out).mono ?_); (case side1 => exact Glob.below HG.out (by repeat (first | (with_reducible first | exact HB.out | apply below_alloc | apply pw_below_drewN | apply below_drew1) | exact HB.out))); rintro e w25 ⟨v132, rfl, ho0, hb⟩; refine ⟨_, rfl, ?_⟩; have n0_ := Aside0.mk (Kd.R_elder' (by (with_reducible repeat (first | apply Kd.R_alloc | apply Kd.R_drewN | apply Kd.R_drew)); exact HO128.out) (Kd.R_base ho0) hb); have n1_ := Aside0.mk (Kd.R_lower (Kd.R_new' ho0 (Kd.R_lt (by (with_reducible repeat (first | apply Kd.R_alloc | apply Kd.R_drewN | apply Kd.R_drew)); exact HO128.out))) (below_size (by repeat (first | (with_reducible first | exact HB.out | apply below_alloc | apply pw_below_drewN | apply below_drew1) | exact HB.out)))); have n2_ := Aside0.mk (below_step (by repeat (first | (with_reducible first | exact HB.out | apply below_alloc | apply pw_below_drewN | apply below_drew1) | exact HB.out)) hb); clear HO128; clear HB; have HO128 := n0_; have HO133 := n1_; have HB := n2_; clear n0_ n1_ n2_; (try clear hb); (try clear hb2); (try clear hk); (try clear hi); (try clear ho0); obtain ⟨Ao26, co26, eo26⟩ := Kd.R_slice HO128.out; subst eo26))
        go_ret
        exact ⟨by first | rfl | (simp [errW_none, errW_some] <;> rfl) | (simp [*, errW_none, errW_some] <;> rfl), by repeat (first | (with_reducible first | exact HB.out | apply below_alloc | apply pw_below_drewN | apply below_drew1) | exact HB.out)⟩
    · rw [if_neg c4] at H
      have c4b0 : (t125 == 22) = false := beq_eq_false_iff_ne.mpr c4
      have c4b1 : (t125 != 22) = true := bne_iff_ne.mpr c4
      obtain rfl := Option.some.inj H
      go_enter Tryd.func11, Tryd.ntmps11
      go_wp2_with (first | ((with_reducible refine gate_callee (f := 20) rfl ?_); refine goesL_ (some 8) rfl rfl Tryd.func20 (by kernel_rfl) rfl #[.string (⟨#[97, 58, 32, 49, 44, 32, 34, 98, 44, 92, 34, 99, 34, 32, 44, 44, 32, 100, 13, 10, 13, 10, 120]⟩ : ByteArray)] rfl (by (try simp only [List.map_toArray, List.map_cons, List.map_nil]); first | done | rfl | (simp only [List.length_drop, List.length_take]; rfl)) ?_; (with_reducible refine (field_Parse.calls k (⟨#[97, 58, 32, 49, 44, 32, 34, 98, 44, 92, 34, 99, 34, 32, 44, 44, 32, 100, 13, 10, 13, 10, 120]⟩ : ByteArray) t124 t125 t126 _ ?side1 A1.out).mono ?_); (case side1 => exact Glob.below HG.out (by repeat (first | (with_reducible first | exact HB.out | apply below_alloc | apply pw_below_drewN | apply below_drew1) | exact HB.out))); rintro e w27 ⟨v127, rfl, ho0, hb⟩; refine ⟨_, rfl, ?_⟩; have n0_ := Aside0.mk (Kd.R_lower ho0 (below_size (by repeat (first | (with_reducible first | exact HB.out | apply below_alloc | apply pw_below_drewN | apply below_drew1) | exact HB.out)))); have n1_ := Aside0.mk (below_step (by repeat (first | (with_reducible first | exact HB.out | apply below_alloc | apply pw_below_drewN | apply below_drew1) | exact HB.out)) hb); clear HB; have HO128 := n0_; have HB := n1_; clear n0_ n1_; (try clear hb); (try clear hb2); (try clear hk); (try clear hi); (try clear ho0)) | ((with_reducible refine gate_callee (f := 20) rfl ?_); refine goesL_ (some 13) rfl rfl Tryd.func20 (by kernel_rfl) rfl #[.string (⟨#[97, 32, 58, 32, 49, 13, 10, 13, 10]⟩ : ByteArray)] rfl (by (try simp only [List.map_toArray, List.map_cons, List.map_nil]); first | done | rfl | (simp only [List.length_drop, List.length_take]; rfl)) ?_; (with_reducible refine (field_Parse.calls k (⟨#[97, 32, 58, 32, 49, 13, 10, 13, 10]⟩ : ByteArray) t129 t130 t131 _ ?side1 A2.out).mono ?_); (case side1 => exact Glob.below HG.out (by repeat (first | (with_reducible first | exact HB.out | apply below_alloc | apply pw_below_drewN | apply below_drew1) | exact HB.out))); rintro e w28 ⟨v132, rfl, ho0, hb⟩; refine ⟨_, rfl, ?_⟩; have n0_ := Aside0.mk (Kd.R_elder' (by (with_reducible repeat (first | apply Kd.R_alloc | apply Kd.R_drewN | apply Kd.R_drew)); exact HO128.out) (Kd.R_base ho0) hb); have n1_ := Aside0.mk (Kd.R_lower (Kd.R_new' ho0 (Kd.R_lt (by (with_reducible repeat (first | apply Kd.R_alloc | apply Kd.R_drewN | apply Kd.R_drew)); exact HO128.out))) (below_size (by repeat (first | (with_reducible first | exact HB.out | apply below_alloc | apply pw_below_drewN | apply below_drew1) | exact HB.out)))); have n2_ := Aside0.mk (below_step (by repeat (first | (with_reducible first | exact HB.out | apply below_alloc | apply pw_below_drewN | apply below_drew1) | exact HB.out)) hb); clear HO128; clear HB; have HO128 := n0_; have HO133 := n1_; have HB := n2_; clear n0_ n1_ n2_; (try clear hb); (try clear hb2); (try clear hk); (try clear hi); (try clear ho0)))
      go_ret
      exact ⟨by first | rfl | (simp [errW_none, errW_some] <;> rfl) | (simp [*, errW_none, errW_some] <;> rfl), by repeat (first | (with_reducible first | exact HB.out | apply below_alloc | apply pw_below_drewN | apply below_drew1) | exact HB.out)⟩
  · rw [if_neg c3] at H
    have c3b0 : (t126 == 0) = false := beq_eq_false_iff_ne.mpr c3
    have c3b1 : (t126 != 0) = true := bne_iff_ne.mpr c3
    obtain rfl := Option.some.inj H
    go_enter Tryd.func11, Tryd.ntmps11
    go_wp2_with (first | ((with_reducible refine gate_callee (f := 20) rfl ?_); refine goesL_ (some 8) rfl rfl Tryd.func20 (by kernel_rfl) rfl #[.string (⟨#[97, 58, 32, 49, 44, 32, 34, 98, 44, 92, 34, 99, 34, 32, 44, 44, 32, 100, 13, 10, 13, 10, 120]⟩ : ByteArray)] rfl (by (try simp only [List.map_toArray, List.map_cons, List.map_nil]); first | done | rfl | (simp only [List.length_drop, List.length_take]; rfl)) ?_; (with_reducible refine (field_Parse.calls k (⟨#[97, 58, 32, 49, 44, 32, 34, 98, 44, 92, 34, 99, 34, 32, 44, 44, 32, 100, 13, 10, 13, 10, 120]⟩ : ByteArray) t124 t125 t126 _ ?side1 A1.out).mono ?_); (case side1 => exact Glob.below HG.out (by repeat (first | (with_reducible first | exact HB.out | apply below_alloc | apply pw_below_drewN | apply below_drew1) | exact HB.out))); rintro e w29 ⟨v127, rfl, ho0, hb⟩; refine ⟨_, rfl, ?_⟩; have n0_ := Aside0.mk (Kd.R_lower ho0 (below_size (by repeat (first | (with_reducible first | exact HB.out | apply below_alloc | apply pw_below_drewN | apply below_drew1) | exact HB.out)))); have n1_ := Aside0.mk (below_step (by repeat (first | (with_reducible first | exact HB.out | apply below_alloc | apply pw_below_drewN | apply below_drew1) | exact HB.out)) hb); clear HB; have HO128 := n0_; have HB := n1_; clear n0_ n1_; (try clear hb); (try clear hb2); (try clear hk); (try clear hi); (try clear ho0)) | ((with_reducible refine gate_callee (f := 20) rfl ?_); refine goesL_ (some 13) rfl rfl Tryd.func20 (by kernel_rfl) rfl #[.string (⟨#[97, 32, 58, 32, 49, 13, 10, 13, 10]⟩ : ByteArray)] rfl (by (try simp only [List.map_toArray, List.map_cons, List.map_nil]); first | done | rfl | (simp only [List.length_drop, List.length_take]; rfl)) ?_; (with_reducible refine (field_Parse.calls k (⟨#[97, 32, 58, 32, 49, 13, 10, 13, 10]⟩ : ByteArray) t129 t130 t131 _ ?side1 A2.out).mono ?_); (case side1 => exact Glob.below HG.out (by repeat (first | (with_reducible first | exact HB.out | apply below_alloc | apply pw_below_drewN | apply below_drew1) | exact HB.out))); rintro e w30 ⟨v132, rfl, ho0, hb⟩; refine ⟨_, rfl, ?_⟩; have n0_ := Aside0.mk (Kd.R_elder' (by (with_reducible repeat (first | apply Kd.R_alloc | apply Kd.R_drewN | apply Kd.R_drew)); exact HO128.out) (Kd.R_base ho0) hb); have n1_ := Aside0.mk (Kd.R_lower (Kd.R_new' ho0 (Kd.R_lt (by (with_reducible repeat (first | apply Kd.R_alloc | apply Kd.R_drewN | apply Kd.R_drew)); exact HO128.out))) (below_size (by repeat (first | (with_reducible first | exact HB.out | apply below_alloc | apply pw_below_drewN | apply below_drew1) | exact HB.out)))); have n2_ := Aside0.mk (below_step (by repeat (first | (with_reducible first | exact HB.out | apply below_alloc | apply pw_below_drewN | apply below_drew1) | exact HB.out)) hb); clear HO128; clear HB; have HO128 := n0_; have HO133 := n1_; have HB := n2_; clear n0_ n1_ n2_; (try clear hb); (try clear hb2); (try clear hk); (try clear hi); (try clear ho0)))
    go_ret
    exact ⟨by first | rfl | (simp [errW_none, errW_some] <;> rfl) | (simp [*, errW_none, errW_some] <;> rfl), by repeat (first | (with_reducible first | exact HB.out | apply below_alloc | apply pw_below_drewN | apply below_drew1) | exact HB.out)⟩

end Go.Proofs.YtcdjeofhhhffcaaDoor.X
