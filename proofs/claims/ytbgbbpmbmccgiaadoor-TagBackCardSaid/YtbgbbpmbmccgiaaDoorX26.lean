-- Printed by a program of this session (pp.py: the kit's print.py, run with contracts of its own) out of the translation. Not trusted: Lean checks it.
import Derived.Test.YtbgbbpmbmccgiaaDoorX0
import Derived.Test.YtbgbbpmbmccgiaaDoorX6
import Derived.Test.YtbgbbpmbmccgiaaDoorX9
import Derived.Test.YtbgbbpmbmccgiaaDoorX19
namespace Go.Proofs.YtbgbbpmbmccgiaaDoor.X
open Go.RowKit Go.Proofs.YtbgbbpmbmccgiaaDoorW.PrintWords Go.Proofs.YtbgbbpmbmccgiaaDoorW.PrintLast Go.Proofs.YtbgbbpmbmccgiaaDoorW.PrintMore
attribute [local go_sem] max2_int min2_int max_two min_two max_three min_three max_four min_four   -- for this text's walks alone
set_option linter.unusedVariables false
set_option linter.unusedSimpArgs false

/-! ### mandolinelaw05_TagBlanks: function 9 -/
mutual
def mandolinelaw05_TagBlanks.j0 : Nat → ByteArray → Int → Bool → Option (Bool)
  | 0, _, _, _ => none
  | k + 1, x0, x1, x21 => if x21 = true then ((mandolinelaw05_awake.f k).bind fun t334 => (some t334)) else ((tag_List.f k x0).bind fun bt335 => (if 1 + x0.size ≤ 9223372036854775807 then (if x0.size + 2 ≤ 9223372036854775807 then (if 1 + x0.size + 1 ≤ 9223372036854775807 then ((some (([(⟨#[32]⟩ : ByteArray) ++ x0, x0 ++ (⟨#[9, 32]⟩ : ByteArray), ((⟨#[9]⟩ : ByteArray) ++ x0) ++ (⟨#[32]⟩ : ByteArray)] : List ByteArray) : List ByteArray)).bind fun y340 => (if 0 ≤ (Int.tmod x1 3) then (if (Int.tmod x1 3) < (y340.length : Int) then ((tag_List.f k (rdOf ByteArray.empty y340 (Int.tmod x1 3))).bind fun bt344 => ((mandolineref05_Same.f k bt335.1 bt344.1).bind fun t349 => (if t349 = true then (if (bt335.2.1 != bt344.2.1) = true then (mandolinelaw05_TagBlanks.j1 k x0 bt335.1 bt335.2.1 bt335.2.2 true) else (mandolinelaw05_TagBlanks.j1 k x0 bt335.1 bt335.2.1 bt335.2.2 (bt335.2.2 != bt344.2.2))) else (mandolinelaw05_TagBlanks.j1 k x0 bt335.1 bt335.2.1 bt335.2.2 true)))) else (none)) else (none))) else (none)) else (none)) else (none)))
def mandolinelaw05_TagBlanks.j1 : Nat → ByteArray → List (S23) → Bool → Int → Bool → Option (Bool)
  | 0, _, _, _, _, _ => none
  | k + 1, x0, x5, x6, x7, x60 => if x60 = true then (some false) else (if x6 = true then (mandolinelaw05_TagBlanks.j2 k x0 x5 x7 true) else (mandolinelaw05_TagBlanks.j2 k x0 x5 x7 (x7 == 2)))
def mandolinelaw05_TagBlanks.j2 : Nat → ByteArray → List (S23) → Int → Bool → Option (Bool)
  | 0, _, _, _, _ => none
  | k + 1, x0, x5, x7, x65 => if x65 = true then (some true) else (if 1 + x0.size ≤ 9223372036854775807 then (if 1 + x0.size + 3 ≤ 9223372036854775807 then ((tag_List.f k (((⟨#[44]⟩ : ByteArray) ++ x0) ++ (⟨#[32, 44, 32]⟩ : ByteArray))).bind fun bt350 => ((mandolineref05_Same.f k x5 bt350.1).bind fun t355 => (if t355 = true then (if bt350.2.1 = true then (some false) else (some (bt350.2.2 == x7))) else (some false)))) else (none)) else (none))
end
def mandolinelaw05_TagBlanks.f (k : Nat) (a0 : ByteArray) (a1 : Int) : Option (Bool) := (mandolinelaw05_awake.f k).bind fun t333 => (if t333 = true then (mandolinelaw05_TagBlanks.j0 k a0 a1 (decide ((a0.size : Int) > 300))) else (mandolinelaw05_TagBlanks.j0 k a0 a1 true))
theorem mandolinelaw05_TagBlanks.mono_l : ∀ k, (∀ y0 y1 y2, LeO (mandolinelaw05_TagBlanks.j0 k y0 y1 y2) (mandolinelaw05_TagBlanks.j0 (k + 1) y0 y1 y2)) ∧ (∀ y0 y1 y2 y3 y4, LeO (mandolinelaw05_TagBlanks.j1 k y0 y1 y2 y3 y4) (mandolinelaw05_TagBlanks.j1 (k + 1) y0 y1 y2 y3 y4)) ∧ (∀ y0 y1 y2 y3, LeO (mandolinelaw05_TagBlanks.j2 k y0 y1 y2 y3) (mandolinelaw05_TagBlanks.j2 (k + 1) y0 y1 y2 y3))
  | 0 => ⟨fun _ _ _ r h => by simp [mandolinelaw05_TagBlanks.j0] at h, fun _ _ _ _ _ r h => by simp [mandolinelaw05_TagBlanks.j1] at h, fun _ _ _ _ r h => by simp [mandolinelaw05_TagBlanks.j2] at h⟩
  | k + 1 => by
    obtain ⟨ih0, ih1, ih2⟩ := mandolinelaw05_TagBlanks.mono_l k
    refine ⟨?_, ?_, ?_⟩
    · intro y0 y1 y2
      unfold mandolinelaw05_TagBlanks.j0
      repeat' first
      | (with_reducible exact ih0 _ _ _)
      | (with_reducible exact ih1 _ _ _ _ _)
      | (with_reducible exact ih2 _ _ _ _)
      | (with_reducible exact mandolinelaw05_awake.mono _)
      | (with_reducible exact mandolineref05_Same.mono _ _ _)
      | (with_reducible exact tag_List.mono _ _)
      | (with_reducible exact LeO.refl _)
      | (with_reducible exact LeO.none _)
      | (with_reducible refine LeO.ite ?_ ?_)
      | (with_reducible refine LeO.bind ?_ (fun _ => ?_))
      | exact ih0 _ _ _
      | exact ih1 _ _ _ _ _
      | exact ih2 _ _ _ _
      | exact mandolinelaw05_awake.mono _
      | exact mandolineref05_Same.mono _ _ _
      | exact tag_List.mono _ _
      | exact LeO.none _
      | refine LeO.ite ?_ ?_
      | refine LeO.bind ?_ (fun _ => ?_)
    · intro y0 y1 y2 y3 y4
      unfold mandolinelaw05_TagBlanks.j1
      repeat' first
      | (with_reducible exact ih0 _ _ _)
      | (with_reducible exact ih1 _ _ _ _ _)
      | (with_reducible exact ih2 _ _ _ _)
      | (with_reducible exact mandolinelaw05_awake.mono _)
      | (with_reducible exact mandolineref05_Same.mono _ _ _)
      | (with_reducible exact tag_List.mono _ _)
      | (with_reducible exact LeO.refl _)
      | (with_reducible exact LeO.none _)
      | (with_reducible refine LeO.ite ?_ ?_)
      | (with_reducible refine LeO.bind ?_ (fun _ => ?_))
      | exact ih0 _ _ _
      | exact ih1 _ _ _ _ _
      | exact ih2 _ _ _ _
      | exact mandolinelaw05_awake.mono _
      | exact mandolineref05_Same.mono _ _ _
      | exact tag_List.mono _ _
      | exact LeO.none _
      | refine LeO.ite ?_ ?_
      | refine LeO.bind ?_ (fun _ => ?_)
    · intro y0 y1 y2 y3
      unfold mandolinelaw05_TagBlanks.j2
      repeat' first
      | (with_reducible exact ih0 _ _ _)
      | (with_reducible exact ih1 _ _ _ _ _)
      | (with_reducible exact ih2 _ _ _ _)
      | (with_reducible exact mandolinelaw05_awake.mono _)
      | (with_reducible exact mandolineref05_Same.mono _ _ _)
      | (with_reducible exact tag_List.mono _ _)
      | (with_reducible exact LeO.refl _)
      | (with_reducible exact LeO.none _)
      | (with_reducible refine LeO.ite ?_ ?_)
      | (with_reducible refine LeO.bind ?_ (fun _ => ?_))
      | exact ih0 _ _ _
      | exact ih1 _ _ _ _ _
      | exact ih2 _ _ _ _
      | exact mandolinelaw05_awake.mono _
      | exact mandolineref05_Same.mono _ _ _
      | exact tag_List.mono _ _
      | exact LeO.none _
      | refine LeO.ite ?_ ?_
      | refine LeO.bind ?_ (fun _ => ?_)
theorem mandolinelaw05_TagBlanks.mono : ∀ a0 a1 k, LeO (mandolinelaw05_TagBlanks.f k a0 a1) (mandolinelaw05_TagBlanks.f (k + 1) a0 a1) := by
  intro a0 a1 k
  obtain ⟨ih0, ih1, ih2⟩ := mandolinelaw05_TagBlanks.mono_l k
  unfold mandolinelaw05_TagBlanks.f
  repeat' first
      | (with_reducible exact ih0 _ _ _)
      | (with_reducible exact ih1 _ _ _ _ _)
      | (with_reducible exact ih2 _ _ _ _)
      | (with_reducible exact mandolinelaw05_awake.mono _)
      | (with_reducible exact mandolineref05_Same.mono _ _ _)
      | (with_reducible exact tag_List.mono _ _)
      | (with_reducible exact LeO.refl _)
      | (with_reducible exact LeO.none _)
      | (with_reducible refine LeO.ite ?_ ?_)
      | (with_reducible refine LeO.bind ?_ (fun _ => ?_))
      | exact ih0 _ _ _
      | exact ih1 _ _ _ _ _
      | exact ih2 _ _ _ _
      | exact mandolinelaw05_awake.mono _
      | exact mandolineref05_Same.mono _ _ _
      | exact tag_List.mono _ _
      | exact LeO.none _
      | refine LeO.ite ?_ ?_
      | refine LeO.bind ?_ (fun _ => ?_)
set_option maxHeartbeats 8000000 in
set_option maxRecDepth 100000 in
theorem mandolinelaw05_TagBlanks.calls (k : Nat) (a0 : ByteArray) (a1 : Int) (r : Bool) (w : World) (h : mandolinelaw05_TagBlanks.f k a0 a1 = some r) :
    Calls Tryd.prog 9 #[.string a0, .int .u8 a1] w fun e w' => e = .returned (.bool r) ∧ Below w.heap.size w w' := by
  have HB := Aside0.mk (Below.refl w.heap.size w)
  have H : ((mandolinelaw05_awake.f k).bind fun t333 => (if t333 = true then (mandolinelaw05_TagBlanks.j0 k a0 a1 (decide ((a0.size : Int) > 300))) else (mandolinelaw05_TagBlanks.j0 k a0 a1 true))) = some r := h
  clear h
  have HC3 := Aside0.mk H
  clear H
  go_enter Tryd.func9, Tryd.ntmps9
  go_upto_region 1 with (fail)
  go_cut [21] (fun v21 wc => ∃ (kq : Nat) (x21_2 : Bool), v21 = .bool x21_2 ∧ Aside0 (mandolinelaw05_TagBlanks.j0 kq a0 a1 x21_2 = some r) ∧ Aside0 (kq ≤ k) ∧ Aside0 (Below w.heap.size w wc))
  case first =>
    have H := HC3.out
    clear HC3
    replace H := Option.bind_eq_some_iff.mp H
    obtain ⟨t333, A40, H⟩ := H
    replace H : (if t333 = true then (mandolinelaw05_TagBlanks.j0 k a0 a1 (decide ((a0.size : Int) > 300))) else (mandolinelaw05_TagBlanks.j0 k a0 a1 true)) = some r := H
    have A4 := Aside0.mk A40
    clear A40
    by_cases c5 : t333 = true
    · subst c5
      have H1 : (mandolinelaw05_TagBlanks.j0 k a0 a1 (decide ((a0.size : Int) > 300))) = some r := by rw [if_pos rfl] at H; exact H
      clear H
      have H := H1
      clear H1
      have H' := Aside0.mk H
      clear H
      go_wp2_with (first | ((with_reducible refine gate_callee (f := 10) rfl ?_); refine goesL_ (some 15) rfl rfl Tryd.func10 (by kernel_rfl) rfl #[] rfl (by (try simp only [List.map_toArray, List.map_cons, List.map_nil]); first | done | rfl | (simp only [List.length_drop, List.length_take]; rfl)) ?_; (with_reducible refine (mandolinelaw05_awake.calls k  true _ A4.out).mono ?_); rintro e w6 ⟨rfl, hb⟩; refine ⟨_, rfl, ?_⟩; have n0_ := Aside0.mk (below_step (by repeat (first | (with_reducible first | exact HB.out | apply below_alloc | apply pw_below_drewN | apply below_drew1) | exact HB.out)) hb); clear HB; have HB := n0_; clear n0_; (try clear hb); (try clear hb2); (try clear hk); (try clear hi)))
      go_meet
      case rel => exact ⟨_, (decide ((a0.size : Int) > 300)), (by first | rfl | (simp; done) | (simp [*]; done)), H', ⟨by first | omega | exact Nat.le_refl _⟩, ⟨by repeat (first | (with_reducible first | exact HB.out | apply below_alloc | apply pw_below_drewN | apply below_drew1) | exact HB.out)⟩⟩
    · replace c5 := Bool.eq_false_iff.mpr c5
      subst c5
      have H1 : (mandolinelaw05_TagBlanks.j0 k a0 a1 true) = some r := by rw [if_neg (show ¬ (false = true) by decide)] at H; exact H
      clear H
      have H := H1
      clear H1
      have H' := Aside0.mk H
      clear H
      go_wp2_with (first | ((with_reducible refine gate_callee (f := 10) rfl ?_); refine goesL_ (some 15) rfl rfl Tryd.func10 (by kernel_rfl) rfl #[] rfl (by (try simp only [List.map_toArray, List.map_cons, List.map_nil]); first | done | rfl | (simp only [List.length_drop, List.length_take]; rfl)) ?_; (with_reducible refine (mandolinelaw05_awake.calls k  false _ A4.out).mono ?_); rintro e w7 ⟨rfl, hb⟩; refine ⟨_, rfl, ?_⟩; have n0_ := Aside0.mk (below_step (by repeat (first | (with_reducible first | exact HB.out | apply below_alloc | apply pw_below_drewN | apply below_drew1) | exact HB.out)) hb); clear HB; have HB := n0_; clear n0_; (try clear hb); (try clear hb2); (try clear hk); (try clear hi)))
      go_meet
      case rel => exact ⟨_, (true), (by first | rfl | (simp; done) | (simp [*]; done)), H', ⟨by first | omega | exact Nat.le_refl _⟩, ⟨by repeat (first | (with_reducible first | exact HB.out | apply below_alloc | apply pw_below_drewN | apply below_drew1) | exact HB.out)⟩⟩
  case rest =>
    clear HC3
    try clear c1
    try clear p2
    try clear c5
    obtain ⟨kq, x21_2, rfl, HA, HJ2, HB⟩ := hcut
    cases kq with
    | zero => exact absurd HA.out (by simp [mandolinelaw05_TagBlanks.j0])
    | succ kj2 =>
      have H := HA.out
      clear HA
      simp only [mandolinelaw05_TagBlanks.j0] at H
      by_cases c8 : x21_2 = true
      · subst c8
        have H1 : ((mandolinelaw05_awake.f kj2).bind fun t334 => (some t334)) = some r := by rw [if_pos rfl] at H; exact H
        clear H
        have H := H1
        clear H1
        replace H := Option.bind_eq_some_iff.mp H
        obtain ⟨t334, A90, H⟩ := H
        replace H : (some t334) = some r := H
        have A9 := Aside0.mk A90
        clear A90
        obtain rfl := Option.some.inj H
        go_wp2_with (first | ((with_reducible refine gate_callee (f := 10) rfl ?_); refine goesL_ (some 22) rfl rfl Tryd.func10 (by kernel_rfl) rfl #[] rfl (by (try simp only [List.map_toArray, List.map_cons, List.map_nil]); first | done | rfl | (simp only [List.length_drop, List.length_take]; rfl)) ?_; (with_reducible refine (mandolinelaw05_awake.calls kj2  t334 _ A9.out).mono ?_); rintro e w10 ⟨rfl, hb⟩; refine ⟨_, rfl, ?_⟩; have n0_ := Aside0.mk (below_step (by repeat (first | (with_reducible first | exact HB.out | apply below_alloc | apply pw_below_drewN | apply below_drew1) | exact HB.out)) hb); clear HB; have HB := n0_; clear n0_; (try clear hb); (try clear hb2); (try clear hk); (try clear hi)))
        go_ret
        exact ⟨by first | rfl | (simp [errW_none, errW_some] <;> rfl) | (simp [*, errW_none, errW_some] <;> rfl), by repeat (first | (with_reducible first | exact HB.out | apply below_alloc | apply pw_below_drewN | apply below_drew1) | exact HB.out)⟩
      · replace c8 := Bool.eq_false_iff.mpr c8
        subst c8
        have H1 : ((tag_List.f kj2 a0).bind fun bt335 => (if 1 + a0.size ≤ 9223372036854775807 then (if a0.size + 2 ≤ 9223372036854775807 then (if 1 + a0.size + 1 ≤ 9223372036854775807 then ((some (([(⟨#[32]⟩ : ByteArray) ++ a0, a0 ++ (⟨#[9, 32]⟩ : ByteArray), ((⟨#[9]⟩ : ByteArray) ++ a0) ++ (⟨#[32]⟩ : ByteArray)] : List ByteArray) : List ByteArray)).bind fun y340 => (if 0 ≤ (Int.tmod a1 3) then (if (Int.tmod a1 3) < (y340.length : Int) then ((tag_List.f kj2 (rdOf ByteArray.empty y340 (Int.tmod a1 3))).bind fun bt344 => ((mandolineref05_Same.f kj2 bt335.1 bt344.1).bind fun t349 => (if t349 = true then (if (bt335.2.1 != bt344.2.1) = true then (mandolinelaw05_TagBlanks.j1 kj2 a0 bt335.1 bt335.2.1 bt335.2.2 true) else (mandolinelaw05_TagBlanks.j1 kj2 a0 bt335.1 bt335.2.1 bt335.2.2 (bt335.2.2 != bt344.2.2))) else (mandolinelaw05_TagBlanks.j1 kj2 a0 bt335.1 bt335.2.1 bt335.2.2 true)))) else (none)) else (none))) else (none)) else (none)) else (none))) = some r := by rw [if_neg (show ¬ (false = true) by decide)] at H; exact H
        clear H
        have H := H1
        clear H1
        replace H := Option.bind_eq_some_iff.mp H
        obtain ⟨⟨t335, t336, t337⟩, A110, H⟩ := H
        replace H : (if 1 + a0.size ≤ 9223372036854775807 then (if a0.size + 2 ≤ 9223372036854775807 then (if 1 + a0.size + 1 ≤ 9223372036854775807 then ((some (([(⟨#[32]⟩ : ByteArray) ++ a0, a0 ++ (⟨#[9, 32]⟩ : ByteArray), ((⟨#[9]⟩ : ByteArray) ++ a0) ++ (⟨#[32]⟩ : ByteArray)] : List ByteArray) : List ByteArray)).bind fun y340 => (if 0 ≤ (Int.tmod a1 3) then (if (Int.tmod a1 3) < (y340.length : Int) then ((tag_List.f kj2 (rdOf ByteArray.empty y340 (Int.tmod a1 3))).bind fun bt344 => ((mandolineref05_Same.f kj2 t335 bt344.1).bind fun t349 => (if t349 = true then (if (t336 != bt344.2.1) = true then (mandolinelaw05_TagBlanks.j1 kj2 a0 t335 t336 t337 true) else (mandolinelaw05_TagBlanks.j1 kj2 a0 t335 t336 t337 (t337 != bt344.2.2))) else (mandolinelaw05_TagBlanks.j1 kj2 a0 t335 t336 t337 true)))) else (none)) else (none))) else (none)) else (none)) else (none)) = some r := H
        have A11 := Aside0.mk A110
        clear A110
        by_cases c12 : 1 + a0.size ≤ 9223372036854775807
        · rw [if_pos c12] at H
          have c12b0 := eq_true c12
          have c12b1 : decide (1 + a0.size ≤ 9223372036854775807) = true := decide_eq_true c12
          try have c12b2 : (9223372036854775807 < 1 + a0.size) = False := eq_false (Nat.not_lt.2 c12)
          by_cases c13 : a0.size + 2 ≤ 9223372036854775807
          · rw [if_pos c13] at H
            have c13b0 := eq_true c13
            have c13b1 : decide (a0.size + 2 ≤ 9223372036854775807) = true := decide_eq_true c13
            try have c13b2 : (9223372036854775807 < a0.size + 2) = False := eq_false (Nat.not_lt.2 c13)
            by_cases c14 : 1 + a0.size + 1 ≤ 9223372036854775807
            · rw [if_pos c14] at H
              have c14b0 := eq_true c14
              have c14b1 : decide (1 + a0.size + 1 ≤ 9223372036854775807) = true := decide_eq_true c14
              try have c14b2 : (9223372036854775807 < 1 + a0.size + 1) = False := eq_false (Nat.not_lt.2 c14)
              obtain ⟨y340, hy340⟩ : ∃ y_ : List ByteArray, y_ = (([(⟨#[32]⟩ : ByteArray) ++ a0, a0 ++ (⟨#[9, 32]⟩ : ByteArray), ((⟨#[9]⟩ : ByteArray) ++ a0) ++ (⟨#[32]⟩ : ByteArray)] : List ByteArray)) := ⟨_, rfl⟩
              replace H : (if 0 ≤ (Int.tmod a1 3) then (if (Int.tmod a1 3) < (y340.length : Int) then ((tag_List.f kj2 (rdOf ByteArray.empty y340 (Int.tmod a1 3))).bind fun bt344 => ((mandolineref05_Same.f kj2 t335 bt344.1).bind fun t349 => (if t349 = true then (if (t336 != bt344.2.1) = true then (mandolinelaw05_TagBlanks.j1 kj2 a0 t335 t336 t337 true) else (mandolinelaw05_TagBlanks.j1 kj2 a0 t335 t336 t337 (t337 != bt344.2.2))) else (mandolinelaw05_TagBlanks.j1 kj2 a0 t335 t336 t337 true)))) else (none)) else (none)) = some r := by first | (rw [hy340]; with_reducible exact H) | (have H2_ := (Option.bind_some _ _).symm.trans H; rw [hy340]; with_reducible exact H2_) | (have H2_ := (Option.bind_some _ _).symm.trans H; with_reducible exact H2_) | with_reducible exact H | (rw [hy340]; exact H) | exact H
              have Ny340 := Aside0.mk hy340
              clear hy340
              obtain ⟨ji15, hji15⟩ : ∃ j_ : Int, (Int.tmod a1 3) = j_ := ⟨_, rfl⟩
              replace H : (if 0 ≤ (ji15) then (if (ji15) < (y340.length : Int) then ((tag_List.f kj2 (rdOf ByteArray.empty y340 (ji15))).bind fun bt344 => ((mandolineref05_Same.f kj2 t335 bt344.1).bind fun t349 => (if t349 = true then (if (t336 != bt344.2.1) = true then (mandolinelaw05_TagBlanks.j1 kj2 a0 t335 t336 t337 true) else (mandolinelaw05_TagBlanks.j1 kj2 a0 t335 t336 t337 (t337 != bt344.2.2))) else (mandolinelaw05_TagBlanks.j1 kj2 a0 t335 t336 t337 true)))) else (none)) else (none)) = some r := by first | (rw [hji15] at H; exact H) | (simp only [hji15] at H ⊢; exact H)
              (try rw [hji15] at A11)
              by_cases c16 : 0 ≤ (ji15)
              · rw [if_pos c16] at H
                have c16b0 : decide (0 ≤ (ji15)) = true := decide_eq_true c16
                clear c16
                by_cases c17 : (ji15) < (y340.length : Int)
                · rw [if_pos c17] at H
                  have c17b0 : decide ((ji15) < (y340.length : Int)) = true := decide_eq_true c17
                  clear c17
                  replace H := Option.bind_eq_some_iff.mp H
                  obtain ⟨⟨t344, t345, t346⟩, A180, H⟩ := H
                  replace H : ((mandolineref05_Same.f kj2 t335 t344).bind fun t349 => (if t349 = true then (if (t336 != t345) = true then (mandolinelaw05_TagBlanks.j1 kj2 a0 t335 t336 t337 true) else (mandolinelaw05_TagBlanks.j1 kj2 a0 t335 t336 t337 (t337 != t346))) else (mandolinelaw05_TagBlanks.j1 kj2 a0 t335 t336 t337 true))) = some r := H
                  have A18 := Aside0.mk A180
                  clear A180
                  have HC19 := Aside0.mk H
                  clear H
                  go_upto_region 6 with (first | ((with_reducible refine gate_callee (f := 20) rfl ?_); refine goesL_ (some 25) rfl rfl Tryd.func20 (by kernel_rfl) rfl #[.string a0] rfl (by (try simp only [List.map_toArray, List.map_cons, List.map_nil]); first | done | rfl | (simp only [List.length_drop, List.length_take]; rfl)) ?_; (with_reducible refine (tag_List.calls kj2 a0 t335 t336 t337 _ A11.out).mono ?_); rintro e w20 ⟨v338, rfl, ho0, hb⟩; refine ⟨_, rfl, ?_⟩; have n0_ := Aside0.mk (Kd.R_lower ho0 (below_size (by repeat (first | (with_reducible first | exact HB.out | apply below_alloc | apply pw_below_drewN | apply below_drew1) | exact HB.out)))); have n1_ := Aside0.mk (below_step (by repeat (first | (with_reducible first | exact HB.out | apply below_alloc | apply pw_below_drewN | apply below_drew1) | exact HB.out)) hb); clear HB; have HO339 := n0_; have HB := n1_; clear n0_ n1_; (try clear hb); (try clear hb2); (try clear hk); (try clear hi); (try clear ho0)) | ((with_reducible refine gate_dst (N := 36) rfl ?_); (try (refine gate_guard (by rfl) ?_; dsimp only)); refine Kd.R_lit Kd.string _ 9 ?hg (N := 36) ?hd (xs := ([(⟨#[32]⟩ : ByteArray) ++ a0, a0 ++ (⟨#[9, 32]⟩ : ByteArray), ((⟨#[9]⟩ : ByteArray) ++ a0) ++ (⟨#[32]⟩ : ByteArray)] : List ByteArray)) (inner := [.string ((⟨#[32]⟩ : ByteArray) ++ a0), .string (a0 ++ (⟨#[9, 32]⟩ : ByteArray)), .string (((⟨#[9]⟩ : ByteArray) ++ a0) ++ (⟨#[32]⟩ : ByteArray))]) (ok := fun _ => True) (okp := fun _ => True) ?hr ?hp (fun _ hk => hk) trivial (Below.refl _ _) (Nat.le_refl _) (by simp) ?_; (case hd => rfl); (case hg => rfl); (case hr => first | (go_simp; done) | (go_simp; rfl)); (case hp => exact (Reps.one (show Kd.M Kd.string _ _ _ ((⟨#[32]⟩ : ByteArray) ++ a0) [.string ((⟨#[32]⟩ : ByteArray) ++ a0)] from rfl) (Reps.one (show Kd.M Kd.string _ _ _ (a0 ++ (⟨#[9, 32]⟩ : ByteArray)) [.string (a0 ++ (⟨#[9, 32]⟩ : ByteArray))] from rfl) (Reps.one (show Kd.M Kd.string _ _ _ (((⟨#[9]⟩ : ByteArray) ++ a0) ++ (⟨#[32]⟩ : ByteArray)) [.string (((⟨#[9]⟩ : ByteArray) ++ a0) ++ (⟨#[32]⟩ : ByteArray))] from rfl) (Reps.none _ _))))); intro v341 w21 ho22 hb hg_ hnew_; clear hg_ hnew_; (first | rw [← Ny340.out] at ho22 | (simp only [Int.reduceToNat] at ho22; rw [← Ny340.out] at ho22)); have n0_ := Aside0.mk (Kd.R_below (by (with_reducible repeat (first | apply Kd.R_alloc | apply Kd.R_drewN | apply Kd.R_drew)); exact HO339.out) hb); have n1_ := Aside0.mk (Kd.R_lower ho22 (below_size (by repeat (first | (with_reducible first | exact HB.out | apply below_alloc | apply pw_below_drewN | apply below_drew1) | exact HB.out)))); have n2_ := Aside0.mk (below_step (by repeat (first | (with_reducible first | exact HB.out | apply below_alloc | apply pw_below_drewN | apply below_drew1) | exact HB.out)) hb); clear HO339; clear HB; have HO339 := n0_; have HO342 := n1_; have HB := n2_; clear n0_ n1_ n2_; clear hb ho22; obtain ⟨Ao23, co23, eo23⟩ := Kd.R_slice HO342.out; subst eo23; have p343 : 0 ≤ ((ji15) : Int) := of_decide_eq_true (by first | (with_reducible assumption) | assumption); have q343 : (ji15) < (y340.length : Int) := of_decide_eq_true (by first | (with_reducible assumption) | assumption); obtain ⟨ad343, e343, hx343_0⟩ := Kd.at_string (Kd.R_reads' HO342.out).2.2 (ji15) p343 q343; cases e343; replace p343 := eq_true p343; replace q343 := eq_true q343) | ((with_reducible refine gate_callee (f := 20) rfl ?_); refine goesL_ (some 43) rfl rfl Tryd.func20 (by kernel_rfl) rfl #[.string (rdOf ByteArray.empty y340 (ji15))] rfl (by (try simp only [List.map_toArray, List.map_cons, List.map_nil]); first | done | (simp only [hji15]; rfl) | rfl | (simp only [List.length_drop, List.length_take]; rfl)) ?_; (with_reducible refine (tag_List.calls kj2 (rdOf ByteArray.empty y340 (ji15)) t344 t345 t346 _ A18.out).mono ?_); rintro e w24 ⟨v347, rfl, ho0, hb⟩; refine ⟨_, rfl, ?_⟩; have n0_ := Aside0.mk (Kd.R_elder' (by (with_reducible repeat (first | apply Kd.R_alloc | apply Kd.R_drewN | apply Kd.R_drew)); exact HO339.out) (Kd.R_base ho0) hb); have n1_ := Aside0.mk (Kd.R_below (by (with_reducible repeat (first | apply Kd.R_alloc | apply Kd.R_drewN | apply Kd.R_drew)); exact HO342.out) hb); have n2_ := Aside0.mk (Kd.R_lower (Kd.R_new' ho0 (Kd.R_lt (by (with_reducible repeat (first | apply Kd.R_alloc | apply Kd.R_drewN | apply Kd.R_drew)); exact HO339.out))) (below_size (by repeat (first | (with_reducible first | exact HB.out | apply below_alloc | apply pw_below_drewN | apply below_drew1) | exact HB.out)))); have n3_ := Aside0.mk (below_step (by repeat (first | (with_reducible first | exact HB.out | apply below_alloc | apply pw_below_drewN | apply below_drew1) | exact HB.out)) hb); clear HO339; clear HO342; clear HB; have HO339 := n0_; have HO342 := n1_; have HO348 := n2_; have HB := n3_; clear n0_ n1_ n2_ n3_; (try clear hb); (try clear hb2); (try clear hk); (try clear hi); (try clear ho0)))
                  (try simp only [Act.put, List.setIfInBounds_toArray, List.set_cons_zero, List.set_cons_succ])
                  go_cut [60] (fun v60 wc => ∃ (kq : Nat) (x60_18 : Bool), v60 = .bool x60_18 ∧ Aside0 (mandolinelaw05_TagBlanks.j1 kq a0 t335 t336 t337 x60_18 = some r) ∧ Aside0 (kq ≤ kj2) ∧ Aside0 (Kd.R k23 23 wc w.heap.size (fun _ => True) v338 t335) ∧ Aside0 (Below w.heap.size w wc))
                  case first =>
                    have H := HC19.out
                    clear HC19
                    replace H := Option.bind_eq_some_iff.mp H
                    obtain ⟨t349, A250, H⟩ := H
                    replace H : (if t349 = true then (if (t336 != t345) = true then (mandolinelaw05_TagBlanks.j1 kj2 a0 t335 t336 t337 true) else (mandolinelaw05_TagBlanks.j1 kj2 a0 t335 t336 t337 (t337 != t346))) else (mandolinelaw05_TagBlanks.j1 kj2 a0 t335 t336 t337 true)) = some r := H
                    have A25 := Aside0.mk A250
                    clear A250
                    by_cases c26 : t349 = true
                    · subst c26
                      have H1 : (if (t336 != t345) = true then (mandolinelaw05_TagBlanks.j1 kj2 a0 t335 t336 t337 true) else (mandolinelaw05_TagBlanks.j1 kj2 a0 t335 t336 t337 (t337 != t346))) = some r := by rw [if_pos rfl] at H; exact H
                      clear H
                      have H := H1
                      clear H1
                      by_cases c27 : (t336 != t345) = true
                      · rw [if_pos c27] at H
                        have c27b0 : (t336 != t345) = true := c27
                        (try (have c27b1 : decide (t336 = t345) = false := by simpa using c27))
                        (try (have c27b2 : (t336 == t345) = false := by simpa using c27))
                        (try (have c27b3 : ¬ (t336 = t345) := by simpa using c27))
                        clear c27
                        (first | rw [c27b0] | (simp only [i64_w, i32_w]; rw [c27b0]) | skip)
                        have H' := Aside0.mk H
                        clear H
                        obtain ⟨Ao28, co28, eo28⟩ := Kd.R_slice HO339.out
                        subst eo28
                        obtain ⟨Ao29, co29, eo29⟩ := Kd.R_slice HO348.out
                        subst eo29
                        go_wp2_with (first | ((with_reducible refine gate_callee (f := 22) rfl ?_); refine goesL_ (some 49) rfl rfl Tryd.func22 (by kernel_rfl) rfl #[.slice Ao28 t335.length co28, .slice Ao29 t344.length co29] rfl (by (try simp only [List.map_toArray, List.map_cons, List.map_nil]); first | done | rfl | (simp only [List.length_drop, List.length_take]; rfl)) ?_; (with_reducible refine (mandolineref05_Same.calls kj2 _ _ t335 _ _ t344 true _ ?side1 ?side2 ?side3 ?side4 A25.out).mono ?_); (case side1 => repeat (first | exact (Kd.R_reads' HO339.out).2.2 | (with_reducible refine Kd.C_alloc ?_ _) | (with_reducible refine Kd.C_drewN ?_ _) | (with_reducible refine Kd.C_drew ?_))); (case side2 => exact (Kd.R_reads' HO339.out).2.1); (case side3 => repeat (first | exact (Kd.R_reads' HO348.out).2.2 | (with_reducible refine Kd.C_alloc ?_ _) | (with_reducible refine Kd.C_drewN ?_ _) | (with_reducible refine Kd.C_drew ?_))); (case side4 => exact (Kd.R_reads' HO348.out).2.1); rintro e w' ⟨rfl, ⟨nd, rfl⟩⟩; refine ⟨_, rfl, ?_⟩))
                        go_meet
                        case rel => exact ⟨_, (true), (by first | rfl | (simp; done) | (simp [*]; done)), H', ⟨by have := HJ2.out; first | omega | exact Nat.le_refl _⟩, ⟨by (with_reducible repeat (first | apply Kd.R_alloc | apply Kd.R_drewN | apply Kd.R_drew)); exact Kd.R_mono HO339.out (fun _ hk => trivial)⟩, ⟨by repeat (first | (with_reducible first | exact HB.out | apply below_alloc | apply pw_below_drewN | apply below_drew1) | exact HB.out)⟩⟩
                      · rw [if_neg c27] at H
                        have c27b0 : (t336 != t345) = false := by simpa using c27
                        (try (have c27b1 : decide (t336 = t345) = true := by simpa using c27))
                        (try (have c27b2 : (t336 == t345) = true := by simpa using c27))
                        clear c27
                        (first | rw [c27b0] | (simp only [i64_w, i32_w]; rw [c27b0]) | skip)
                        have H' := Aside0.mk H
                        clear H
                        obtain ⟨Ao30, co30, eo30⟩ := Kd.R_slice HO339.out
                        subst eo30
                        obtain ⟨Ao31, co31, eo31⟩ := Kd.R_slice HO348.out
                        subst eo31
                        go_wp2_with (first | ((with_reducible refine gate_callee (f := 22) rfl ?_); refine goesL_ (some 49) rfl rfl Tryd.func22 (by kernel_rfl) rfl #[.slice Ao30 t335.length co30, .slice Ao31 t344.length co31] rfl (by (try simp only [List.map_toArray, List.map_cons, List.map_nil]); first | done | rfl | (simp only [List.length_drop, List.length_take]; rfl)) ?_; (with_reducible refine (mandolineref05_Same.calls kj2 _ _ t335 _ _ t344 true _ ?side1 ?side2 ?side3 ?side4 A25.out).mono ?_); (case side1 => repeat (first | exact (Kd.R_reads' HO339.out).2.2 | (with_reducible refine Kd.C_alloc ?_ _) | (with_reducible refine Kd.C_drewN ?_ _) | (with_reducible refine Kd.C_drew ?_))); (case side2 => exact (Kd.R_reads' HO339.out).2.1); (case side3 => repeat (first | exact (Kd.R_reads' HO348.out).2.2 | (with_reducible refine Kd.C_alloc ?_ _) | (with_reducible refine Kd.C_drewN ?_ _) | (with_reducible refine Kd.C_drew ?_))); (case side4 => exact (Kd.R_reads' HO348.out).2.1); rintro e w' ⟨rfl, ⟨nd, rfl⟩⟩; refine ⟨_, rfl, ?_⟩))
                        go_meet
                        case rel => exact ⟨_, ((t337 != t346)), (by first | rfl | (simp; done) | (simp [*]; done)), H', ⟨by have := HJ2.out; first | omega | exact Nat.le_refl _⟩, ⟨by (with_reducible repeat (first | apply Kd.R_alloc | apply Kd.R_drewN | apply Kd.R_drew)); exact Kd.R_mono HO339.out (fun _ hk => trivial)⟩, ⟨by repeat (first | (with_reducible first | exact HB.out | apply below_alloc | apply pw_below_drewN | apply below_drew1) | exact HB.out)⟩⟩
                    · replace c26 := Bool.eq_false_iff.mpr c26
                      subst c26
                      have H1 : (mandolinelaw05_TagBlanks.j1 kj2 a0 t335 t336 t337 true) = some r := by rw [if_neg (show ¬ (false = true) by decide)] at H; exact H
                      clear H
                      have H := H1
                      clear H1
                      have H' := Aside0.mk H
                      clear H
                      obtain ⟨Ao32, co32, eo32⟩ := Kd.R_slice HO339.out
                      subst eo32
                      obtain ⟨Ao33, co33, eo33⟩ := Kd.R_slice HO348.out
                      subst eo33
                      go_wp2_with (first | ((with_reducible refine gate_callee (f := 22) rfl ?_); refine goesL_ (some 49) rfl rfl Tryd.func22 (by kernel_rfl) rfl #[.slice Ao32 t335.length co32, .slice Ao33 t344.length co33] rfl (by (try simp only [List.map_toArray, List.map_cons, List.map_nil]); first | done | rfl | (simp only [List.length_drop, List.length_take]; rfl)) ?_; (with_reducible refine (mandolineref05_Same.calls kj2 _ _ t335 _ _ t344 false _ ?side1 ?side2 ?side3 ?side4 A25.out).mono ?_); (case side1 => repeat (first | exact (Kd.R_reads' HO339.out).2.2 | (with_reducible refine Kd.C_alloc ?_ _) | (with_reducible refine Kd.C_drewN ?_ _) | (with_reducible refine Kd.C_drew ?_))); (case side2 => exact (Kd.R_reads' HO339.out).2.1); (case side3 => repeat (first | exact (Kd.R_reads' HO348.out).2.2 | (with_reducible refine Kd.C_alloc ?_ _) | (with_reducible refine Kd.C_drewN ?_ _) | (with_reducible refine Kd.C_drew ?_))); (case side4 => exact (Kd.R_reads' HO348.out).2.1); rintro e w' ⟨rfl, ⟨nd, rfl⟩⟩; refine ⟨_, rfl, ?_⟩))
                      go_meet
                      case rel => exact ⟨_, (true), (by first | rfl | (simp; done) | (simp [*]; done)), H', ⟨by have := HJ2.out; first | omega | exact Nat.le_refl _⟩, ⟨by (with_reducible repeat (first | apply Kd.R_alloc | apply Kd.R_drewN | apply Kd.R_drew)); exact Kd.R_mono HO339.out (fun _ hk => trivial)⟩, ⟨by repeat (first | (with_reducible first | exact HB.out | apply below_alloc | apply pw_below_drewN | apply below_drew1) | exact HB.out)⟩⟩
                  case rest =>
                    clear HC19
                    try clear c1
                    try clear c2
                    try clear p2
                    try clear p3
                    try clear q3
                    try clear hx3
                    try clear c5
                    try clear c8
                    try clear c9
                    try clear c10
                    try clear c12
                    try clear c12b0
                    try clear c12b1
                    try clear c12b2
                    try clear c13
                    try clear c13b0
                    try clear c13b1
                    try clear c13b2
                    try clear c14
                    try clear c14b0
                    try clear c14b1
                    try clear c14b2
                    try clear c16
                    try clear c16b0
                    try clear c17
                    try clear c17b0
                    try clear c20
                    try clear c22
                    try clear c26
                    try clear c27
                    try clear c27b0
                    try clear c27b1
                    try clear c27b2
                    try clear hx343_0
                    try clear p2
                    try clear p343
                    try clear q343
                    obtain ⟨kq, x60_18, rfl, HA, HJ18, HO_5, HB⟩ := hcut
                    cases kq with
                    | zero => exact absurd HA.out (by simp [mandolinelaw05_TagBlanks.j1])
                    | succ kj18 =>
                      have H := HA.out
                      clear HA
                      simp only [mandolinelaw05_TagBlanks.j1] at H
                      by_cases c34 : x60_18 = true
                      · subst c34
                        have H1 : (some false) = some r := by rw [if_pos rfl] at H; exact H
                        clear H
                        have H := H1
                        clear H1
                        obtain rfl := Option.some.inj H
                        go_wp2
                        go_ret
                        exact ⟨by first | rfl | (simp [errW_none, errW_some] <;> rfl) | (simp only [← hji15]; first | rfl | (simp [errW_none, errW_some] <;> rfl)) | (simp [*, errW_none, errW_some] <;> rfl), by repeat (first | (with_reducible first | exact HB.out | apply below_alloc | apply pw_below_drewN | apply below_drew1) | exact HB.out)⟩
                      · replace c34 := Bool.eq_false_iff.mpr c34
                        subst c34
                        have H1 : (if t336 = true then (mandolinelaw05_TagBlanks.j2 kj18 a0 t335 t337 true) else (mandolinelaw05_TagBlanks.j2 kj18 a0 t335 t337 (t337 == 2))) = some r := by rw [if_neg (show ¬ (false = true) by decide)] at H; exact H
                        clear H
                        have H := H1
                        clear H1
                        have HC35 := Aside0.mk H
                        clear H
                        go_upto_region 8 with (fail)
                        go_cut [65] (fun v65 wc => ∃ (kq : Nat) (x65_34 : Bool), v65 = .bool x65_34 ∧ Aside0 (mandolinelaw05_TagBlanks.j2 kq a0 t335 t337 x65_34 = some r) ∧ Aside0 (kq ≤ kj18) ∧ Aside0 (Kd.R k23 23 wc w.heap.size (fun _ => True) v338 t335) ∧ Aside0 (Below w.heap.size w wc))
                        case first =>
                          have H := HC35.out
                          clear HC35
                          by_cases c36 : t336 = true
                          · subst c36
                            have H1 : (mandolinelaw05_TagBlanks.j2 kj18 a0 t335 t337 true) = some r := by rw [if_pos rfl] at H; exact H
                            clear H
                            have H := H1
                            clear H1
                            have H' := Aside0.mk H
                            clear H
                            go_wp2
                            go_meet
                            case rel => exact ⟨_, (true), (by first | rfl | (simp; done) | (simp [*]; done)), H', ⟨by have := HJ2.out; have := HJ18.out; first | omega | exact Nat.le_refl _⟩, ⟨by (with_reducible repeat (first | apply Kd.R_alloc | apply Kd.R_drewN | apply Kd.R_drew)); exact HO_5.out⟩, ⟨by repeat (first | (with_reducible first | exact HB.out | apply below_alloc | apply pw_below_drewN | apply below_drew1) | exact HB.out)⟩⟩
                          · replace c36 := Bool.eq_false_iff.mpr c36
                            subst c36
                            have H1 : (mandolinelaw05_TagBlanks.j2 kj18 a0 t335 t337 (t337 == 2)) = some r := by rw [if_neg (show ¬ (false = true) by decide)] at H; exact H
                            clear H
                            have H := H1
                            clear H1
                            have H' := Aside0.mk H
                            clear H
                            go_wp2
                            go_meet
                            case rel => exact ⟨_, ((t337 == 2)), (by first | rfl | (simp; done) | (simp [*]; done)), H', ⟨by have := HJ2.out; have := HJ18.out; first | omega | exact Nat.le_refl _⟩, ⟨by (with_reducible repeat (first | apply Kd.R_alloc | apply Kd.R_drewN | apply Kd.R_drew)); exact HO_5.out⟩, ⟨by repeat (first | (with_reducible first | exact HB.out | apply below_alloc | apply pw_below_drewN | apply below_drew1) | exact HB.out)⟩⟩
                        case rest =>
                          clear HC35
                          try clear c1
                          try clear c2
                          try clear p2
                          try clear c3
                          try clear p3
                          try clear q3
                          try clear hx3
                          try clear c5
                          try clear c8
                          try clear c9
                          try clear c10
                          try clear c12
                          try clear c12b0
                          try clear c12b1
                          try clear c12b2
                          try clear c13
                          try clear c13b0
                          try clear c13b1
                          try clear c13b2
                          try clear c14
                          try clear c14b0
                          try clear c14b1
                          try clear c14b2
                          try clear c16
                          try clear c16b0
                          try clear c17
                          try clear c17b0
                          try clear c20
                          try clear c22
                          try clear c26
                          try clear c27
                          try clear c27b0
                          try clear c27b1
                          try clear c27b2
                          try clear c34
                          try clear p34
                          try clear q34
                          try clear hx34
                          try clear c36
                          try clear hx343_0
                          try clear p2
                          try clear p3
                          try clear p343
                          try clear q3
                          try clear q343
                          obtain ⟨kq, x65_34, rfl, HA, HJ34, HO_5, HB⟩ := hcut
                          cases kq with
                          | zero => exact absurd HA.out (by simp [mandolinelaw05_TagBlanks.j2])
                          | succ kj34 =>
                            have H := HA.out
                            clear HA
                            simp only [mandolinelaw05_TagBlanks.j2] at H
                            by_cases c37 : x65_34 = true
                            · subst c37
                              have H1 : (some true) = some r := by rw [if_pos rfl] at H; exact H
                              clear H
                              have H := H1
                              clear H1
                              obtain rfl := Option.some.inj H
                              go_wp2
                              go_ret
                              exact ⟨by first | rfl | (simp [errW_none, errW_some] <;> rfl) | (simp only [← hji15]; first | rfl | (simp [errW_none, errW_some] <;> rfl)) | (simp [*, errW_none, errW_some] <;> rfl), by repeat (first | (with_reducible first | exact HB.out | apply below_alloc | apply pw_below_drewN | apply below_drew1) | exact HB.out)⟩
                            · replace c37 := Bool.eq_false_iff.mpr c37
                              subst c37
                              have H1 : (if 1 + a0.size ≤ 9223372036854775807 then (if 1 + a0.size + 3 ≤ 9223372036854775807 then ((tag_List.f kj34 (((⟨#[44]⟩ : ByteArray) ++ a0) ++ (⟨#[32, 44, 32]⟩ : ByteArray))).bind fun bt350 => ((mandolineref05_Same.f kj34 t335 bt350.1).bind fun t355 => (if t355 = true then (if bt350.2.1 = true then (some false) else (some (bt350.2.2 == t337))) else (some false)))) else (none)) else (none)) = some r := by rw [if_neg (show ¬ (false = true) by decide)] at H; exact H
                              clear H
                              have H := H1
                              clear H1
                              by_cases c38 : 1 + a0.size ≤ 9223372036854775807
                              · rw [if_pos c38] at H
                                have c38b0 := eq_true c38
                                have c38b1 : decide (1 + a0.size ≤ 9223372036854775807) = true := decide_eq_true c38
                                try have c38b2 : (9223372036854775807 < 1 + a0.size) = False := eq_false (Nat.not_lt.2 c38)
                                by_cases c39 : 1 + a0.size + 3 ≤ 9223372036854775807
                                · rw [if_pos c39] at H
                                  have c39b0 := eq_true c39
                                  have c39b1 : decide (1 + a0.size + 3 ≤ 9223372036854775807) = true := decide_eq_true c39
                                  try have c39b2 : (9223372036854775807 < 1 + a0.size + 3) = False := eq_false (Nat.not_lt.2 c39)
                                  replace H := Option.bind_eq_some_iff.mp H
                                  obtain ⟨⟨t350, t351, t352⟩, A400, H⟩ := H
                                  replace H : ((mandolineref05_Same.f kj34 t335 t350).bind fun t355 => (if t355 = true then (if t351 = true then (some false) else (some (t352 == t337))) else (some false))) = some r := H
                                  have A40 := Aside0.mk A400
                                  clear A400
                                  replace H := Option.bind_eq_some_iff.mp H
                                  obtain ⟨t355, A410, H⟩ := H
                                  replace H : (if t355 = true then (if t351 = true then (some false) else (some (t352 == t337))) else (some false)) = some r := H
                                  have A41 := Aside0.mk A410
                                  clear A410
                                  by_cases c42 : t355 = true
                                  · subst c42
                                    have H1 : (if t351 = true then (some false) else (some (t352 == t337))) = some r := by rw [if_pos rfl] at H; exact H
                                    clear H
                                    have H := H1
                                    clear H1
                                    by_cases c43 : t351 = true
                                    · subst c43
                                      have H1 : (some false) = some r := by rw [if_pos rfl] at H; exact H
                                      clear H
                                      have H := H1
                                      clear H1
                                      obtain rfl := Option.some.inj H
                                      go_wp2_with (first | ((with_reducible refine gate_callee (f := 20) rfl ?_); refine goesL_ (some 70) rfl rfl Tryd.func20 (by kernel_rfl) rfl #[.string (((⟨#[44]⟩ : ByteArray) ++ a0) ++ (⟨#[32, 44, 32]⟩ : ByteArray))] rfl (by (try simp only [List.map_toArray, List.map_cons, List.map_nil]); first | done | rfl | (simp only [List.length_drop, List.length_take]; rfl)) ?_; (with_reducible refine (tag_List.calls kj34 (((⟨#[44]⟩ : ByteArray) ++ a0) ++ (⟨#[32, 44, 32]⟩ : ByteArray)) t350 true t352 _ A40.out).mono ?_); rintro e w44 ⟨v353, rfl, ho0, hb⟩; refine ⟨_, rfl, ?_⟩; have n0_ := Aside0.mk (Kd.R_elder' (by (with_reducible repeat (first | apply Kd.R_alloc | apply Kd.R_drewN | apply Kd.R_drew)); exact HO_5.out) (Kd.R_base ho0) hb); have n1_ := Aside0.mk (Kd.R_lower (Kd.R_new' ho0 (Kd.R_lt (by (with_reducible repeat (first | apply Kd.R_alloc | apply Kd.R_drewN | apply Kd.R_drew)); exact HO_5.out))) (below_size (by repeat (first | (with_reducible first | exact HB.out | apply below_alloc | apply pw_below_drewN | apply below_drew1) | exact HB.out)))); have n2_ := Aside0.mk (below_step (by repeat (first | (with_reducible first | exact HB.out | apply below_alloc | apply pw_below_drewN | apply below_drew1) | exact HB.out)) hb); clear HO_5; clear HB; have HO_5 := n0_; have HO354 := n1_; have HB := n2_; clear n0_ n1_ n2_; (try clear hb); (try clear hb2); (try clear hk); (try clear hi); (try clear ho0); obtain ⟨Ao45, co45, eo45⟩ := Kd.R_slice HO_5.out; subst eo45; obtain ⟨Ao46, co46, eo46⟩ := Kd.R_slice HO354.out; subst eo46) | ((with_reducible refine gate_callee (f := 22) rfl ?_); refine goesL_ (some 76) rfl rfl Tryd.func22 (by kernel_rfl) rfl #[.slice Ao45 t335.length co45, .slice Ao46 t350.length co46] rfl (by (try simp only [List.map_toArray, List.map_cons, List.map_nil]); first | done | rfl | (simp only [List.length_drop, List.length_take]; rfl)) ?_; (with_reducible refine (mandolineref05_Same.calls kj34 _ _ t335 _ _ t350 true _ ?side1 ?side2 ?side3 ?side4 A41.out).mono ?_); (case side1 => repeat (first | exact (Kd.R_reads' HO_5.out).2.2 | (with_reducible refine Kd.C_alloc ?_ _) | (with_reducible refine Kd.C_drewN ?_ _) | (with_reducible refine Kd.C_drew ?_))); (case side2 => exact (Kd.R_reads' HO_5.out).2.1); (case side3 => repeat (first | exact (Kd.R_reads' HO354.out).2.2 | (with_reducible refine Kd.C_alloc ?_ _) | (with_reducible refine Kd.C_drewN ?_ _) | (with_reducible refine Kd.C_drew ?_))); (case side4 => exact (Kd.R_reads' HO354.out).2.1); rintro e w' ⟨rfl, ⟨nd, rfl⟩⟩; refine ⟨_, rfl, ?_⟩))
                                      go_ret
                                      exact ⟨by first | rfl | (simp [errW_none, errW_some] <;> rfl) | (simp only [← hji15]; first | rfl | (simp [errW_none, errW_some] <;> rfl)) | (simp [*, errW_none, errW_some] <;> rfl), by repeat (first | (with_reducible first | exact HB.out | apply below_alloc | apply pw_below_drewN | apply below_drew1) | exact HB.out)⟩
                                    · replace c43 := Bool.eq_false_iff.mpr c43
                                      subst c43
                                      have H1 : (some (t352 == t337)) = some r := by rw [if_neg (show ¬ (false = true) by decide)] at H; exact H
                                      clear H
                                      have H := H1
                                      clear H1
                                      obtain rfl := Option.some.inj H
                                      go_wp2_with (first | ((with_reducible refine gate_callee (f := 20) rfl ?_); refine goesL_ (some 70) rfl rfl Tryd.func20 (by kernel_rfl) rfl #[.string (((⟨#[44]⟩ : ByteArray) ++ a0) ++ (⟨#[32, 44, 32]⟩ : ByteArray))] rfl (by (try simp only [List.map_toArray, List.map_cons, List.map_nil]); first | done | rfl | (simp only [List.length_drop, List.length_take]; rfl)) ?_; (with_reducible refine (tag_List.calls kj34 (((⟨#[44]⟩ : ByteArray) ++ a0) ++ (⟨#[32, 44, 32]⟩ : ByteArray)) t350 false t352 _ A40.out).mono ?_); rintro e w47 ⟨v353, rfl, ho0, hb⟩; refine ⟨_, rfl, ?_⟩; have n0_ := Aside0.mk (Kd.R_elder' (by (with_reducible repeat (first | apply Kd.R_alloc | apply Kd.R_drewN | apply Kd.R_drew)); exact HO_5.out) (Kd.R_base ho0) hb); have n1_ := Aside0.mk (Kd.R_lower (Kd.R_new' ho0 (Kd.R_lt (by (with_reducible repeat (first | apply Kd.R_alloc | apply Kd.R_drewN | apply Kd.R_drew)); exact HO_5.out))) (below_size (by repeat (first | (with_reducible first | exact HB.out | apply below_alloc | apply pw_below_drewN | apply below_drew1) | exact HB.out)))); have n2_ := Aside0.mk (below_step (by repeat (first | (with_reducible first | exact HB.out | apply below_alloc | apply pw_below_drewN | apply below_drew1) | exact HB.out)) hb); clear HO_5; clear HB; have HO_5 := n0_; have HO354 := n1_; have HB := n2_; clear n0_ n1_ n2_; (try clear hb); (try clear hb2); (try clear hk); (try clear hi); (try clear ho0); obtain ⟨Ao48, co48, eo48⟩ := Kd.R_slice HO_5.out; subst eo48; obtain ⟨Ao49, co49, eo49⟩ := Kd.R_slice HO354.out; subst eo49) | ((with_reducible refine gate_callee (f := 22) rfl ?_); refine goesL_ (some 76) rfl rfl Tryd.func22 (by kernel_rfl) rfl #[.slice Ao48 t335.length co48, .slice Ao49 t350.length co49] rfl (by (try simp only [List.map_toArray, List.map_cons, List.map_nil]); first | done | rfl | (simp only [List.length_drop, List.length_take]; rfl)) ?_; (with_reducible refine (mandolineref05_Same.calls kj34 _ _ t335 _ _ t350 true _ ?side1 ?side2 ?side3 ?side4 A41.out).mono ?_); (case side1 => repeat (first | exact (Kd.R_reads' HO_5.out).2.2 | (with_reducible refine Kd.C_alloc ?_ _) | (with_reducible refine Kd.C_drewN ?_ _) | (with_reducible refine Kd.C_drew ?_))); (case side2 => exact (Kd.R_reads' HO_5.out).2.1); (case side3 => repeat (first | exact (Kd.R_reads' HO354.out).2.2 | (with_reducible refine Kd.C_alloc ?_ _) | (with_reducible refine Kd.C_drewN ?_ _) | (with_reducible refine Kd.C_drew ?_))); (case side4 => exact (Kd.R_reads' HO354.out).2.1); rintro e w' ⟨rfl, ⟨nd, rfl⟩⟩; refine ⟨_, rfl, ?_⟩))
                                      go_ret
                                      exact ⟨by first | rfl | (simp [errW_none, errW_some] <;> rfl) | (simp only [← hji15]; first | rfl | (simp [errW_none, errW_some] <;> rfl)) | (simp [*, errW_none, errW_some] <;> rfl), by repeat (first | (with_reducible first | exact HB.out | apply below_alloc | apply pw_below_drewN | apply below_drew1) | exact HB.out)⟩
                                  · replace c42 := Bool.eq_false_iff.mpr c42
                                    subst c42
                                    have H1 : (some false) = some r := by rw [if_neg (show ¬ (false = true) by decide)] at H; exact H
                                    clear H
                                    have H := H1
                                    clear H1
                                    obtain rfl := Option.some.inj H
                                    go_wp2_with (first | ((with_reducible refine gate_callee (f := 20) rfl ?_); refine goesL_ (some 70) rfl rfl Tryd.func20 (by kernel_rfl) rfl #[.string (((⟨#[44]⟩ : ByteArray) ++ a0) ++ (⟨#[32, 44, 32]⟩ : ByteArray))] rfl (by (try simp only [List.map_toArray, List.map_cons, List.map_nil]); first | done | rfl | (simp only [List.length_drop, List.length_take]; rfl)) ?_; (with_reducible refine (tag_List.calls kj34 (((⟨#[44]⟩ : ByteArray) ++ a0) ++ (⟨#[32, 44, 32]⟩ : ByteArray)) t350 t351 t352 _ A40.out).mono ?_); rintro e w50 ⟨v353, rfl, ho0, hb⟩; refine ⟨_, rfl, ?_⟩; have n0_ := Aside0.mk (Kd.R_elder' (by (with_reducible repeat (first | apply Kd.R_alloc | apply Kd.R_drewN | apply Kd.R_drew)); exact HO_5.out) (Kd.R_base ho0) hb); have n1_ := Aside0.mk (Kd.R_lower (Kd.R_new' ho0 (Kd.R_lt (by (with_reducible repeat (first | apply Kd.R_alloc | apply Kd.R_drewN | apply Kd.R_drew)); exact HO_5.out))) (below_size (by repeat (first | (with_reducible first | exact HB.out | apply below_alloc | apply pw_below_drewN | apply below_drew1) | exact HB.out)))); have n2_ := Aside0.mk (below_step (by repeat (first | (with_reducible first | exact HB.out | apply below_alloc | apply pw_below_drewN | apply below_drew1) | exact HB.out)) hb); clear HO_5; clear HB; have HO_5 := n0_; have HO354 := n1_; have HB := n2_; clear n0_ n1_ n2_; (try clear hb); (try clear hb2); (try clear hk); (try clear hi); (try clear ho0); obtain ⟨Ao51, co51, eo51⟩ := Kd.R_slice HO_5.out; subst eo51; obtain ⟨Ao52, co52, eo52⟩ := Kd.R_slice HO354.out; subst eo52) | ((with_reducible refine gate_callee (f := 22) rfl ?_); refine goesL_ (some 76) rfl rfl Tryd.func22 (by kernel_rfl) rfl #[.slice Ao51 t335.length co51, .slice Ao52 t350.length co52] rfl (by (try simp only [List.map_toArray, List.map_cons, List.map_nil]); first | done | rfl | (simp only [List.length_drop, List.length_take]; rfl)) ?_; (with_reducible refine (mandolineref05_Same.calls kj34 _ _ t335 _ _ t350 false _ ?side1 ?side2 ?side3 ?side4 A41.out).mono ?_); (case side1 => repeat (first | exact (Kd.R_reads' HO_5.out).2.2 | (with_reducible refine Kd.C_alloc ?_ _) | (with_reducible refine Kd.C_drewN ?_ _) | (with_reducible refine Kd.C_drew ?_))); (case side2 => exact (Kd.R_reads' HO_5.out).2.1); (case side3 => repeat (first | exact (Kd.R_reads' HO354.out).2.2 | (with_reducible refine Kd.C_alloc ?_ _) | (with_reducible refine Kd.C_drewN ?_ _) | (with_reducible refine Kd.C_drew ?_))); (case side4 => exact (Kd.R_reads' HO354.out).2.1); rintro e w' ⟨rfl, ⟨nd, rfl⟩⟩; refine ⟨_, rfl, ?_⟩))
                                    go_ret
                                    exact ⟨by first | rfl | (simp [errW_none, errW_some] <;> rfl) | (simp only [← hji15]; first | rfl | (simp [errW_none, errW_some] <;> rfl)) | (simp [*, errW_none, errW_some] <;> rfl), by repeat (first | (with_reducible first | exact HB.out | apply below_alloc | apply pw_below_drewN | apply below_drew1) | exact HB.out)⟩
                                · rw [if_neg c39] at H
                                  exact absurd H (by simp)
                              · rw [if_neg c38] at H
                                exact absurd H (by simp)
                · rw [if_neg c17] at H
                  exact absurd H (by simp)
              · rw [if_neg c16] at H
                exact absurd H (by simp)
            · rw [if_neg c14] at H
              exact absurd H (by simp)
          · rw [if_neg c13] at H
            exact absurd H (by simp)
        · rw [if_neg c12] at H
          exact absurd H (by simp)

end Go.Proofs.YtbgbbpmbmccgiaaDoor.X
