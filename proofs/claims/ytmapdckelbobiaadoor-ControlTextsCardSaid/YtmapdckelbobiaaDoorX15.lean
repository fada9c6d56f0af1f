-- Printed by a program of this session (pp.py: the kit's print.py, run with contracts of its own) out of the translation. Not trusted: Lean checks it.
import Derived.Test.YtmapdckelbobiaaDoorX0
import Derived.Test.YtmapdckelbobiaaDoorX14
namespace Go.Proofs.YtmapdckelbobiaaDoor.X
open Go.RowKit Go.Proofs.YtmapdckelbobiaaDoorW.PrintWords Go.Proofs.YtmapdckelbobiaaDoorW.PrintLast Go.Proofs.YtmapdckelbobiaaDoorW.PrintMore
attribute [local go_sem] max2_int min2_int max_two min_two max_three min_three max_four min_four   -- for this text's walks alone
set_option linter.unusedVariables false
set_option linter.unusedSimpArgs false

/-! ### mandolineref09_Text: function 18 -/
mutual
def mandolineref09_Text.j0 : Nat → List ByteArray → Int → Int → Int → Int → Bool → Bool → Bool → Option (ByteArray)
  | 0, _, _, _, _, _, _, _, _ => none
  | k + 1, x3, x259000, x259001, x259002, x259003, x259004, x259005, x259006 => if x259005 = true then (if x3.length < 8796093022208 then (mandolineref09_Text.j1 k (x3 ++ [(⟨#[110, 111, 45, 99, 97, 99, 104, 101]⟩ : ByteArray)]) x259000 x259001 x259002 x259003 x259004 x259005 x259006) else (none)) else (mandolineref09_Text.j1 k x3 x259000 x259001 x259002 x259003 x259004 x259005 x259006)
def mandolineref09_Text.j1 : Nat → List ByteArray → Int → Int → Int → Int → Bool → Bool → Bool → Option (ByteArray)
  | 0, _, _, _, _, _, _, _, _ => none
  | k + 1, x3, x259000, x259001, x259002, x259003, x259004, x259005, x259006 => if x259006 = true then (if x3.length < 8796093022208 then (mandolineref09_Text.j2 k (x3 ++ [(⟨#[112, 114, 105, 118, 97, 116, 101]⟩ : ByteArray)]) x259000 x259001 x259002 x259003 x259004 x259005 x259006) else (none)) else (mandolineref09_Text.j2 k x3 x259000 x259001 x259002 x259003 x259004 x259005 x259006)
def mandolineref09_Text.j2 : Nat → List ByteArray → Int → Int → Int → Int → Bool → Bool → Bool → Option (ByteArray)
  | 0, _, _, _, _, _, _, _, _ => none
  | k + 1, x3, x259000, x259001, x259002, x259003, x259004, x259005, x259006 => if x259000 ≥ 0 then ((mandolineref09_cap.f x259000).bind fun t271 => ((mandolineref09_Num.f k t271).bind fun t272 => (if 8 + t272.size ≤ 9223372036854775807 then (if x3.length < 8796093022208 then (mandolineref09_Text.j3 k (x3 ++ [(⟨#[109, 97, 120, 45, 97, 103, 101, 61]⟩ : ByteArray) ++ t272]) x259000 x259001 x259002 x259003 x259004 x259005 x259006) else (none)) else (none)))) else (mandolineref09_Text.j3 k x3 x259000 x259001 x259002 x259003 x259004 x259005 x259006)
def mandolineref09_Text.j3 : Nat → List ByteArray → Int → Int → Int → Int → Bool → Bool → Bool → Option (ByteArray)
  | 0, _, _, _, _, _, _, _, _ => none
  | k + 1, x3, x259000, x259001, x259002, x259003, x259004, x259005, x259006 => if x259001 ≥ 0 then ((mandolineref09_cap.f x259001).bind fun t276 => ((mandolineref09_Num.f k t276).bind fun t277 => (if 9 + t277.size ≤ 9223372036854775807 then (if x3.length < 8796093022208 then (mandolineref09_Text.j4 k (x3 ++ [(⟨#[115, 45, 109, 97, 120, 97, 103, 101, 61]⟩ : ByteArray) ++ t277]) x259000 x259001 x259002 x259003 x259004 x259005 x259006) else (none)) else (none)))) else (mandolineref09_Text.j4 k x3 x259000 x259001 x259002 x259003 x259004 x259005 x259006)
def mandolineref09_Text.j4 : Nat → List ByteArray → Int → Int → Int → Int → Bool → Bool → Bool → Option (ByteArray)
  | 0, _, _, _, _, _, _, _, _ => none
  | k + 1, x3, x259000, x259001, x259002, x259003, x259004, x259005, x259006 => if x259002 ≥ 0 then ((mandolineref09_cap.f x259002).bind fun t281 => ((mandolineref09_Num.f k t281).bind fun t282 => (if 23 + t282.size ≤ 9223372036854775807 then (if x3.length < 8796093022208 then (mandolineref09_Text.j5 k (x3 ++ [(⟨#[115, 116, 97, 108, 101, 45, 119, 104, 105, 108, 101, 45, 114, 101, 118, 97, 108, 105, 100, 97, 116, 101, 61]⟩ : ByteArray) ++ t282]) x259000 x259001 x259002 x259003 x259004 x259005 x259006) else (none)) else (none)))) else (mandolineref09_Text.j5 k x3 x259000 x259001 x259002 x259003 x259004 x259005 x259006)
def mandolineref09_Text.j5 : Nat → List ByteArray → Int → Int → Int → Int → Bool → Bool → Bool → Option (ByteArray)
  | 0, _, _, _, _, _, _, _, _ => none
  | k + 1, x3, x259000, x259001, x259002, x259003, x259004, x259005, x259006 => if x259003 ≥ 0 then ((mandolineref09_cap.f x259003).bind fun t286 => ((mandolineref09_Num.f k t286).bind fun t287 => (if 15 + t287.size ≤ 9223372036854775807 then (if x3.length < 8796093022208 then (mandolineref09_Text.j6 k (x3 ++ [(⟨#[115, 116, 97, 108, 101, 45, 105, 102, 45, 101, 114, 114, 111, 114, 61]⟩ : ByteArray) ++ t287])) else (none)) else (none)))) else (mandolineref09_Text.j6 k x3)
def mandolineref09_Text.j6 : Nat → List ByteArray → Option (ByteArray)
  | 0, _ => none
  | k + 1, x3 => mandolineref09_Text.l0 k x3 (⟨#[]⟩ : ByteArray) 0
def mandolineref09_Text.l0 : Nat → List ByteArray → ByteArray → Int → Option (ByteArray)
  | 0, _, _, _ => none
  | k + 1, x3, x4, x5 => if x5 < (x3.length : Int) then (if x5 > 0 then (if x4.size + 2 ≤ 9223372036854775807 then (if 0 ≤ x5 then (if x4.size + 2 + (rdOf ByteArray.empty x3 x5).size ≤ 9223372036854775807 then (mandolineref09_Text.l0 k x3 ((x4 ++ (⟨#[44, 32]⟩ : ByteArray)) ++ (rdOf ByteArray.empty x3 x5)) (wrap64 (x5 + 1))) else (none)) else (none)) else (none)) else (if 0 ≤ x5 then (if x4.size + (rdOf ByteArray.empty x3 x5).size ≤ 9223372036854775807 then (mandolineref09_Text.l0 k x3 (x4 ++ (rdOf ByteArray.empty x3 x5)) (wrap64 (x5 + 1))) else (none)) else (none))) else (some x4)
end
def mandolineref09_Text.f (k : Nat) (a0_0 : Int) (a0_1 : Int) (a0_2 : Int) (a0_3 : Int) (a0_4 : Bool) (a0_5 : Bool) (a0_6 : Bool) : Option (ByteArray) := (some (([] : List ByteArray) : List ByteArray)).bind fun y259 => (if a0_4 = true then (if y259.length < 8796093022208 then (mandolineref09_Text.j0 k (y259 ++ [(⟨#[110, 111, 45, 115, 116, 111, 114, 101]⟩ : ByteArray)]) a0_0 a0_1 a0_2 a0_3 a0_4 a0_5 a0_6) else (none)) else (mandolineref09_Text.j0 k y259 a0_0 a0_1 a0_2 a0_3 a0_4 a0_5 a0_6))
theorem mandolineref09_Text.mono_l : ∀ k, (∀ y0 y1 y2 y3 y4 y5 y6 y7, LeO (mandolineref09_Text.j0 k y0 y1 y2 y3 y4 y5 y6 y7) (mandolineref09_Text.j0 (k + 1) y0 y1 y2 y3 y4 y5 y6 y7)) ∧ (∀ y0 y1 y2 y3 y4 y5 y6 y7, LeO (mandolineref09_Text.j1 k y0 y1 y2 y3 y4 y5 y6 y7) (mandolineref09_Text.j1 (k + 1) y0 y1 y2 y3 y4 y5 y6 y7)) ∧ (∀ y0 y1 y2 y3 y4 y5 y6 y7, LeO (mandolineref09_Text.j2 k y0 y1 y2 y3 y4 y5 y6 y7) (mandolineref09_Text.j2 (k + 1) y0 y1 y2 y3 y4 y5 y6 y7)) ∧ (∀ y0 y1 y2 y3 y4 y5 y6 y7, LeO (mandolineref09_Text.j3 k y0 y1 y2 y3 y4 y5 y6 y7) (mandolineref09_Text.j3 (k + 1) y0 y1 y2 y3 y4 y5 y6 y7)) ∧ (∀ y0 y1 y2 y3 y4 y5 y6 y7, LeO (mandolineref09_Text.j4 k y0 y1 y2 y3 y4 y5 y6 y7) (mandolineref09_Text.j4 (k + 1) y0 y1 y2 y3 y4 y5 y6 y7)) ∧ (∀ y0 y1 y2 y3 y4 y5 y6 y7, LeO (mandolineref09_Text.j5 k y0 y1 y2 y3 y4 y5 y6 y7) (mandolineref09_Text.j5 (k + 1) y0 y1 y2 y3 y4 y5 y6 y7)) ∧ (∀ y0, LeO (mandolineref09_Text.j6 k y0) (mandolineref09_Text.j6 (k + 1) y0)) ∧ (∀ y0 y1 y2, LeO (mandolineref09_Text.l0 k y0 y1 y2) (mandolineref09_Text.l0 (k + 1) y0 y1 y2))
  | 0 => ⟨fun _ _ _ _ _ _ _ _ r h => by simp [mandolineref09_Text.j0] at h, fun _ _ _ _ _ _ _ _ r h => by simp [mandolineref09_Text.j1] at h, fun _ _ _ _ _ _ _ _ r h => by simp [mandolineref09_Text.j2] at h, fun _ _ _ _ _ _ _ _ r h => by simp [mandolineref09_Text.j3] at h, fun _ _ _ _ _ _ _ _ r h => by simp [mandolineref09_Text.j4] at h, fun _ _ _ _ _ _ _ _ r h => by simp [mandolineref09_Text.j5] at h, fun _ r h => by simp [mandolineref09_Text.j6] at h, fun _ _ _ r h => by simp [mandolineref09_Text.l0] at h⟩
  | k + 1 => by
    obtain ⟨ih0, ih1, ih2, ih3, ih4, ih5, ih6, ih7⟩ := mandolineref09_Text.mono_l k
    refine ⟨?_, ?_, ?_, ?_, ?_, ?_, ?_, ?_⟩
    · intro y0 y1 y2 y3 y4 y5 y6 y7
      unfold mandolineref09_Text.j0
      repeat' first
      | (with_reducible exact ih0 _ _ _ _ _ _ _ _)
      | (with_reducible exact ih1 _ _ _ _ _ _ _ _)
      | (with_reducible exact ih2 _ _ _ _ _ _ _ _)
      | (with_reducible exact ih3 _ _ _ _ _ _ _ _)
      | (with_reducible exact ih4 _ _ _ _ _ _ _ _)
      | (with_reducible exact ih5 _ _ _ _ _ _ _ _)
      | (with_reducible exact ih6 _)
      | (with_reducible exact ih7 _ _ _)
      | (with_reducible exact mandolineref09_Num.mono _ _)
      | (with_reducible exact LeO.refl _)
      | (with_reducible exact LeO.none _)
      | (with_reducible refine LeO.ite ?_ ?_)
      | (with_reducible refine LeO.bind ?_ (fun _ => ?_))
      | exact ih0 _ _ _ _ _ _ _ _
      | exact ih1 _ _ _ _ _ _ _ _
      | exact ih2 _ _ _ _ _ _ _ _
      | exact ih3 _ _ _ _ _ _ _ _
      | exact ih4 _ _ _ _ _ _ _ _
      | exact ih5 _ _ _ _ _ _ _ _
      | exact ih6 _
      | exact ih7 _ _ _
      | exact mandolineref09_Num.mono _ _
      | exact LeO.none _
      | refine LeO.ite ?_ ?_
      | refine LeO.bind ?_ (fun _ => ?_)
    · intro y0 y1 y2 y3 y4 y5 y6 y7
      unfold mandolineref09_Text.j1
      repeat' first
      | (with_reducible exact ih0 _ _ _ _ _ _ _ _)
      | (with_reducible exact ih1 _ _ _ _ _ _ _ _)
      | (with_reducible exact ih2 _ _ _ _ _ _ _ _)
      | (with_reducible exact ih3 _ _ _ _ _ _ _ _)
      | (with_reducible exact ih4 _ _ _ _ _ _ _ _)
      | (with_reducible exact ih5 _ _ _ _ _ _ _ _)
      | (with_reducible exact ih6 _)
      | (with_reducible exact ih7 _ _ _)
      | (with_reducible exact mandolineref09_Num.mono _ _)
      | (with_reducible exact LeO.refl _)
      | (with_reducible exact LeO.none _)
      | (with_reducible refine LeO.ite ?_ ?_)
      | (with_reducible refine LeO.bind ?_ (fun _ => ?_))
      | exact ih0 _ _ _ _ _ _ _ _
      | exact ih1 _ _ _ _ _ _ _ _
      | exact ih2 _ _ _ _ _ _ _ _
      | exact ih3 _ _ _ _ _ _ _ _
      | exact ih4 _ _ _ _ _ _ _ _
      | exact ih5 _ _ _ _ _ _ _ _
      | exact ih6 _
      | exact ih7 _ _ _
      | exact mandolineref09_Num.mono _ _
      | exact LeO.none _
      | refine LeO.ite ?_ ?_
      | refine LeO.bind ?_ (fun _ => ?_)
    · intro y0 y1 y2 y3 y4 y5 y6 y7
      unfold mandolineref09_Text.j2
      repeat' first
      | (with_reducible exact ih0 _ _ _ _ _ _ _ _)
      | (with_reducible exact ih1 _ _ _ _ _ _ _ _)
      | (with_reducible exact ih2 _ _ _ _ _ _ _ _)
      | (with_reducible exact ih3 _ _ _ _ _ _ _ _)
      | (with_reducible exact ih4 _ _ _ _ _ _ _ _)
      | (with_reducible exact ih5 _ _ _ _ _ _ _ _)
      | (with_reducible exact ih6 _)
      | (with_reducible exact ih7 _ _ _)
      | (with_reducible exact mandolineref09_Num.mono _ _)
      | (with_reducible exact LeO.refl _)
      | (with_reducible exact LeO.none _)
      | (with_reducible refine LeO.ite ?_ ?_)
      | (with_reducible refine LeO.bind ?_ (fun _ => ?_))
      | exact ih0 _ _ _ _ _ _ _ _
      | exact ih1 _ _ _ _ _ _ _ _
      | exact ih2 _ _ _ _ _ _ _ _
      | exact ih3 _ _ _ _ _ _ _ _
      | exact ih4 _ _ _ _ _ _ _ _
      | exact ih5 _ _ _ _ _ _ _ _
      | exact ih6 _
      | exact ih7 _ _ _
      | exact mandolineref09_Num.mono _ _
      | exact LeO.none _
      | refine LeO.ite ?_ ?_
      | refine LeO.bind ?_ (fun _ => ?_)
    · intro y0 y1 y2 y3 y4 y5 y6 y7
      unfold mandolineref09_Text.j3
      repeat' first
      | (with_reducible exact ih0 _ _ _ _ _ _ _ _)
      | (with_reducible exact ih1 _ _ _ _ _ _ _ _)
      | (with_reducible exact ih2 _ _ _ _ _ _ _ _)
      | (with_reducible exact ih3 _ _ _ _ _ _ _ _)
      | (with_reducible exact ih4 _ _ _ _ _ _ _ _)
      | (with_reducible exact ih5 _ _ _ _ _ _ _ _)
      | (with_reducible exact ih6 _)
      | (with_reducible exact ih7 _ _ _)
      | (with_reducible exact mandolineref09_Num.mono _ _)
      | (with_reducible exact LeO.refl _)
      | (with_reducible exact LeO.none _)
      | (with_reducible refine LeO.ite ?_ ?_)
      | (with_reducible refine LeO.bind ?_ (fun _ => ?_))
      | exact ih0 _ _ _ _ _ _ _ _
      | exact ih1 _ _ _ _ _ _ _ _
      | exact ih2 _ _ _ _ _ _ _ _
      | exact ih3 _ _ _ _ _ _ _ _
      | exact ih4 _ _ _ _ _ _ _ _
      | exact ih5 _ _ _ _ _ _ _ _
      | exact ih6 _
      | exact ih7 _ _ _
      | exact mandolineref09_Num.mono _ _
      | exact LeO.none _
      | refine LeO.ite ?_ ?_
      | refine LeO.bind ?_ (fun _ => ?_)
    · intro y0 y1 y2 y3 y4 y5 y6 y7
      unfold mandolineref09_Text.j4
      repeat' first
      | (with_reducible exact ih0 _ _ _ _ _ _ _ _)
      | (with_reducible exact ih1 _ _ _ _ _ _ _ _)
      | (with_reducible exact ih2 _ _ _ _ _ _ _ _)
      | (with_reducible exact ih3 _ _ _ _ _ _ _ _)
      | (with_reducible exact ih4 _ _ _ _ _ _ _ _)
      | (with_reducible exact ih5 _ _ _ _ _ _ _ _)
      | (with_reducible exact ih6 _)
      | (with_reducible exact ih7 _ _ _)
      | (with_reducible exact mandolineref09_Num.mono _ _)
      | (with_reducible exact LeO.refl _)
      | (with_reducible exact LeO.none _)
      | (with_reducible refine LeO.ite ?_ ?_)
      | (with_reducible refine LeO.bind ?_ (fun _ => ?_))
      | exact ih0 _ _ _ _ _ _ _ _
      | exact ih1 _ _ _ _ _ _ _ _
      | exact ih2 _ _ _ _ _ _ _ _
      | exact ih3 _ _ _ _ _ _ _ _
      | exact ih4 _ _ _ _ _ _ _ _
      | exact ih5 _ _ _ _ _ _ _ _
      | exact ih6 _
      | exact ih7 _ _ _
      | exact mandolineref09_Num.mono _ _
      | exact LeO.none _
      | refine LeO.ite ?_ ?_
      | refine LeO.bind ?_ (fun _ => ?_)
    · intro y0 y1 y2 y3 y4 y5 y6 y7
      unfold mandolineref09_Text.j5
      repeat' first
      | (with_reducible exact ih0 _ _ _ _ _ _ _ _)
      | (with_reducible exact ih1 _ _ _ _ _ _ _ _)
      | (with_reducible exact ih2 _ _ _ _ _ _ _ _)
      | (with_reducible exact ih3 _ _ _ _ _ _ _ _)
      | (with_reducible exact ih4 _ _ _ _ _ _ _ _)
      | (with_reducible exact ih5 _ _ _ _ _ _ _ _)
      | (with_reducible exact ih6 _)
      | (with_reducible exact ih7 _ _ _)
      | (with_reducible exact mandolineref09_Num.mono _ _)
      | (with_reducible exact LeO.refl _)
      | (with_reducible exact LeO.none _)
      | (with_reducible refine LeO.ite ?_ ?_)
      | (with_reducible refine LeO.bind ?_ (fun _ => ?_))
      | exact ih0 _ _ _ _ _ _ _ _
      | exact ih1 _ _ _ _ _ _ _ _
      | exact ih2 _ _ _ _ _ _ _ _
      | exact ih3 _ _ _ _ _ _ _ _
      | exact ih4 _ _ _ _ _ _ _ _
      | exact ih5 _ _ _ _ _ _ _ _
      | exact ih6 _
      | exact ih7 _ _ _
      | exact mandolineref09_Num.mono _ _
      | exact LeO.none _
      | refine LeO.ite ?_ ?_
      | refine LeO.bind ?_ (fun _ => ?_)
    · intro y0
      unfold mandolineref09_Text.j6
      repeat' first
      | (with_reducible exact ih0 _ _ _ _ _ _ _ _)
      | (with_reducible exact ih1 _ _ _ _ _ _ _ _)
      | (with_reducible exact ih2 _ _ _ _ _ _ _ _)
      | (with_reducible exact ih3 _ _ _ _ _ _ _ _)
      | (with_reducible exact ih4 _ _ _ _ _ _ _ _)
      | (with_reducible exact ih5 _ _ _ _ _ _ _ _)
      | (with_reducible exact ih6 _)
      | (with_reducible exact ih7 _ _ _)
      | (with_reducible exact mandolineref09_Num.mono _ _)
      | (with_reducible exact LeO.refl _)
      | (with_reducible exact LeO.none _)
      | (with_reducible refine LeO.ite ?_ ?_)
      | (with_reducible refine LeO.bind ?_ (fun _ => ?_))
      | exact ih0 _ _ _ _ _ _ _ _
      | exact ih1 _ _ _ _ _ _ _ _
      | exact ih2 _ _ _ _ _ _ _ _
      | exact ih3 _ _ _ _ _ _ _ _
      | exact ih4 _ _ _ _ _ _ _ _
      | exact ih5 _ _ _ _ _ _ _ _
      | exact ih6 _
      | exact ih7 _ _ _
      | exact mandolineref09_Num.mono _ _
      | exact LeO.none _
      | refine LeO.ite ?_ ?_
      | refine LeO.bind ?_ (fun _ => ?_)
    · intro y0 y1 y2
      unfold mandolineref09_Text.l0
      repeat' first
      | (with_reducible exact ih0 _ _ _ _ _ _ _ _)
      | (with_reducible exact ih1 _ _ _ _ _ _ _ _)
      | (with_reducible exact ih2 _ _ _ _ _ _ _ _)
      | (with_reducible exact ih3 _ _ _ _ _ _ _ _)
      | (with_reducible exact ih4 _ _ _ _ _ _ _ _)
      | (with_reducible exact ih5 _ _ _ _ _ _ _ _)
      | (with_reducible exact ih6 _)
      | (with_reducible exact ih7 _ _ _)
      | (with_reducible exact mandolineref09_Num.mono _ _)
      | (with_reducible exact LeO.refl _)
      | (with_reducible exact LeO.none _)
      | (with_reducible refine LeO.ite ?_ ?_)
      | (with_reducible refine LeO.bind ?_ (fun _ => ?_))
      | exact ih0 _ _ _ _ _ _ _ _
      | exact ih1 _ _ _ _ _ _ _ _
      | exact ih2 _ _ _ _ _ _ _ _
      | exact ih3 _ _ _ _ _ _ _ _
      | exact ih4 _ _ _ _ _ _ _ _
      | exact ih5 _ _ _ _ _ _ _ _
      | exact ih6 _
      | exact ih7 _ _ _
      | exact mandolineref09_Num.mono _ _
      | exact LeO.none _
      | refine LeO.ite ?_ ?_
      | refine LeO.bind ?_ (fun _ => ?_)
theorem mandolineref09_Text.mono : ∀ a0 a1 a2 a3 a4 a5 a6 k, LeO (mandolineref09_Text.f k a0 a1 a2 a3 a4 a5 a6) (mandolineref09_Text.f (k + 1) a0 a1 a2 a3 a4 a5 a6) := by
  intro a0 a1 a2 a3 a4 a5 a6 k
  obtain ⟨ih0, ih1, ih2, ih3, ih4, ih5, ih6, ih7⟩ := mandolineref09_Text.mono_l k
  unfold mandolineref09_Text.f
  repeat' first
      | (with_reducible exact ih0 _ _ _ _ _ _ _ _)
      | (with_reducible exact ih1 _ _ _ _ _ _ _ _)
      | (with_reducible exact ih2 _ _ _ _ _ _ _ _)
      | (with_reducible exact ih3 _ _ _ _ _ _ _ _)
      | (with_reducible exact ih4 _ _ _ _ _ _ _ _)
      | (with_reducible exact ih5 _ _ _ _ _ _ _ _)
      | (with_reducible exact ih6 _)
      | (with_reducible exact ih7 _ _ _)
      | (with_reducible exact mandolineref09_Num.mono _ _)
      | (with_reducible exact LeO.refl _)
      | (with_reducible exact LeO.none _)
      | (with_reducible refine LeO.ite ?_ ?_)
      | (with_reducible refine LeO.bind ?_ (fun _ => ?_))
      | exact ih0 _ _ _ _ _ _ _ _
      | exact ih1 _ _ _ _ _ _ _ _
      | exact ih2 _ _ _ _ _ _ _ _
      | exact ih3 _ _ _ _ _ _ _ _
      | exact ih4 _ _ _ _ _ _ _ _
      | exact ih5 _ _ _ _ _ _ _ _
      | exact ih6 _
      | exact ih7 _ _ _
      | exact mandolineref09_Num.mono _ _
      | exact LeO.none _
      | refine LeO.ite ?_ ?_
      | refine LeO.bind ?_ (fun _ => ?_)
set_option maxHeartbeats 8000000 in
set_option maxRecDepth 100000 in
theorem mandolineref09_Text.calls (k : Nat) (a0_0 : Int) (a0_1 : Int) (a0_2 : Int) (a0_3 : Int) (a0_4 : Bool) (a0_5 : Bool) (a0_6 : Bool) (r : ByteArray) (w : World) (h : mandolineref09_Text.f k a0_0 a0_1 a0_2 a0_3 a0_4 a0_5 a0_6 = some r) :
    Calls Tryd.prog 18 #[.agg #[.int .i64 a0_0, .int .i64 a0_1, .int .i64 a0_2, .int .i64 a0_3, .bool a0_4, .bool a0_5, .bool a0_6]] w fun e w' => e = .returned (.string r) ∧ Below w.heap.size w w' := by
  have hu29 := Tryd.underlying29
  have HB := Aside0.mk (Below.refl w.heap.size w)
  have H : ((some (([] : List ByteArray) : List ByteArray)).bind fun y259 => (if a0_4 = true then (if y259.length < 8796093022208 then (mandolineref09_Text.j0 k (y259 ++ [(⟨#[110, 111, 45, 115, 116, 111, 114, 101]⟩ : ByteArray)]) a0_0 a0_1 a0_2 a0_3 a0_4 a0_5 a0_6) else (none)) else (mandolineref09_Text.j0 k y259 a0_0 a0_1 a0_2 a0_3 a0_4 a0_5 a0_6))) = some r := h
  clear h
  obtain ⟨y259, hy259⟩ : ∃ y_ : List ByteArray, y_ = (([] : List ByteArray)) := ⟨_, rfl⟩
  replace H : (if a0_4 = true then (if y259.length < 8796093022208 then (mandolineref09_Text.j0 k (y259 ++ [(⟨#[110, 111, 45, 115, 116, 111, 114, 101]⟩ : ByteArray)]) a0_0 a0_1 a0_2 a0_3 a0_4 a0_5 a0_6) else (none)) else (mandolineref09_Text.j0 k y259 a0_0 a0_1 a0_2 a0_3 a0_4 a0_5 a0_6)) = some r := by first | (rw [hy259]; with_reducible exact H) | (have H2_ := (Option.bind_some _ _).symm.trans H; rw [hy259]; with_reducible exact H2_) | (have H2_ := (Option.bind_some _ _).symm.trans H; with_reducible exact H2_) | with_reducible exact H | (rw [hy259]; exact H) | exact H
  have Ny259 := Aside0.mk hy259
  clear hy259
  have HC2 := Aside0.mk H
  clear H
  go_enter Tryd.func18, Tryd.ntmps18
  go_upto_if 8 with (first | ((with_reducible refine gate_dst (N := 1) rfl ?_); refine box_event ?hg (N := 1) ?hd (cs := #[.int .i64 a0_0, .int .i64 a0_1, .int .i64 a0_2, .int .i64 a0_3, .bool a0_4, .bool a0_5, .bool a0_6]) (t := 29) ?hr ?_; (case hd => rfl); (case hg => rfl); (case hr => first | (go_simp; done) | (go_simp; rfl)); intro gb258 hg w3 hbox hb; have n0_ := Aside0.mk (below_step (by repeat (first | (with_reducible first | exact HB.out | apply below_alloc | apply pw_below_drewN | apply below_drew1) | exact HB.out)) hb); have n1_ := Aside0.mk (hbox); have n2_ := Aside0.mk ((by rw [hg]; exact (below_size (by repeat (first | (with_reducible first | exact HB.out | apply below_alloc | apply pw_below_drewN | apply below_drew1) | exact HB.out))) : w.heap.size ≤ gb258)); have n3_ := Aside0.mk ((by rw [hg]; exact (below_size (by repeat (first | (with_reducible first | exact HB.out | apply below_alloc | apply pw_below_drewN | apply below_drew1) | exact HB.out))) : w.heap.size ≤ gb258)); clear HB; have HB := n0_; have BK258 := n1_; have GW258 := n2_; have GE258 := n3_; clear n0_ n1_ n2_ n3_; clear hb hbox hg) | ((with_reducible refine gate_dst (N := 6) rfl ?_); refine Kd.R_lit Kd.string _ 9 ?hg (N := 6) ?hd (xs := ([] : List ByteArray)) (inner := []) (ok := fun _ => True) (okp := fun _ => True) ?hr ?hp (fun _ hk => hk) trivial (Below.refl _ _) (Nat.le_refl _) (by simp) ?_; (case hd => rfl); (case hg => rfl); (case hr => first | (go_simp; done) | (go_simp; rfl)); (case hp => exact (Reps.none _ _)); intro v260 w4 ho5 hb hg_ hnew_; clear hg_ hnew_; (first | rw [← Ny259.out] at ho5 | (simp only [Int.reduceToNat] at ho5; rw [← Ny259.out] at ho5)); have n0_ := Aside0.mk (Kd.R_lower ho5 (below_size (by repeat (first | (with_reducible first | exact HB.out | apply below_alloc | apply pw_below_drewN | apply below_drew1 | refine below_set ?_ GE258.out) | exact HB.out)))); have n1_ := Aside0.mk (blk_below (g := gb258) (o := .cells #[.int .i64 a0_0, .int .i64 a0_1, .int .i64 a0_2, .int .i64 a0_3, .bool a0_4, .bool a0_5, .bool a0_6] 29 (0, 0)) (by (with_reducible repeat (first | refine blk_drewN ?_ _ | refine blk_drew ?_ | refine blk_alloc ?_ _)); exact BK258.out) hb); have n2_ := Aside0.mk (below_step (by repeat (first | (with_reducible first | exact HB.out | apply below_alloc | apply pw_below_drewN | apply below_drew1 | refine below_set ?_ GE258.out) | exact HB.out)) hb); clear BK258; clear HB; have HO261 := n0_; have BK258 := n1_; have HB := n2_; clear n0_ n1_ n2_; clear hb ho5; have hcz6_0 : w4.cell? ⟨gb258, 0, none⟩ = some (.int .i64 a0_0) := (blk_cell BK258.out 0).trans rfl; have hcz6_1 : w4.cell? ⟨gb258, 1, none⟩ = some (.int .i64 a0_1) := (blk_cell BK258.out 1).trans rfl; have hcz6_2 : w4.cell? ⟨gb258, 2, none⟩ = some (.int .i64 a0_2) := (blk_cell BK258.out 2).trans rfl; have hcz6_3 : w4.cell? ⟨gb258, 3, none⟩ = some (.int .i64 a0_3) := (blk_cell BK258.out 3).trans rfl; have hcz6_4 : w4.cell? ⟨gb258, 4, none⟩ = some (.bool a0_4) := (blk_cell BK258.out 4).trans rfl; have hcz6_5 : w4.cell? ⟨gb258, 5, none⟩ = some (.bool a0_5) := (blk_cell BK258.out 5).trans rfl; have hcz6_6 : w4.cell? ⟨gb258, 6, none⟩ = some (.bool a0_6) := (blk_cell BK258.out 6).trans rfl; have hfz6_0 := blk_frozen BK258.out 0; have hfz6_1 := blk_frozen BK258.out 1; have hfz6_2 := blk_frozen BK258.out 2; have hfz6_3 := blk_frozen BK258.out 3; have hfz6_4 := blk_frozen BK258.out 4; have hfz6_5 := blk_frozen BK258.out 5; have hfz6_6 := blk_frozen BK258.out 6))
  (try simp only [Act.put, List.setIfInBounds_toArray, List.set_cons_zero, List.set_cons_succ])
  go_cut [3] (fun v3 wc => ∃ (kq : Nat) (x3_1 : List ByteArray), Aside0 (mandolineref09_Text.j0 kq x3_1 a0_0 a0_1 a0_2 a0_3 a0_4 a0_5 a0_6 = some r) ∧ Aside0 (kq ≤ k) ∧ Aside0 (Kd.R Kd.string 9 wc w.heap.size (fun _ => True) v3 x3_1) ∧ Aside0 (wc.heap[gb258]? = some (.cells #[.int .i64 a0_0, .int .i64 a0_1, .int .i64 a0_2, .int .i64 a0_3, .bool a0_4, .bool a0_5, .bool a0_6] 29 (0, 0))) ∧ Aside0 (Below w.heap.size w wc))
  case first =>
    have H := HC2.out
    clear HC2
    by_cases c7 : a0_4 = true
    · subst c7
      have H1 : (if y259.length < 8796093022208 then (mandolineref09_Text.j0 k (y259 ++ [(⟨#[110, 111, 45, 115, 116, 111, 114, 101]⟩ : ByteArray)]) a0_0 a0_1 a0_2 a0_3 true a0_5 a0_6) else (none)) = some r := by rw [if_pos rfl] at H; exact H
      clear H
      have H := H1
      clear H1
      by_cases c8 : y259.length < 8796093022208
      · rw [if_pos c8] at H
        have LMc8 := Aside0.mk c8
        clear c8
        obtain ⟨y262, hy262⟩ : ∃ y_ : List ByteArray, y_ = (y259 ++ [(⟨#[110, 111, 45, 115, 116, 111, 114, 101]⟩ : ByteArray)]) := ⟨_, rfl⟩
        replace H : (mandolineref09_Text.j0 k y262 a0_0 a0_1 a0_2 a0_3 true a0_5 a0_6) = some r := by first | (rw [hy262]; with_reducible exact H) | (have H2_ := (Option.bind_some _ _).symm.trans H; rw [hy262]; with_reducible exact H2_) | (have H2_ := (Option.bind_some _ _).symm.trans H; with_reducible exact H2_) | with_reducible exact H | (rw [hy262]; exact H) | exact H
        have Ny262 := Aside0.mk hy262
        clear hy262
        have H' := Aside0.mk H
        clear H
        go_wp2_with (first | ((with_reducible refine gate_builtin (b := .append) (xs := #[.tmp 9, .tmp 10]) rfl ?_); at_builtin; refine Kd.R_append Kd.string (w0 := w) w.heap.size rfl (.tmp 9) (.tmp 10) 22 9 (.string ⟨#[]⟩) 16 rfl Tryd.underlying22 info9 rfl (by decide) (by omega) v260 y259 (⟨#[110, 111, 45, 115, 116, 111, 114, 101]⟩ : ByteArray) [.string (⟨#[110, 111, 45, 115, 116, 111, 114, 101]⟩ : ByteArray)] (fun _ => True) (fun _ => False) rfl rfl ?aP (fun _ hk => hk.elim) ?aF ?aO ?aB ?aS ?aL ?_; (case aP => exact rfl); (case aB => exact (by repeat (first | (with_reducible first | exact HB.out | apply below_alloc | apply pw_below_drewN | apply below_drew1 | refine below_set ?_ GE258.out) | exact HB.out))); (case aF => exact (fun _ _ => trivial)); (case aO => exact (by (with_reducible repeat (first | apply Kd.R_alloc | apply Kd.R_drewN | apply Kd.R_drew)); exact HO261.out)); (case aS => exact (below_size (by repeat (first | (with_reducible first | exact HB.out | apply below_alloc | apply pw_below_drewN | apply below_drew1 | refine below_set ?_ GE258.out) | exact HB.out)))); (case aL => have := LMc8.out; omega); intro v263 w9 ho hb hg hat; rw [← Ny262.out] at ho; have n0_ := Aside0.mk (blk_grown (g := gb258) (o := .cells #[.int .i64 a0_0, .int .i64 a0_1, .int .i64 a0_2, .int .i64 a0_3, .bool true, .bool a0_5, .bool a0_6] 29 (0, 0)) (by (with_reducible repeat (first | refine blk_drewN ?_ _ | refine blk_drew ?_ | refine blk_alloc ?_ _)); exact BK258.out) hg (Kd.R_ne HO261.out BK258.out (by decide))); have n1_ := Aside0.mk (hb); have n2_ := Aside0.mk (ho); clear BK258; clear HB; clear HO261; have BK258 := n0_; have HB := n1_; have HO264 := n2_; clear n0_ n1_ n2_; clear ho hb hg hat))
        go_meet
        case rel => exact ⟨_, (y262), H', ⟨by first | omega | exact Nat.le_refl _⟩, ⟨by (with_reducible repeat (first | apply Kd.R_alloc | apply Kd.R_drewN | apply Kd.R_drew)); exact HO264.out⟩, ⟨by (with_reducible repeat (first | refine blk_drewN ?_ _ | refine blk_drew ?_ | refine blk_alloc ?_ _)); exact BK258.out⟩, ⟨by repeat (first | (with_reducible first | exact HB.out | apply below_alloc | apply pw_below_drewN | apply below_drew1 | refine below_set ?_ GE258.out) | exact HB.out)⟩⟩
      · rw [if_neg c8] at H
        exact absurd H (by simp)
    · replace c7 := Bool.eq_false_iff.mpr c7
      subst c7
      have H1 : (mandolineref09_Text.j0 k y259 a0_0 a0_1 a0_2 a0_3 false a0_5 a0_6) = some r := by rw [if_neg (show ¬ (false = true) by decide)] at H; exact H
      clear H
      have H := H1
      clear H1
      have H' := Aside0.mk H
      clear H
      go_wp2
      go_meet
      case rel => exact ⟨_, (y259), H', ⟨by first | omega | exact Nat.le_refl _⟩, ⟨by (with_reducible repeat (first | apply Kd.R_alloc | apply Kd.R_drewN | apply Kd.R_drew)); exact HO261.out⟩, ⟨by (with_reducible repeat (first | refine blk_drewN ?_ _ | refine blk_drew ?_ | refine blk_alloc ?_ _)); exact BK258.out⟩, ⟨by repeat (first | (with_reducible first | exact HB.out | apply below_alloc | apply pw_below_drewN | apply below_drew1 | refine below_set ?_ GE258.out) | exact HB.out)⟩⟩
  case rest =>
    clear HC2
    try clear c1
    try clear p2
    try clear c7
    try clear c8
    try clear hcz6_0
    try clear hcz6_1
    try clear hcz6_2
    try clear hcz6_3
    try clear hcz6_4
    try clear hcz6_5
    try clear hcz6_6
    try clear hfz6_0
    try clear hfz6_1
    try clear hfz6_2
    try clear hfz6_3
    try clear hfz6_4
    try clear hfz6_5
    try clear hfz6_6
    obtain ⟨kq, x3_1, HA, HJ1, HO_3, BK258, HB⟩ := hcut
    cases kq with
    | zero => exact absurd HA.out (by simp [mandolineref09_Text.j0])
    | succ kj1 =>
      have H := HA.out
      clear HA
      simp only [mandolineref09_Text.j0] at H
      have HC10 := Aside0.mk H
      clear H
      have hcz11_0 : wc.cell? ⟨gb258, 0, none⟩ = some (.int .i64 a0_0) := (blk_cell BK258.out 0).trans rfl
      have hcz11_1 : wc.cell? ⟨gb258, 1, none⟩ = some (.int .i64 a0_1) := (blk_cell BK258.out 1).trans rfl
      have hcz11_2 : wc.cell? ⟨gb258, 2, none⟩ = some (.int .i64 a0_2) := (blk_cell BK258.out 2).trans rfl
      have hcz11_3 : wc.cell? ⟨gb258, 3, none⟩ = some (.int .i64 a0_3) := (blk_cell BK258.out 3).trans rfl
      have hcz11_4 : wc.cell? ⟨gb258, 4, none⟩ = some (.bool a0_4) := (blk_cell BK258.out 4).trans rfl
      have hcz11_5 : wc.cell? ⟨gb258, 5, none⟩ = some (.bool a0_5) := (blk_cell BK258.out 5).trans rfl
      have hcz11_6 : wc.cell? ⟨gb258, 6, none⟩ = some (.bool a0_6) := (blk_cell BK258.out 6).trans rfl
      have hfz11_0 := blk_frozen BK258.out 0
      have hfz11_1 := blk_frozen BK258.out 1
      have hfz11_2 := blk_frozen BK258.out 2
      have hfz11_3 := blk_frozen BK258.out 3
      have hfz11_4 := blk_frozen BK258.out 4
      have hfz11_5 := blk_frozen BK258.out 5
      have hfz11_6 := blk_frozen BK258.out 6
      go_upto_if 13 with (fail)
      go_cut [3] (fun v3 wc => ∃ (kq : Nat) (x3_9 : List ByteArray), Aside0 (mandolineref09_Text.j1 kq x3_9 a0_0 a0_1 a0_2 a0_3 a0_4 a0_5 a0_6 = some r) ∧ Aside0 (kq ≤ kj1) ∧ Aside0 (Kd.R Kd.string 9 wc w.heap.size (fun _ => True) v3 x3_9) ∧ Aside0 (wc.heap[gb258]? = some (.cells #[.int .i64 a0_0, .int .i64 a0_1, .int .i64 a0_2, .int .i64 a0_3, .bool a0_4, .bool a0_5, .bool a0_6] 29 (0, 0))) ∧ Aside0 (Below w.heap.size w wc))
      case first =>
        have H := HC10.out
        clear HC10
        by_cases c12 : a0_5 = true
        · subst c12
          have H1 : (if x3_1.length < 8796093022208 then (mandolineref09_Text.j1 kj1 (x3_1 ++ [(⟨#[110, 111, 45, 99, 97, 99, 104, 101]⟩ : ByteArray)]) a0_0 a0_1 a0_2 a0_3 a0_4 true a0_6) else (none)) = some r := by rw [if_pos rfl] at H; exact H
          clear H
          have H := H1
          clear H1
          by_cases c13 : x3_1.length < 8796093022208
          · rw [if_pos c13] at H
            have LMc13 := Aside0.mk c13
            clear c13
            obtain ⟨y265, hy265⟩ : ∃ y_ : List ByteArray, y_ = (x3_1 ++ [(⟨#[110, 111, 45, 99, 97, 99, 104, 101]⟩ : ByteArray)]) := ⟨_, rfl⟩
            replace H : (mandolineref09_Text.j1 kj1 y265 a0_0 a0_1 a0_2 a0_3 a0_4 true a0_6) = some r := by first | (rw [hy265]; with_reducible exact H) | (have H2_ := (Option.bind_some _ _).symm.trans H; rw [hy265]; with_reducible exact H2_) | (have H2_ := (Option.bind_some _ _).symm.trans H; with_reducible exact H2_) | with_reducible exact H | (rw [hy265]; exact H) | exact H
            have Ny265 := Aside0.mk hy265
            clear hy265
            have H' := Aside0.mk H
            clear H
            go_wp2_with (first | ((with_reducible refine gate_builtin (b := .append) (xs := #[.tmp 14, .tmp 15]) rfl ?_); at_builtin; refine Kd.R_append Kd.string (w0 := w) w.heap.size rfl (.tmp 14) (.tmp 15) 22 9 (.string ⟨#[]⟩) 16 rfl Tryd.underlying22 info9 rfl (by decide) (by omega) u3 x3_1 (⟨#[110, 111, 45, 99, 97, 99, 104, 101]⟩ : ByteArray) [.string (⟨#[110, 111, 45, 99, 97, 99, 104, 101]⟩ : ByteArray)] (fun _ => True) (fun _ => False) rfl rfl ?aP (fun _ hk => hk.elim) ?aF ?aO ?aB ?aS ?aL ?_; (case aP => exact rfl); (case aB => exact (by repeat (first | (with_reducible first | exact HB.out | apply below_alloc | apply pw_below_drewN | apply below_drew1 | refine below_set ?_ GE258.out) | exact HB.out))); (case aF => exact (fun _ _ => trivial)); (case aO => exact (by (with_reducible repeat (first | apply Kd.R_alloc | apply Kd.R_drewN | apply Kd.R_drew)); exact HO_3.out)); (case aS => exact (below_size (by repeat (first | (with_reducible first | exact HB.out | apply below_alloc | apply pw_below_drewN | apply below_drew1 | refine below_set ?_ GE258.out) | exact HB.out)))); (case aL => have := LMc13.out; omega); intro v266 w14 ho hb hg hat; rw [← Ny265.out] at ho; have n0_ := Aside0.mk (blk_grown (g := gb258) (o := .cells #[.int .i64 a0_0, .int .i64 a0_1, .int .i64 a0_2, .int .i64 a0_3, .bool a0_4, .bool true, .bool a0_6] 29 (0, 0)) (by (with_reducible repeat (first | refine blk_drewN ?_ _ | refine blk_drew ?_ | refine blk_alloc ?_ _)); exact BK258.out) hg (Kd.R_ne HO_3.out BK258.out (by decide))); have n1_ := Aside0.mk (hb); have n2_ := Aside0.mk (ho); clear BK258; clear HB; clear HO_3; have BK258 := n0_; have HB := n1_; have HO267 := n2_; clear n0_ n1_ n2_; clear ho hb hg hat))
            go_meet
            case rel => exact ⟨_, (y265), H', ⟨by have := HJ1.out; first | omega | exact Nat.le_refl _⟩, ⟨by (with_reducible repeat (first | apply Kd.R_alloc | apply Kd.R_drewN | apply Kd.R_drew)); exact HO267.out⟩, ⟨by (with_reducible repeat (first | refine blk_drewN ?_ _ | refine blk_drew ?_ | refine blk_alloc ?_ _)); exact BK258.out⟩, ⟨by repeat (first | (with_reducible first | exact HB.out | apply below_alloc | apply pw_below_drewN | apply below_drew1 | refine below_set ?_ GE258.out) | exact HB.out)⟩⟩
          · rw [if_neg c13] at H
            exact absurd H (by simp)
        · replace c12 := Bool.eq_false_iff.mpr c12
          subst c12
          have H1 : (mandolineref09_Text.j1 kj1 x3_1 a0_0 a0_1 a0_2 a0_3 a0_4 false a0_6) = some r := by rw [if_neg (show ¬ (false = true) by decide)] at H; exact H
          clear H
          have H := H1
          clear H1
          have H' := Aside0.mk H
          clear H
          go_wp2
          go_meet
          case rel => exact ⟨_, (x3_1), H', ⟨by have := HJ1.out; first | omega | exact Nat.le_refl _⟩, ⟨by (with_reducible repeat (first | apply Kd.R_alloc | apply Kd.R_drewN | apply Kd.R_drew)); exact HO_3.out⟩, ⟨by (with_reducible repeat (first | refine blk_drewN ?_ _ | refine blk_drew ?_ | refine blk_alloc ?_ _)); exact BK258.out⟩, ⟨by repeat (first | (with_reducible first | exact HB.out | apply below_alloc | apply pw_below_drewN | apply below_drew1 | refine below_set ?_ GE258.out) | exact HB.out)⟩⟩
      case rest =>
        clear HC10
        try clear c1
        try clear p2
        try clear c7
        try clear c8
        try clear c12
        try clear c13
        try clear hcz11_0
        try clear hcz11_1
        try clear hcz11_2
        try clear hcz11_3
        try clear hcz11_4
        try clear hcz11_5
        try clear hcz11_6
        try clear hcz6_0
        try clear hcz6_1
        try clear hcz6_2
        try clear hcz6_3
        try clear hcz6_4
        try clear hcz6_5
        try clear hcz6_6
        try clear hfz11_0
        try clear hfz11_1
        try clear hfz11_2
        try clear hfz11_3
        try clear hfz11_4
        try clear hfz11_5
        try clear hfz11_6
        try clear hfz6_0
        try clear hfz6_1
        try clear hfz6_2
        try clear hfz6_3
        try clear hfz6_4
        try clear hfz6_5
        try clear hfz6_6
        try clear p2
        obtain ⟨kq, x3_9, HA, HJ9, HO_3, BK258, HB⟩ := hcut
        cases kq with
        | zero => exact absurd HA.out (by simp [mandolineref09_Text.j1])
        | succ kj9 =>
          have H := HA.out
          clear HA
          simp only [mandolineref09_Text.j1] at H
          have HC15 := Aside0.mk H
          clear H
          have hcz16_0 : wc.cell? ⟨gb258, 0, none⟩ = some (.int .i64 a0_0) := (blk_cell BK258.out 0).trans rfl
          have hcz16_1 : wc.cell? ⟨gb258, 1, none⟩ = some (.int .i64 a0_1) := (blk_cell BK258.out 1).trans rfl
          have hcz16_2 : wc.cell? ⟨gb258, 2, none⟩ = some (.int .i64 a0_2) := (blk_cell BK258.out 2).trans rfl
          have hcz16_3 : wc.cell? ⟨gb258, 3, none⟩ = some (.int .i64 a0_3) := (blk_cell BK258.out 3).trans rfl
          have hcz16_4 : wc.cell? ⟨gb258, 4, none⟩ = some (.bool a0_4) := (blk_cell BK258.out 4).trans rfl
          have hcz16_5 : wc.cell? ⟨gb258, 5, none⟩ = some (.bool a0_5) := (blk_cell BK258.out 5).trans rfl
          have hcz16_6 : wc.cell? ⟨gb258, 6, none⟩ = some (.bool a0_6) := (blk_cell BK258.out 6).trans rfl
          have hfz16_0 := blk_frozen BK258.out 0
          have hfz16_1 := blk_frozen BK258.out 1
          have hfz16_2 := blk_frozen BK258.out 2
          have hfz16_3 := blk_frozen BK258.out 3
          have hfz16_4 := blk_frozen BK258.out 4
          have hfz16_5 := blk_frozen BK258.out 5
          have hfz16_6 := blk_frozen BK258.out 6
          go_upto_if 18 with (fail)
          go_cut [3] (fun v3 wc => ∃ (kq : Nat) (x3_14 : List ByteArray), Aside0 (mandolineref09_Text.j2 kq x3_14 a0_0 a0_1 a0_2 a0_3 a0_4 a0_5 a0_6 = some r) ∧ Aside0 (kq ≤ kj9) ∧ Aside0 (Kd.R Kd.string 9 wc w.heap.size (fun _ => True) v3 x3_14) ∧ Aside0 (wc.heap[gb258]? = some (.cells #[.int .i64 a0_0, .int .i64 a0_1, .int .i64 a0_2, .int .i64 a0_3, .bool a0_4, .bool a0_5, .bool a0_6] 29 (0, 0))) ∧ Aside0 (Below w.heap.size w wc))
          case first =>
            have H := HC15.out
            clear HC15
            by_cases c17 : a0_6 = true
            · subst c17
              have H1 : (if x3_9.length < 8796093022208 then (mandolineref09_Text.j2 kj9 (x3_9 ++ [(⟨#[112, 114, 105, 118, 97, 116, 101]⟩ : ByteArray)]) a0_0 a0_1 a0_2 a0_3 a0_4 a0_5 true) else (none)) = some r := by rw [if_pos rfl] at H; exact H
              clear H
              have H := H1
              clear H1
              by_cases c18 : x3_9.length < 8796093022208
              · rw [if_pos c18] at H
                have LMc18 := Aside0.mk c18
                clear c18
                obtain ⟨y268, hy268⟩ : ∃ y_ : List ByteArray, y_ = (x3_9 ++ [(⟨#[112, 114, 105, 118, 97, 116, 101]⟩ : ByteArray)]) := ⟨_, rfl⟩
                replace H : (mandolineref09_Text.j2 kj9 y268 a0_0 a0_1 a0_2 a0_3 a0_4 a0_5 true) = some r := by first | (rw [hy268]; with_reducible exact H) | (have H2_ := (Option.bind_some _ _).symm.trans H; rw [hy268]; with_reducible exact H2_) | (have H2_ := (Option.bind_some _ _).symm.trans H; with_reducible exact H2_) | with_reducible exact H | (rw [hy268]; exact H) | exact H
                have Ny268 := Aside0.mk hy268
                clear hy268
                have H' := Aside0.mk H
                clear H
                go_wp2_with (first | ((with_reducible refine gate_builtin (b := .append) (xs := #[.tmp 19, .tmp 20]) rfl ?_); at_builtin; refine Kd.R_append Kd.string (w0 := w) w.heap.size rfl (.tmp 19) (.tmp 20) 22 9 (.string ⟨#[]⟩) 16 rfl Tryd.underlying22 info9 rfl (by decide) (by omega) u3 x3_9 (⟨#[112, 114, 105, 118, 97, 116, 101]⟩ : ByteArray) [.string (⟨#[112, 114, 105, 118, 97, 116, 101]⟩ : ByteArray)] (fun _ => True) (fun _ => False) rfl rfl ?aP (fun _ hk => hk.elim) ?aF ?aO ?aB ?aS ?aL ?_; (case aP => exact rfl); (case aB => exact (by repeat (first | (with_reducible first | exact HB.out | apply below_alloc | apply pw_below_drewN | apply below_drew1 | refine below_set ?_ GE258.out) | exact HB.out))); (case aF => exact (fun _ _ => trivial)); (case aO => exact (by (with_reducible repeat (first | apply Kd.R_alloc | apply Kd.R_drewN | apply Kd.R_drew)); exact HO_3.out)); (case aS => exact (below_size (by repeat (first | (with_reducible first | exact HB.out | apply below_alloc | apply pw_below_drewN | apply below_drew1 | refine below_set ?_ GE258.out) | exact HB.out)))); (case aL => have := LMc18.out; omega); intro v269 w19 ho hb hg hat; rw [← Ny268.out] at ho; have n0_ := Aside0.mk (blk_grown (g := gb258) (o := .cells #[.int .i64 a0_0, .int .i64 a0_1, .int .i64 a0_2, .int .i64 a0_3, .bool a0_4, .bool a0_5, .bool true] 29 (0, 0)) (by (with_reducible repeat (first | refine blk_drewN ?_ _ | refine blk_drew ?_ | refine blk_alloc ?_ _)); exact BK258.out) hg (Kd.R_ne HO_3.out BK258.out (by decide))); have n1_ := Aside0.mk (hb); have n2_ := Aside0.mk (ho); clear BK258; clear HB; clear HO_3; have BK258 := n0_; have HB := n1_; have HO270 := n2_; clear n0_ n1_ n2_; clear ho hb hg hat))
                go_meet
                case rel => exact ⟨_, (y268), H', ⟨by have := HJ1.out; have := HJ9.out; first | omega | exact Nat.le_refl _⟩, ⟨by (with_reducible repeat (first | apply Kd.R_alloc | apply Kd.R_drewN | apply Kd.R_drew)); exact HO270.out⟩, ⟨by (with_reducible repeat (first | refine blk_drewN ?_ _ | refine blk_drew ?_ | refine blk_alloc ?_ _)); exact BK258.out⟩, ⟨by repeat (first | (with_reducible first | exact HB.out | apply below_alloc | apply pw_below_drewN | apply below_drew1 | refine below_set ?_ GE258.out) | exact HB.out)⟩⟩
              · rw [if_neg c18] at H
                exact absurd H (by simp)
            · replace c17 := Bool.eq_false_iff.mpr c17
              subst c17
              have H1 : (mandolineref09_Text.j2 kj9 x3_9 a0_0 a0_1 a0_2 a0_3 a0_4 a0_5 false) = some r := by rw [if_neg (show ¬ (false = true) by decide)] at H; exact H
              clear H
              have H := H1
              clear H1
              have H' := Aside0.mk H
              clear H
              go_wp2
              go_meet
              case rel => exact ⟨_, (x3_9), H', ⟨by have := HJ1.out; have := HJ9.out; first | omega | exact Nat.le_refl _⟩, ⟨by (with_reducible repeat (first | apply Kd.R_alloc | apply Kd.R_drewN | apply Kd.R_drew)); exact HO_3.out⟩, ⟨by (with_reducible repeat (first | refine blk_drewN ?_ _ | refine blk_drew ?_ | refine blk_alloc ?_ _)); exact BK258.out⟩, ⟨by repeat (first | (with_reducible first | exact HB.out | apply below_alloc | apply pw_below_drewN | apply below_drew1 | refine below_set ?_ GE258.out) | exact HB.out)⟩⟩
          case rest =>
            clear HC15
            try clear c1
            try clear p2
            try clear c7
            try clear c8
            try clear c12
            try clear c13
            try clear c17
            try clear c18
            try clear hcz11_0
            try clear hcz11_1
            try clear hcz11_2
            try clear hcz11_3
            try clear hcz11_4
            try clear hcz11_5
            try clear hcz11_6
            try clear hcz16_0
            try clear hcz16_1
            try clear hcz16_2
            try clear hcz16_3
            try clear hcz16_4
            try clear hcz16_5
            try clear hcz16_6
            try clear hcz6_0
            try clear hcz6_1
            try clear hcz6_2
            try clear hcz6_3
            try clear hcz6_4
            try clear hcz6_5
            try clear hcz6_6
            try clear hfz11_0
            try clear hfz11_1
            try clear hfz11_2
            try clear hfz11_3
            try clear hfz11_4
            try clear hfz11_5
            try clear hfz11_6
            try clear hfz16_0
            try clear hfz16_1
            try clear hfz16_2
            try clear hfz16_3
            try clear hfz16_4
            try clear hfz16_5
            try clear hfz16_6
            try clear hfz6_0
            try clear hfz6_1
            try clear hfz6_2
            try clear hfz6_3
            try clear hfz6_4
            try clear hfz6_5
            try clear hfz6_6
            try clear p2
            obtain ⟨kq, x3_14, HA, HJ14, HO_3, BK258, HB⟩ := hcut
            cases kq with
            | zero => exact absurd HA.out (by simp [mandolineref09_Text.j2])
            | succ kj14 =>
              have H := HA.out
              clear HA
              simp only [mandolineref09_Text.j2] at H
              have HC20 := Aside0.mk H
              clear H
              have hcz21_0 : wc.cell? ⟨gb258, 0, none⟩ = some (.int .i64 a0_0) := (blk_cell BK258.out 0).trans rfl
              have hcz21_1 : wc.cell? ⟨gb258, 1, none⟩ = some (.int .i64 a0_1) := (blk_cell BK258.out 1).trans rfl
              have hcz21_2 : wc.cell? ⟨gb258, 2, none⟩ = some (.int .i64 a0_2) := (blk_cell BK258.out 2).trans rfl
              have hcz21_3 : wc.cell? ⟨gb258, 3, none⟩ = some (.int .i64 a0_3) := (blk_cell BK258.out 3).trans rfl
              have hcz21_4 : wc.cell? ⟨gb258, 4, none⟩ = some (.bool a0_4) := (blk_cell BK258.out 4).trans rfl
              have hcz21_5 : wc.cell? ⟨gb258, 5, none⟩ = some (.bool a0_5) := (blk_cell BK258.out 5).trans rfl
              have hcz21_6 : wc.cell? ⟨gb258, 6, none⟩ = some (.bool a0_6) := (blk_cell BK258.out 6).trans rfl
              have hfz21_0 := blk_frozen BK258.out 0
              have hfz21_1 := blk_frozen BK258.out 1
              have hfz21_2 := blk_frozen BK258.out 2
              have hfz21_3 := blk_frozen BK258.out 3
              have hfz21_4 := blk_frozen BK258.out 4
              have hfz21_5 := blk_frozen BK258.out 5
              have hfz21_6 := blk_frozen BK258.out 6
              go_upto_if 24 with (fail)
              go_cut [3] (fun v3 wc => ∃ (kq : Nat) (x3_19 : List ByteArray), Aside0 (mandolineref09_Text.j3 kq x3_19 a0_0 a0_1 a0_2 a0_3 a0_4 a0_5 a0_6 = some r) ∧ Aside0 (kq ≤ kj14) ∧ Aside0 (Kd.R Kd.string 9 wc w.heap.size (fun _ => True) v3 x3_19) ∧ Aside0 (wc.heap[gb258]? = some (.cells #[.int .i64 a0_0, .int .i64 a0_1, .int .i64 a0_2, .int .i64 a0_3, .bool a0_4, .bool a0_5, .bool a0_6] 29 (0, 0))) ∧ Aside0 (Below w.heap.size w wc))
              case first =>
                have H := HC20.out
                clear HC20
                by_cases c22 : a0_0 ≥ 0
                · rw [if_pos c22] at H
                  have c22b0 : decide (0 ≤ a0_0) = true := decide_eq_true c22
                  clear c22
                  (first | rw [c22b0] | (simp only [i64_w, i32_w]; rw [c22b0]) | skip)
                  replace H := Option.bind_eq_some_iff.mp H
                  obtain ⟨t271, A230, H⟩ := H
                  replace H : ((mandolineref09_Num.f kj14 t271).bind fun t272 => (if 8 + t272.size ≤ 9223372036854775807 then (if x3_14.length < 8796093022208 then (mandolineref09_Text.j3 kj14 (x3_14 ++ [(⟨#[109, 97, 120, 45, 97, 103, 101, 61]⟩ : ByteArray) ++ t272]) a0_0 a0_1 a0_2 a0_3 a0_4 a0_5 a0_6) else (none)) else (none))) = some r := H
                  have A23 := Aside0.mk A230
                  clear A230
                  replace H := Option.bind_eq_some_iff.mp H
                  obtain ⟨t272, A240, H⟩ := H
                  replace H : (if 8 + t272.size ≤ 9223372036854775807 then (if x3_14.length < 8796093022208 then (mandolineref09_Text.j3 kj14 (x3_14 ++ [(⟨#[109, 97, 120, 45, 97, 103, 101, 61]⟩ : ByteArray) ++ t272]) a0_0 a0_1 a0_2 a0_3 a0_4 a0_5 a0_6) else (none)) else (none)) = some r := H
                  have A24 := Aside0.mk A240
                  clear A240
                  by_cases c25 : 8 + t272.size ≤ 9223372036854775807
                  · rw [if_pos c25] at H
                    have c25b0 := eq_true c25
                    have c25b1 : decide (8 + t272.size ≤ 9223372036854775807) = true := decide_eq_true c25
                    try have c25b2 : (9223372036854775807 < 8 + t272.size) = False := eq_false (Nat.not_lt.2 c25)
                    by_cases c26 : x3_14.length < 8796093022208
                    · rw [if_pos c26] at H
                      have LMc26 := Aside0.mk c26
                      clear c26
                      obtain ⟨y273, hy273⟩ : ∃ y_ : List ByteArray, y_ = (x3_14 ++ [(⟨#[109, 97, 120, 45, 97, 103, 101, 61]⟩ : ByteArray) ++ t272]) := ⟨_, rfl⟩
                      replace H : (mandolineref09_Text.j3 kj14 y273 a0_0 a0_1 a0_2 a0_3 a0_4 a0_5 a0_6) = some r := by first | (rw [hy273]; with_reducible exact H) | (have H2_ := (Option.bind_some _ _).symm.trans H; rw [hy273]; with_reducible exact H2_) | (have H2_ := (Option.bind_some _ _).symm.trans H; with_reducible exact H2_) | with_reducible exact H | (rw [hy273]; exact H) | exact H
                      have Ny273 := Aside0.mk hy273
                      clear hy273
                      have H' := Aside0.mk H
                      clear H
                      have hcz27_0 : wc.cell? ⟨gb258, 0, none⟩ = some (.int .i64 a0_0) := (blk_cell BK258.out 0).trans rfl
                      have hcz27_1 : wc.cell? ⟨gb258, 1, none⟩ = some (.int .i64 a0_1) := (blk_cell BK258.out 1).trans rfl
                      have hcz27_2 : wc.cell? ⟨gb258, 2, none⟩ = some (.int .i64 a0_2) := (blk_cell BK258.out 2).trans rfl
                      have hcz27_3 : wc.cell? ⟨gb258, 3, none⟩ = some (.int .i64 a0_3) := (blk_cell BK258.out 3).trans rfl
                      have hcz27_4 : wc.cell? ⟨gb258, 4, none⟩ = some (.bool a0_4) := (blk_cell BK258.out 4).trans rfl
                      have hcz27_5 : wc.cell? ⟨gb258, 5, none⟩ = some (.bool a0_5) := (blk_cell BK258.out 5).trans rfl
                      have hcz27_6 : wc.cell? ⟨gb258, 6, none⟩ = some (.bool a0_6) := (blk_cell BK258.out 6).trans rfl
                      have hfz27_0 := blk_frozen BK258.out 0
                      have hfz27_1 := blk_frozen BK258.out 1
                      have hfz27_2 := blk_frozen BK258.out 2
                      have hfz27_3 := blk_frozen BK258.out 3
                      have hfz27_4 := blk_frozen BK258.out 4
                      have hfz27_5 := blk_frozen BK258.out 5
                      have hfz27_6 := blk_frozen BK258.out 6
                      go_wp2_with (first | ((with_reducible refine gate_callee (f := 33) rfl ?_); refine goesL_ (some 28) rfl rfl Tryd.func33 (by kernel_rfl) rfl #[.int .i64 a0_0] rfl (by (try simp only [List.map_toArray, List.map_cons, List.map_nil]); first | done | rfl | (simp only [List.length_drop, List.length_take]; rfl)) ?_; (with_reducible refine (mandolineref09_cap.calls a0_0 t271 _ A23.out).mono ?_); rintro e w' ⟨rfl, ⟨nd, rfl⟩⟩; refine ⟨_, rfl, ?_⟩) | ((with_reducible refine gate_callee (f := 32) rfl ?_); refine goesL_ (some 29) rfl rfl Tryd.func32 (by kernel_rfl) rfl #[.int .i64 t271] rfl (by (try simp only [List.map_toArray, List.map_cons, List.map_nil]); first | done | rfl | (simp only [List.length_drop, List.length_take]; rfl)) ?_; (with_reducible refine (mandolineref09_Num.calls kj14 t271 t272 _ A24.out).mono ?_); rintro e w28 ⟨rfl, hb⟩; refine ⟨_, rfl, ?_⟩; have n0_ := Aside0.mk (Kd.R_below (by (with_reducible repeat (first | apply Kd.R_alloc | apply Kd.R_drewN | apply Kd.R_drew)); exact HO_3.out) hb); have n1_ := Aside0.mk (blk_below (g := gb258) (o := .cells #[.int .i64 a0_0, .int .i64 a0_1, .int .i64 a0_2, .int .i64 a0_3, .bool a0_4, .bool a0_5, .bool a0_6] 29 (0, 0)) (by (with_reducible repeat (first | refine blk_drewN ?_ _ | refine blk_drew ?_ | refine blk_alloc ?_ _)); exact BK258.out) hb); have n2_ := Aside0.mk (below_step (by repeat (first | (with_reducible first | exact HB.out | apply below_alloc | apply pw_below_drewN | apply below_drew1 | refine below_set ?_ GE258.out) | exact HB.out)) hb); clear HO_3; clear BK258; clear HB; have HO_3 := n0_; have BK258 := n1_; have HB := n2_; clear n0_ n1_ n2_; (try clear hb); (try clear hb2); (try clear hk); (try clear hi)) | ((with_reducible refine gate_builtin (b := .append) (xs := #[.tmp 25, .tmp 31]) rfl ?_); at_builtin; refine Kd.R_append Kd.string (w0 := w) w.heap.size rfl (.tmp 25) (.tmp 31) 22 9 (.string ⟨#[]⟩) 16 rfl Tryd.underlying22 info9 rfl (by decide) (by omega) u3 x3_14 ((⟨#[109, 97, 120, 45, 97, 103, 101, 61]⟩ : ByteArray) ++ t272) [.string ((⟨#[109, 97, 120, 45, 97, 103, 101, 61]⟩ : ByteArray) ++ t272)] (fun _ => True) (fun _ => False) rfl rfl ?aP (fun _ hk => hk.elim) ?aF ?aO ?aB ?aS ?aL ?_; (case aP => exact rfl); (case aB => exact (by repeat (first | (with_reducible first | exact HB.out | apply below_alloc | apply pw_below_drewN | apply below_drew1 | refine below_set ?_ GE258.out) | exact HB.out))); (case aF => exact (fun _ _ => trivial)); (case aO => exact (by (with_reducible repeat (first | apply Kd.R_alloc | apply Kd.R_drewN | apply Kd.R_drew)); exact HO_3.out)); (case aS => exact (below_size (by repeat (first | (with_reducible first | exact HB.out | apply below_alloc | apply pw_below_drewN | apply below_drew1 | refine below_set ?_ GE258.out) | exact HB.out)))); (case aL => have := LMc26.out; omega); intro v274 w29 ho hb hg hat; rw [← Ny273.out] at ho; have n0_ := Aside0.mk (blk_grown (g := gb258) (o := .cells #[.int .i64 a0_0, .int .i64 a0_1, .int .i64 a0_2, .int .i64 a0_3, .bool a0_4, .bool a0_5, .bool a0_6] 29 (0, 0)) (by (with_reducible repeat (first | refine blk_drewN ?_ _ | refine blk_drew ?_ | refine blk_alloc ?_ _)); exact BK258.out) hg (Kd.R_ne HO_3.out BK258.out (by decide))); have n1_ := Aside0.mk (hb); have n2_ := Aside0.mk (ho); clear BK258; clear HB; clear HO_3; have BK258 := n0_; have HB := n1_; have HO275 := n2_; clear n0_ n1_ n2_; clear ho hb hg hat))
                      go_meet
                      case rel => exact ⟨_, (y273), H', ⟨by have := HJ1.out; have := HJ9.out; have := HJ14.out; first | omega | exact Nat.le_refl _⟩, ⟨by (with_reducible repeat (first | apply Kd.R_alloc | apply Kd.R_drewN | apply Kd.R_drew)); exact HO275.out⟩, ⟨by (with_reducible repeat (first | refine blk_drewN ?_ _ | refine blk_drew ?_ | refine blk_alloc ?_ _)); exact BK258.out⟩, ⟨by repeat (first | (with_reducible first | exact HB.out | apply below_alloc | apply pw_below_drewN | apply below_drew1 | refine below_set ?_ GE258.out) | exact HB.out)⟩⟩
                    · rw [if_neg c26] at H
                      exact absurd H (by simp)
                  · rw [if_neg c25] at H
                    exact absurd H (by simp)
                · rw [if_neg c22] at H
                  have c22b0 : decide (0 ≤ a0_0) = false := decide_eq_false c22
                  clear c22
                  (first | rw [c22b0] | (simp only [i64_w, i32_w]; rw [c22b0]) | skip)
                  have H' := Aside0.mk H
                  clear H
                  go_wp2
                  go_meet
                  case rel => exact ⟨_, (x3_14), H', ⟨by have := HJ1.out; have := HJ9.out; have := HJ14.out; first | omega | exact Nat.le_refl _⟩, ⟨by (with_reducible repeat (first | apply Kd.R_alloc | apply Kd.R_drewN | apply Kd.R_drew)); exact HO_3.out⟩, ⟨by (with_reducible repeat (first | refine blk_drewN ?_ _ | refine blk_drew ?_ | refine blk_alloc ?_ _)); exact BK258.out⟩, ⟨by repeat (first | (with_reducible first | exact HB.out | apply below_alloc | apply pw_below_drewN | apply below_drew1 | refine below_set ?_ GE258.out) | exact HB.out)⟩⟩
              case rest =>
                clear HC20
                try clear c1
                try clear c2
                try clear p2
                try clear c3
                try clear c7
                try clear c8
                try clear c12
                try clear c13
                try clear c17
                try clear c18
                try clear c22
                try clear c22b0
                try clear c25
                try clear c25b0
                try clear c25b1
                try clear c25b2
                try clear c26
                try clear hcz11_0
                try clear hcz11_1
                try clear hcz11_2
                try clear hcz11_3
                try clear hcz11_4
                try clear hcz11_5
                try clear hcz11_6
                try clear hcz16_0
                try clear hcz16_1
                try clear hcz16_2
                try clear hcz16_3
                try clear hcz16_4
                try clear hcz16_5
                try clear hcz16_6
                try clear hcz21_0
                try clear hcz21_1
                try clear hcz21_2
                try clear hcz21_3
                try clear hcz21_4
                try clear hcz21_5
                try clear hcz21_6
                try clear hcz27_0
                try clear hcz27_1
                try clear hcz27_2
                try clear hcz27_3
                try clear hcz27_4
                try clear hcz27_5
                try clear hcz27_6
                try clear hcz6_0
                try clear hcz6_1
                try clear hcz6_2
                try clear hcz6_3
                try clear hcz6_4
                try clear hcz6_5
                try clear hcz6_6
                try clear hfz11_0
                try clear hfz11_1
                try clear hfz11_2
                try clear hfz11_3
                try clear hfz11_4
                try clear hfz11_5
                try clear hfz11_6
                try clear hfz16_0
                try clear hfz16_1
                try clear hfz16_2
                try clear hfz16_3
                try clear hfz16_4
                try clear hfz16_5
                try clear hfz16_6
                try clear hfz21_0
                try clear hfz21_1
                try clear hfz21_2
                try clear hfz21_3
                try clear hfz21_4
                try clear hfz21_5
                try clear hfz21_6
                try clear hfz27_0
                try clear hfz27_1
                try clear hfz27_2
                try clear hfz27_3
                try clear hfz27_4
                try clear hfz27_5
                try clear hfz27_6
                try clear hfz6_0
                try clear hfz6_1
                try clear hfz6_2
                try clear hfz6_3
                try clear hfz6_4
                try clear hfz6_5
                try clear hfz6_6
                try clear p2
                obtain ⟨kq, x3_19, HA, HJ19, HO_3, BK258, HB⟩ := hcut
                cases kq with
                | zero => exact absurd HA.out (by simp [mandolineref09_Text.j3])
                | succ kj19 =>
                  have H := HA.out
                  clear HA
                  simp only [mandolineref09_Text.j3] at H
                  have HC30 := Aside0.mk H
                  clear H
                  have hcz31_0 : wc.cell? ⟨gb258, 0, none⟩ = some (.int .i64 a0_0) := (blk_cell BK258.out 0).trans rfl
                  have hcz31_1 : wc.cell? ⟨gb258, 1, none⟩ = some (.int .i64 a0_1) := (blk_cell BK258.out 1).trans rfl
                  have hcz31_2 : wc.cell? ⟨gb258, 2, none⟩ = some (.int .i64 a0_2) := (blk_cell BK258.out 2).trans rfl
                  have hcz31_3 : wc.cell? ⟨gb258, 3, none⟩ = some (.int .i64 a0_3) := (blk_cell BK258.out 3).trans rfl
                  have hcz31_4 : wc.cell? ⟨gb258, 4, none⟩ = some (.bool a0_4) := (blk_cell BK258.out 4).trans rfl
                  have hcz31_5 : wc.cell? ⟨gb258, 5, none⟩ = some (.bool a0_5) := (blk_cell BK258.out 5).trans rfl
                  have hcz31_6 : wc.cell? ⟨gb258, 6, none⟩ = some (.bool a0_6) := (blk_cell BK258.out 6).trans rfl
                  have hfz31_0 := blk_frozen BK258.out 0
                  have hfz31_1 := blk_frozen BK258.out 1
                  have hfz31_2 := blk_frozen BK258.out 2
                  have hfz31_3 := blk_frozen BK258.out 3
                  have hfz31_4 := blk_frozen BK258.out 4
                  have hfz31_5 := blk_frozen BK258.out 5
                  have hfz31_6 := blk_frozen BK258.out 6
                  go_upto_if 35 with (fail)
                  go_cut [3] (fun v3 wc => ∃ (kq : Nat) (x3_29 : List ByteArray), Aside0 (mandolineref09_Text.j4 kq x3_29 a0_0 a0_1 a0_2 a0_3 a0_4 a0_5 a0_6 = some r) ∧ Aside0 (kq ≤ kj19) ∧ Aside0 (Kd.R Kd.string 9 wc w.heap.size (fun _ => True) v3 x3_29) ∧ Aside0 (wc.heap[gb258]? = some (.cells #[.int .i64 a0_0, .int .i64 a0_1, .int .i64 a0_2, .int .i64 a0_3, .bool a0_4, .bool a0_5, .bool a0_6] 29 (0, 0))) ∧ Aside0 (Below w.heap.size w wc))
                  case first =>
                    have H := HC30.out
                    clear HC30
                    by_cases c32 : a0_1 ≥ 0
                    · rw [if_pos c32] at H
                      have c32b0 : decide (0 ≤ a0_1) = true := decide_eq_true c32
                      clear c32
                      (first | rw [c32b0] | (simp only [i64_w, i32_w]; rw [c32b0]) | skip)
                      replace H := Option.bind_eq_some_iff.mp H
                      obtain ⟨t276, A330, H⟩ := H
                      replace H : ((mandolineref09_Num.f kj19 t276).bind fun t277 => (if 9 + t277.size ≤ 9223372036854775807 then (if x3_19.length < 8796093022208 then (mandolineref09_Text.j4 kj19 (x3_19 ++ [(⟨#[115, 45, 109, 97, 120, 97, 103, 101, 61]⟩ : ByteArray) ++ t277]) a0_0 a0_1 a0_2 a0_3 a0_4 a0_5 a0_6) else (none)) else (none))) = some r := H
                      have A33 := Aside0.mk A330
                      clear A330
                      replace H := Option.bind_eq_some_iff.mp H
                      obtain ⟨t277, A340, H⟩ := H
                      replace H : (if 9 + t277.size ≤ 9223372036854775807 then (if x3_19.length < 8796093022208 then (mandolineref09_Text.j4 kj19 (x3_19 ++ [(⟨#[115, 45, 109, 97, 120, 97, 103, 101, 61]⟩ : ByteArray) ++ t277]) a0_0 a0_1 a0_2 a0_3 a0_4 a0_5 a0_6) else (none)) else (none)) = some r := H
                      have A34 := Aside0.mk A340
                      clear A340
                      by_cases c35 : 9 + t277.size ≤ 9223372036854775807
                      · rw [if_pos c35] at H
                        have c35b0 := eq_true c35
                        have c35b1 : decide (9 + t277.size ≤ 9223372036854775807) = true := decide_eq_true c35
                        try have c35b2 : (9223372036854775807 < 9 + t277.size) = False := eq_false (Nat.not_lt.2 c35)
                        by_cases c36 : x3_19.length < 8796093022208
                        · rw [if_pos c36] at H
                          have LMc36 := Aside0.mk c36
                          clear c36
                          obtain ⟨y278, hy278⟩ : ∃ y_ : List ByteArray, y_ = (x3_19 ++ [(⟨#[115, 45, 109, 97, 120, 97, 103, 101, 61]⟩ : ByteArray) ++ t277]) := ⟨_, rfl⟩
                          replace H : (mandolineref09_Text.j4 kj19 y278 a0_0 a0_1 a0_2 a0_3 a0_4 a0_5 a0_6) = some r := by first | (rw [hy278]; with_reducible exact H) | (have H2_ := (Option.bind_some _ _).symm.trans H; rw [hy278]; with_reducible exact H2_) | (have H2_ := (Option.bind_some _ _).symm.trans H; with_reducible exact H2_) | with_reducible exact H | (rw [hy278]; exact H) | exact H
                          have Ny278 := Aside0.mk hy278
                          clear hy278
                          have H' := Aside0.mk H
                          clear H
                          have hcz37_0 : wc.cell? ⟨gb258, 0, none⟩ = some (.int .i64 a0_0) := (blk_cell BK258.out 0).trans rfl
                          have hcz37_1 : wc.cell? ⟨gb258, 1, none⟩ = some (.int .i64 a0_1) := (blk_cell BK258.out 1).trans rfl
                          have hcz37_2 : wc.cell? ⟨gb258, 2, none⟩ = some (.int .i64 a0_2) := (blk_cell BK258.out 2).trans rfl
                          have hcz37_3 : wc.cell? ⟨gb258, 3, none⟩ = some (.int .i64 a0_3) := (blk_cell BK258.out 3).trans rfl
                          have hcz37_4 : wc.cell? ⟨gb258, 4, none⟩ = some (.bool a0_4) := (blk_cell BK258.out 4).trans rfl
                          have hcz37_5 : wc.cell? ⟨gb258, 5, none⟩ = some (.bool a0_5) := (blk_cell BK258.out 5).trans rfl
                          have hcz37_6 : wc.cell? ⟨gb258, 6, none⟩ = some (.bool a0_6) := (blk_cell BK258.out 6).trans rfl
                          have hfz37_0 := blk_frozen BK258.out 0
                          have hfz37_1 := blk_frozen BK258.out 1
                          have hfz37_2 := blk_frozen BK258.out 2
                          have hfz37_3 := blk_frozen BK258.out 3
                          have hfz37_4 := blk_frozen BK258.out 4
                          have hfz37_5 := blk_frozen BK258.out 5
                          have hfz37_6 := blk_frozen BK258.out 6
                          go_wp2_with (first | ((with_reducible refine gate_callee (f := 33) rfl ?_); refine goesL_ (some 39) rfl rfl Tryd.func33 (by kernel_rfl) rfl #[.int .i64 a0_1] rfl (by (try simp only [List.map_toArray, List.map_cons, List.map_nil]); first | done | rfl | (simp only [List.length_drop, List.length_take]; rfl)) ?_; (with_reducible refine (mandolineref09_cap.calls a0_1 t276 _ A33.out).mono ?_); rintro e w' ⟨rfl, ⟨nd, rfl⟩⟩; refine ⟨_, rfl, ?_⟩) | ((with_reducible refine gate_callee (f := 32) rfl ?_); refine goesL_ (some 40) rfl rfl Tryd.func32 (by kernel_rfl) rfl #[.int .i64 t276] rfl (by (try simp only [List.map_toArray, List.map_cons, List.map_nil]); first | done | rfl | (simp only [List.length_drop, List.length_take]; rfl)) ?_; (with_reducible refine (mandolineref09_Num.calls kj19 t276 t277 _ A34.out).mono ?_); rintro e w38 ⟨rfl, hb⟩; refine ⟨_, rfl, ?_⟩; have n0_ := Aside0.mk (Kd.R_below (by (with_reducible repeat (first | apply Kd.R_alloc | apply Kd.R_drewN | apply Kd.R_drew)); exact HO_3.out) hb); have n1_ := Aside0.mk (blk_below (g := gb258) (o := .cells #[.int .i64 a0_0, .int .i64 a0_1, .int .i64 a0_2, .int .i64 a0_3, .bool a0_4, .bool a0_5, .bool a0_6] 29 (0, 0)) (by (with_reducible repeat (first | refine blk_drewN ?_ _ | refine blk_drew ?_ | refine blk_alloc ?_ _)); exact BK258.out) hb); have n2_ := Aside0.mk (below_step (by repeat (first | (with_reducible first | exact HB.out | apply below_alloc | apply pw_below_drewN | apply below_drew1 | refine below_set ?_ GE258.out) | exact HB.out)) hb); clear HO_3; clear BK258; clear HB; have HO_3 := n0_; have BK258 := n1_; have HB := n2_; clear n0_ n1_ n2_; (try clear hb); (try clear hb2); (try clear hk); (try clear hi)) | ((with_reducible refine gate_builtin (b := .append) (xs := #[.tmp 36, .tmp 42]) rfl ?_); at_builtin; refine Kd.R_append Kd.string (w0 := w) w.heap.size rfl (.tmp 36) (.tmp 42) 22 9 (.string ⟨#[]⟩) 16 rfl Tryd.underlying22 info9 rfl (by decide) (by omega) u3 x3_19 ((⟨#[115, 45, 109, 97, 120, 97, 103, 101, 61]⟩ : ByteArray) ++ t277) [.string ((⟨#[115, 45, 109, 97, 120, 97, 103, 101, 61]⟩ : ByteArray) ++ t277)] (fun _ => True) (fun _ => False) rfl rfl ?aP (fun _ hk => hk.elim) ?aF ?aO ?aB ?aS ?aL ?_; (case aP => exact rfl); (case aB => exact (by repeat (first | (with_reducible first | exact HB.out | apply below_alloc | apply pw_below_drewN | apply below_drew1 | refine below_set ?_ GE258.out) | exact HB.out))); (case aF => exact (fun _ _ => trivial)); (case aO => exact (by (with_reducible repeat (first | apply Kd.R_alloc | apply Kd.R_drewN | apply Kd.R_drew)); exact HO_3.out)); (case aS => exact (below_size (by repeat (first | (with_reducible first | exact HB.out | apply below_alloc | apply pw_below_drewN | apply below_drew1 | refine below_set ?_ GE258.out) | exact HB.out)))); (case aL => have := LMc36.out; omega); intro v279 w39 ho hb hg hat; rw [← Ny278.out] at ho; have n0_ := Aside0.mk (blk_grown (g := gb258) (o := .cells #[.int .i64 a0_0, .int .i64 a0_1, .int .i64 a0_2, .int .i64 a0_3, .bool a0_4, .bool a0_5, .bool a0_6] 29 (0, 0)) (by (with_reducible repeat (first | refine blk_drewN ?_ _ | refine blk_drew ?_ | refine blk_alloc ?_ _)); exact BK258.out) hg (Kd.R_ne HO_3.out BK258.out (by decide))); have n1_ := Aside0.mk (hb); have n2_ := Aside0.mk (ho); clear BK258; clear HB; clear HO_3; have BK258 := n0_; have HB := n1_; have HO280 := n2_; clear n0_ n1_ n2_; clear ho hb hg hat))
                          go_meet
                          case rel => exact ⟨_, (y278), H', ⟨by have := HJ1.out; have := HJ9.out; have := HJ14.out; have := HJ19.out; first | omega | exact Nat.le_refl _⟩, ⟨by (with_reducible repeat (first | apply Kd.R_alloc | apply Kd.R_drewN | apply Kd.R_drew)); exact HO280.out⟩, ⟨by (with_reducible repeat (first | refine blk_drewN ?_ _ | refine blk_drew ?_ | refine blk_alloc ?_ _)); exact BK258.out⟩, ⟨by repeat (first | (with_reducible first | exact HB.out | apply below_alloc | apply pw_below_drewN | apply below_drew1 | refine below_set ?_ GE258.out) | exact HB.out)⟩⟩
                        · rw [if_neg c36] at H
                          exact absurd H (by simp)
                      · rw [if_neg c35] at H
                        exact absurd H (by simp)
                    · rw [if_neg c32] at H
                      have c32b0 : decide (0 ≤ a0_1) = false := decide_eq_false c32
                      clear c32
                      (first | rw [c32b0] | (simp only [i64_w, i32_w]; rw [c32b0]) | skip)
                      have H' := Aside0.mk H
                      clear H
                      go_wp2
                      go_meet
                      case rel => exact ⟨_, (x3_19), H', ⟨by have := HJ1.out; have := HJ9.out; have := HJ14.out; have := HJ19.out; first | omega | exact Nat.le_refl _⟩, ⟨by (with_reducible repeat (first | apply Kd.R_alloc | apply Kd.R_drewN | apply Kd.R_drew)); exact HO_3.out⟩, ⟨by (with_reducible repeat (first | refine blk_drewN ?_ _ | refine blk_drew ?_ | refine blk_alloc ?_ _)); exact BK258.out⟩, ⟨by repeat (first | (with_reducible first | exact HB.out | apply below_alloc | apply pw_below_drewN | apply below_drew1 | refine below_set ?_ GE258.out) | exact HB.out)⟩⟩
                  case rest =>
                    clear HC30
                    try clear c1
                    try clear c2
                    try clear p2
                    try clear c3
                    try clear c7
                    try clear c8
                    try clear c12
                    try clear c13
                    try clear c17
                    try clear c18
                    try clear c22
                    try clear c22b0
                    try clear c25
                    try clear c25b0
                    try clear c25b1
                    try clear c25b2
                    try clear c26
                    try clear c32
                    try clear c32b0
                    try clear c33
                    try clear c35
                    try clear c35b0
                    try clear c35b1
                    try clear c35b2
                    try clear c36
                    try clear hcz11_0
                    try clear hcz11_1
                    try clear hcz11_2
                    try clear hcz11_3
                    try clear hcz11_4
                    try clear hcz11_5
                    try clear hcz11_6
                    try clear hcz16_0
                    try clear hcz16_1
                    try clear hcz16_2
                    try clear hcz16_3
                    try clear hcz16_4
                    try clear hcz16_5
                    try clear hcz16_6
                    try clear hcz21_0
                    try clear hcz21_1
                    try clear hcz21_2
                    try clear hcz21_3
                    try clear hcz21_4
                    try clear hcz21_5
                    try clear hcz21_6
                    try clear hcz27_0
                    try clear hcz27_1
                    try clear hcz27_2
                    try clear hcz27_3
                    try clear hcz27_4
                    try clear hcz27_5
                    try clear hcz27_6
                    try clear hcz31_0
                    try clear hcz31_1
                    try clear hcz31_2
                    try clear hcz31_3
                    try clear hcz31_4
                    try clear hcz31_5
                    try clear hcz31_6
                    try clear hcz37_0
                    try clear hcz37_1
                    try clear hcz37_2
                    try clear hcz37_3
                    try clear hcz37_4
                    try clear hcz37_5
                    try clear hcz37_6
                    try clear hcz6_0
                    try clear hcz6_1
                    try clear hcz6_2
                    try clear hcz6_3
                    try clear hcz6_4
                    try clear hcz6_5
                    try clear hcz6_6
                    try clear hfz11_0
                    try clear hfz11_1
                    try clear hfz11_2
                    try clear hfz11_3
                    try clear hfz11_4
                    try clear hfz11_5
                    try clear hfz11_6
                    try clear hfz16_0
                    try clear hfz16_1
                    try clear hfz16_2
                    try clear hfz16_3
                    try clear hfz16_4
                    try clear hfz16_5
                    try clear hfz16_6
                    try clear hfz21_0
                    try clear hfz21_1
                    try clear hfz21_2
                    try clear hfz21_3
                    try clear hfz21_4
                    try clear hfz21_5
                    try clear hfz21_6
                    try clear hfz27_0
                    try clear hfz27_1
                    try clear hfz27_2
                    try clear hfz27_3
                    try clear hfz27_4
                    try clear hfz27_5
                    try clear hfz27_6
                    try clear hfz31_0
                    try clear hfz31_1
                    try clear hfz31_2
                    try clear hfz31_3
                    try clear hfz31_4
                    try clear hfz31_5
                    try clear hfz31_6
                    try clear hfz37_0
                    try clear hfz37_1
                    try clear hfz37_2
                    try clear hfz37_3
                    try clear hfz37_4
                    try clear hfz37_5
                    try clear hfz37_6
                    try clear hfz6_0
                    try clear hfz6_1
                    try clear hfz6_2
                    try clear hfz6_3
                    try clear hfz6_4
                    try clear hfz6_5
                    try clear hfz6_6
                    try clear p2
                    obtain ⟨kq, x3_29, HA, HJ29, HO_3, BK258, HB⟩ := hcut
                    cases kq with
                    | zero => exact absurd HA.out (by simp [mandolineref09_Text.j4])
                    | succ kj29 =>
                      have H := HA.out
                      clear HA
                      simp only [mandolineref09_Text.j4] at H
                      have HC40 := Aside0.mk H
                      clear H
                      have hcz41_0 : wc.cell? ⟨gb258, 0, none⟩ = some (.int .i64 a0_0) := (blk_cell BK258.out 0).trans rfl
                      have hcz41_1 : wc.cell? ⟨gb258, 1, none⟩ = some (.int .i64 a0_1) := (blk_cell BK258.out 1).trans rfl
                      have hcz41_2 : wc.cell? ⟨gb258, 2, none⟩ = some (.int .i64 a0_2) := (blk_cell BK258.out 2).trans rfl
                      have hcz41_3 : wc.cell? ⟨gb258, 3, none⟩ = some (.int .i64 a0_3) := (blk_cell BK258.out 3).trans rfl
                      have hcz41_4 : wc.cell? ⟨gb258, 4, none⟩ = some (.bool a0_4) := (blk_cell BK258.out 4).trans rfl
                      have hcz41_5 : wc.cell? ⟨gb258, 5, none⟩ = some (.bool a0_5) := (blk_cell BK258.out 5).trans rfl
                      have hcz41_6 : wc.cell? ⟨gb258, 6, none⟩ = some (.bool a0_6) := (blk_cell BK258.out 6).trans rfl
                      have hfz41_0 := blk_frozen BK258.out 0
                      have hfz41_1 := blk_frozen BK258.out 1
                      have hfz41_2 := blk_frozen BK258.out 2
                      have hfz41_3 := blk_frozen BK258.out 3
                      have hfz41_4 := blk_frozen BK258.out 4
                      have hfz41_5 := blk_frozen BK258.out 5
                      have hfz41_6 := blk_frozen BK258.out 6
                      go_upto_if 46 with (fail)
                      go_cut [3] (fun v3 wc => ∃ (kq : Nat) (x3_39 : List ByteArray), Aside0 (mandolineref09_Text.j5 kq x3_39 a0_0 a0_1 a0_2 a0_3 a0_4 a0_5 a0_6 = some r) ∧ Aside0 (kq ≤ kj29) ∧ Aside0 (Kd.R Kd.string 9 wc w.heap.size (fun _ => True) v3 x3_39) ∧ Aside0 (wc.heap[gb258]? = some (.cells #[.int .i64 a0_0, .int .i64 a0_1, .int .i64 a0_2, .int .i64 a0_3, .bool a0_4, .bool a0_5, .bool a0_6] 29 (0, 0))) ∧ Aside0 (Below w.heap.size w wc))
                      case first =>
                        have H := HC40.out
                        clear HC40
                        by_cases c42 : a0_2 ≥ 0
                        · rw [if_pos c42] at H
                          have c42b0 : decide (0 ≤ a0_2) = true := decide_eq_true c42
                          clear c42
                          (first | rw [c42b0] | (simp only [i64_w, i32_w]; rw [c42b0]) | skip)
                          replace H := Option.bind_eq_some_iff.mp H
                          obtain ⟨t281, A430, H⟩ := H
                          replace H : ((mandolineref09_Num.f kj29 t281).bind fun t282 => (if 23 + t282.size ≤ 9223372036854775807 then (if x3_29.length < 8796093022208 then (mandolineref09_Text.j5 kj29 (x3_29 ++ [(⟨#[115, 116, 97, 108, 101, 45, 119, 104, 105, 108, 101, 45, 114, 101, 118, 97, 108, 105, 100, 97, 116, 101, 61]⟩ : ByteArray) ++ t282]) a0_0 a0_1 a0_2 a0_3 a0_4 a0_5 a0_6) else (none)) else (none))) = some r := H
                          have A43 := Aside0.mk A430
                          clear A430
                          replace H := Option.bind_eq_some_iff.mp H
                          obtain ⟨t282, A440, H⟩ := H
                          replace H : (if 23 + t282.size ≤ 9223372036854775807 then (if x3_29.length < 8796093022208 then (mandolineref09_Text.j5 kj29 (x3_29 ++ [(⟨#[115, 116, 97, 108, 101, 45, 119, 104, 105, 108, 101, 45, 114, 101, 118, 97, 108, 105, 100, 97, 116, 101, 61]⟩ : ByteArray) ++ t282]) a0_0 a0_1 a0_2 a0_3 a0_4 a0_5 a0_6) else (none)) else (none)) = some r := H
                          have A44 := Aside0.mk A440
                          clear A440
                          by_cases c45 : 23 + t282.size ≤ 9223372036854775807
                          · rw [if_pos c45] at H
                            have c45b0 := eq_true c45
                            have c45b1 : decide (23 + t282.size ≤ 9223372036854775807) = true := decide_eq_true c45
                            try have c45b2 : (9223372036854775807 < 23 + t282.size) = False := eq_false (Nat.not_lt.2 c45)
                            by_cases c46 : x3_29.length < 8796093022208
                            · rw [if_pos c46] at H
                              have LMc46 := Aside0.mk c46
                              clear c46
                              obtain ⟨y283, hy283⟩ : ∃ y_ : List ByteArray, y_ = (x3_29 ++ [(⟨#[115, 116, 97, 108, 101, 45, 119, 104, 105, 108, 101, 45, 114, 101, 118, 97, 108, 105, 100, 97, 116, 101, 61]⟩ : ByteArray) ++ t282]) := ⟨_, rfl⟩
                              replace H : (mandolineref09_Text.j5 kj29 y283 a0_0 a0_1 a0_2 a0_3 a0_4 a0_5 a0_6) = some r := by first | (rw [hy283]; with_reducible exact H) | (have H2_ := (Option.bind_some _ _).symm.trans H; rw [hy283]; with_reducible exact H2_) | (have H2_ := (Option.bind_some _ _).symm.trans H; with_reducible exact H2_) | with_reducible exact H | (rw [hy283]; exact H) | exact H
                              have Ny283 := Aside0.mk hy283
                              clear hy283
                              have H' := Aside0.mk H
                              clear H
                              have hcz47_0 : wc.cell? ⟨gb258, 0, none⟩ = some (.int .i64 a0_0) := (blk_cell BK258.out 0).trans rfl
                              have hcz47_1 : wc.cell? ⟨gb258, 1, none⟩ = some (.int .i64 a0_1) := (blk_cell BK258.out 1).trans rfl
                              have hcz47_2 : wc.cell? ⟨gb258, 2, none⟩ = some (.int .i64 a0_2) := (blk_cell BK258.out 2).trans rfl
                              have hcz47_3 : wc.cell? ⟨gb258, 3, none⟩ = some (.int .i64 a0_3) := (blk_cell BK258.out 3).trans rfl
                              have hcz47_4 : wc.cell? ⟨gb258, 4, none⟩ = some (.bool a0_4) := (blk_cell BK258.out 4).trans rfl
                              have hcz47_5 : wc.cell? ⟨gb258, 5, none⟩ = some (.bool a0_5) := (blk_cell BK258.out 5).trans rfl
                              have hcz47_6 : wc.cell? ⟨gb258, 6, none⟩ = some (.bool a0_6) := (blk_cell BK258.out 6).trans rfl
                              have hfz47_0 := blk_frozen BK258.out 0
                              have hfz47_1 := blk_frozen BK258.out 1
                              have hfz47_2 := blk_frozen BK258.out 2
                              have hfz47_3 := blk_frozen BK258.out 3
                              have hfz47_4 := blk_frozen BK258.out 4
                              have hfz47_5 := blk_frozen BK258.out 5
                              have hfz47_6 := blk_frozen BK258.out 6
                              go_wp2_with (first | ((with_reducible refine gate_callee (f := 33) rfl ?_); refine goesL_ (some 50) rfl rfl Tryd.func33 (by kernel_rfl) rfl #[.int .i64 a0_2] rfl (by (try simp only [List.map_toArray, List.map_cons, List.map_nil]); first | done | rfl | (simp only [List.length_drop, List.length_take]; rfl)) ?_; (with_reducible refine (mandolineref09_cap.calls a0_2 t281 _ A43.out).mono ?_); rintro e w' ⟨rfl, ⟨nd, rfl⟩⟩; refine ⟨_, rfl, ?_⟩) | ((with_reducible refine gate_callee (f := 32) rfl ?_); refine goesL_ (some 51) rfl rfl Tryd.func32 (by kernel_rfl) rfl #[.int .i64 t281] rfl (by (try simp only [List.map_toArray, List.map_cons, List.map_nil]); first | done | rfl | (simp only [List.length_drop, List.length_take]; rfl)) ?_; (with_reducible refine (mandolineref09_Num.calls kj29 t281 t282 _ A44.out).mono ?_); rintro e w48 ⟨rfl, hb⟩; refine ⟨_, rfl, ?_⟩; have n0_ := Aside0.mk (Kd.R_below (by (with_reducible repeat (first | apply Kd.R_alloc | apply Kd.R_drewN | apply Kd.R_drew)); exact HO_3.out) hb); have n1_ := Aside0.mk (blk_below (g := gb258) (o := .cells #[.int .i64 a0_0, .int .i64 a0_1, .int .i64 a0_2, .int .i64 a0_3, .bool a0_4, .bool a0_5, .bool a0_6] 29 (0, 0)) (by (with_reducible repeat (first | refine blk_drewN ?_ _ | refine blk_drew ?_ | refine blk_alloc ?_ _)); exact BK258.out) hb); have n2_ := Aside0.mk (below_step (by repeat (first | (with_reducible first | exact HB.out | apply below_alloc | apply pw_below_drewN | apply below_drew1 | refine below_set ?_ GE258.out) | exact HB.out)) hb); clear HO_3; clear BK258; clear HB; have HO_3 := n0_; have BK258 := n1_; have HB := n2_; clear n0_ n1_ n2_; (try clear hb); (try clear hb2); (try clear hk); (try clear hi)) | ((with_reducible refine gate_builtin (b := .append) (xs := #[.tmp 47, .tmp 53]) rfl ?_); at_builtin; refine Kd.R_append Kd.string (w0 := w) w.heap.size rfl (.tmp 47) (.tmp 53) 22 9 (.string ⟨#[]⟩) 16 rfl Tryd.underlying22 info9 rfl (by decide) (by omega) u3 x3_29 ((⟨#[115, 116, 97, 108, 101, 45, 119, 104, 105, 108, 101, 45, 114, 101, 118, 97, 108, 105, 100, 97, 116, 101, 61]⟩ : ByteArray) ++ t282) [.string ((⟨#[115, 116, 97, 108, 101, 45, 119, 104, 105, 108, 101, 45, 114, 101, 118, 97, 108, 105, 100, 97, 116, 101, 61]⟩ : ByteArray) ++ t282)] (fun _ => True) (fun _ => False) rfl rfl ?aP (fun _ hk => hk.elim) ?aF ?aO ?aB ?aS ?aL ?_; (case aP => exact rfl); (case aB => exact (by repeat (first | (with_reducible first | exact HB.out | apply below_alloc | apply pw_below_drewN | apply below_drew1 | refine below_set ?_ GE258.out) | exact HB.out))); (case aF => exact (fun _ _ => trivial)); (case aO => exact (by (with_reducible repeat (first | apply Kd.R_alloc | apply Kd.R_drewN | apply Kd.R_drew)); exact HO_3.out)); (case aS => exact (below_size (by repeat (first | (with_reducible first | exact HB.out | apply below_alloc | apply pw_below_drewN | apply below_drew1 | refine below_set ?_ GE258.out) | exact HB.out)))); (case aL => have := LMc46.out; omega); intro v284 w49 ho hb hg hat; rw [← Ny283.out] at ho; have n0_ := Aside0.mk (blk_grown (g := gb258) (o := .cells #[.int .i64 a0_0, .int .i64 a0_1, .int .i64 a0_2, .int .i64 a0_3, .bool a0_4, .bool a0_5, .bool a0_6] 29 (0, 0)) (by (with_reducible repeat (first | refine blk_drewN ?_ _ | refine blk_drew ?_ | refine blk_alloc ?_ _)); exact BK258.out) hg (Kd.R_ne HO_3.out BK258.out (by decide))); have n1_ := Aside0.mk (hb); have n2_ := Aside0.mk (ho); clear BK258; clear HB; clear HO_3; have BK258 := n0_; have HB := n1_; have HO285 := n2_; clear n0_ n1_ n2_; clear ho hb hg hat))
                              go_meet
                              case rel => exact ⟨_, (y283), H', ⟨by have := HJ1.out; have := HJ9.out; have := HJ14.out; have := HJ19.out; have := HJ29.out; first | omega | exact Nat.le_refl _⟩, ⟨by (with_reducible repeat (first | apply Kd.R_alloc | apply Kd.R_drewN | apply Kd.R_drew)); exact HO285.out⟩, ⟨by (with_reducible repeat (first | refine blk_drewN ?_ _ | refine blk_drew ?_ | refine blk_alloc ?_ _)); exact BK258.out⟩, ⟨by repeat (first | (with_reducible first | exact HB.out | apply below_alloc | apply pw_below_drewN | apply below_drew1 | refine below_set ?_ GE258.out) | exact HB.out)⟩⟩
                            · rw [if_neg c46] at H
                              exact absurd H (by simp)
                          · rw [if_neg c45] at H
                            exact absurd H (by simp)
                        · rw [if_neg c42] at H
                          have c42b0 : decide (0 ≤ a0_2) = false := decide_eq_false c42
                          clear c42
                          (first | rw [c42b0] | (simp only [i64_w, i32_w]; rw [c42b0]) | skip)
                          have H' := Aside0.mk H
                          clear H
                          go_wp2
                          go_meet
                          case rel => exact ⟨_, (x3_29), H', ⟨by have := HJ1.out; have := HJ9.out; have := HJ14.out; have := HJ19.out; have := HJ29.out; first | omega | exact Nat.le_refl _⟩, ⟨by (with_reducible repeat (first | apply Kd.R_alloc | apply Kd.R_drewN | apply Kd.R_drew)); exact HO_3.out⟩, ⟨by (with_reducible repeat (first | refine blk_drewN ?_ _ | refine blk_drew ?_ | refine blk_alloc ?_ _)); exact BK258.out⟩, ⟨by repeat (first | (with_reducible first | exact HB.out | apply below_alloc | apply pw_below_drewN | apply below_drew1 | refine below_set ?_ GE258.out) | exact HB.out)⟩⟩
                      case rest =>
                        clear HC40
                        try clear c1
                        try clear c2
                        try clear p2
                        try clear c3
                        try clear c4
                        try clear c7
                        try clear c8
                        try clear c12
                        try clear c13
                        try clear c17
                        try clear c18
                        try clear c22
                        try clear c22b0
                        try clear c25
                        try clear c25b0
                        try clear c25b1
                        try clear c25b2
                        try clear c26
                        try clear c32
                        try clear c32b0
                        try clear c33
                        try clear c35
                        try clear c35b0
                        try clear c35b1
                        try clear c35b2
                        try clear c36
                        try clear c42
                        try clear c42b0
                        try clear c45
                        try clear c45b0
                        try clear c45b1
                        try clear c45b2
                        try clear c46
                        try clear hcz11_0
                        try clear hcz11_1
                        try clear hcz11_2
                        try clear hcz11_3
                        try clear hcz11_4
                        try clear hcz11_5
                        try clear hcz11_6
                        try clear hcz16_0
                        try clear hcz16_1
                        try clear hcz16_2
                        try clear hcz16_3
                        try clear hcz16_4
                        try clear hcz16_5
                        try clear hcz16_6
                        try clear hcz21_0
                        try clear hcz21_1
                        try clear hcz21_2
                        try clear hcz21_3
                        try clear hcz21_4
                        try clear hcz21_5
                        try clear hcz21_6
                        try clear hcz27_0
                        try clear hcz27_1
                        try clear hcz27_2
                        try clear hcz27_3
                        try clear hcz27_4
                        try clear hcz27_5
                        try clear hcz27_6
                        try clear hcz31_0
                        try clear hcz31_1
                        try clear hcz31_2
                        try clear hcz31_3
                        try clear hcz31_4
                        try clear hcz31_5
                        try clear hcz31_6
                        try clear hcz37_0
                        try clear hcz37_1
                        try clear hcz37_2
                        try clear hcz37_3
                        try clear hcz37_4
                        try clear hcz37_5
                        try clear hcz37_6
                        try clear hcz41_0
                        try clear hcz41_1
                        try clear hcz41_2
                        try clear hcz41_3
                        try clear hcz41_4
                        try clear hcz41_5
                        try clear hcz41_6
                        try clear hcz47_0
                        try clear hcz47_1
                        try clear hcz47_2
                        try clear hcz47_3
                        try clear hcz47_4
                        try clear hcz47_5
                        try clear hcz47_6
                        try clear hcz6_0
                        try clear hcz6_1
                        try clear hcz6_2
                        try clear hcz6_3
                        try clear hcz6_4
                        try clear hcz6_5
                        try clear hcz6_6
                        try clear hfz11_0
                        try clear hfz11_1
                        try clear hfz11_2
                        try clear hfz11_3
                        try clear hfz11_4
                        try clear hfz11_5
                        try clear hfz11_6
                        try clear hfz16_0
                        try clear hfz16_1
                        try clear hfz16_2
                        try clear hfz16_3
                        try clear hfz16_4
                        try clear hfz16_5
                        try clear hfz16_6
                        try clear hfz21_0
                        try clear hfz21_1
                        try clear hfz21_2
                        try clear hfz21_3
                        try clear hfz21_4
                        try clear hfz21_5
                        try clear hfz21_6
                        try clear hfz27_0
                        try clear hfz27_1
                        try clear hfz27_2
                        try clear hfz27_3
                        try clear hfz27_4
                        try clear hfz27_5
                        try clear hfz27_6
                        try clear hfz31_0
                        try clear hfz31_1
                        try clear hfz31_2
                        try clear hfz31_3
                        try clear hfz31_4
                        try clear hfz31_5
                        try clear hfz31_6
                        try clear hfz37_0
                        try clear hfz37_1
                        try clear hfz37_2
                        try clear hfz37_3
                        try clear hfz37_4
                        try clear hfz37_5
                        try clear hfz37_6
                        try clear hfz41_0
                        try clear hfz41_1
                        try clear hfz41_2
                        try clear hfz41_3
                        try clear hfz41_4
                        try clear hfz41_5
                        try clear hfz41_6
                        try clear hfz47_0
                        try clear hfz47_1
                        try clear hfz47_2
                        try clear hfz47_3
                        try clear hfz47_4
                        try clear hfz47_5
                        try clear hfz47_6
                        try clear hfz6_0
                        try clear hfz6_1
                        try clear hfz6_2
                        try clear hfz6_3
                        try clear hfz6_4
                        try clear hfz6_5
                        try clear hfz6_6
                        try clear p2
                        obtain ⟨kq, x3_39, HA, HJ39, HO_3, BK258, HB⟩ := hcut
                        cases kq with
                        | zero => exact absurd HA.out (by simp [mandolineref09_Text.j5])
                        | succ kj39 =>
                          have H := HA.out
                          clear HA
                          simp only [mandolineref09_Text.j5] at H
                          have HC50 := Aside0.mk H
                          clear H
                          have hcz51_0 : wc.cell? ⟨gb258, 0, none⟩ = some (.int .i64 a0_0) := (blk_cell BK258.out 0).trans rfl
                          have hcz51_1 : wc.cell? ⟨gb258, 1, none⟩ = some (.int .i64 a0_1) := (blk_cell BK258.out 1).trans rfl
                          have hcz51_2 : wc.cell? ⟨gb258, 2, none⟩ = some (.int .i64 a0_2) := (blk_cell BK258.out 2).trans rfl
                          have hcz51_3 : wc.cell? ⟨gb258, 3, none⟩ = some (.int .i64 a0_3) := (blk_cell BK258.out 3).trans rfl
                          have hcz51_4 : wc.cell? ⟨gb258, 4, none⟩ = some (.bool a0_4) := (blk_cell BK258.out 4).trans rfl
                          have hcz51_5 : wc.cell? ⟨gb258, 5, none⟩ = some (.bool a0_5) := (blk_cell BK258.out 5).trans rfl
                          have hcz51_6 : wc.cell? ⟨gb258, 6, none⟩ = some (.bool a0_6) := (blk_cell BK258.out 6).trans rfl
                          have hfz51_0 := blk_frozen BK258.out 0
                          have hfz51_1 := blk_frozen BK258.out 1
                          have hfz51_2 := blk_frozen BK258.out 2
                          have hfz51_3 := blk_frozen BK258.out 3
                          have hfz51_4 := blk_frozen BK258.out 4
                          have hfz51_5 := blk_frozen BK258.out 5
                          have hfz51_6 := blk_frozen BK258.out 6
                          go_upto_if 57 with (fail)
                          go_cut [3] (fun v3 wc => ∃ (kq : Nat) (x3_49 : List ByteArray), Aside0 (mandolineref09_Text.j6 kq x3_49 = some r) ∧ Aside0 (kq ≤ kj39) ∧ Aside0 (Kd.R Kd.string 9 wc w.heap.size (fun _ => True) v3 x3_49) ∧ Aside0 (wc.heap[gb258]? = some (.cells #[.int .i64 a0_0, .int .i64 a0_1, .int .i64 a0_2, .int .i64 a0_3, .bool a0_4, .bool a0_5, .bool a0_6] 29 (0, 0))) ∧ Aside0 (Below w.heap.size w wc))
                          case first =>
                            have H := HC50.out
                            clear HC50
                            by_cases c52 : a0_3 ≥ 0
                            · rw [if_pos c52] at H
                              have c52b0 : decide (0 ≤ a0_3) = true := decide_eq_true c52
                              clear c52
                              (first | rw [c52b0] | (simp only [i64_w, i32_w]; rw [c52b0]) | skip)
                              replace H := Option.bind_eq_some_iff.mp H
                              obtain ⟨t286, A530, H⟩ := H
                              replace H : ((mandolineref09_Num.f kj39 t286).bind fun t287 => (if 15 + t287.size ≤ 9223372036854775807 then (if x3_39.length < 8796093022208 then (mandolineref09_Text.j6 kj39 (x3_39 ++ [(⟨#[115, 116, 97, 108, 101, 45, 105, 102, 45, 101, 114, 114, 111, 114, 61]⟩ : ByteArray) ++ t287])) else (none)) else (none))) = some r := H
                              have A53 := Aside0.mk A530
                              clear A530
                              replace H := Option.bind_eq_some_iff.mp H
                              obtain ⟨t287, A540, H⟩ := H
                              replace H : (if 15 + t287.size ≤ 9223372036854775807 then (if x3_39.length < 8796093022208 then (mandolineref09_Text.j6 kj39 (x3_39 ++ [(⟨#[115, 116, 97, 108, 101, 45, 105, 102, 45, 101, 114, 114, 111, 114, 61]⟩ : ByteArray) ++ t287])) else (none)) else (none)) = some r := H
                              have A54 := Aside0.mk A540
                              clear A540
                              by_cases c55 : 15 + t287.size ≤ 9223372036854775807
                              · rw [if_pos c55] at H
                                have c55b0 := eq_true c55
                                have c55b1 : decide (15 + t287.size ≤ 9223372036854775807) = true := decide_eq_true c55
                                try have c55b2 : (9223372036854775807 < 15 + t287.size) = False := eq_false (Nat.not_lt.2 c55)
                                by_cases c56 : x3_39.length < 8796093022208
                                · rw [if_pos c56] at H
                                  have LMc56 := Aside0.mk c56
                                  clear c56
                                  obtain ⟨y288, hy288⟩ : ∃ y_ : List ByteArray, y_ = (x3_39 ++ [(⟨#[115, 116, 97, 108, 101, 45, 105, 102, 45, 101, 114, 114, 111, 114, 61]⟩ : ByteArray) ++ t287]) := ⟨_, rfl⟩
                                  replace H : (mandolineref09_Text.j6 kj39 y288) = some r := by first | (rw [hy288]; with_reducible exact H) | (have H2_ := (Option.bind_some _ _).symm.trans H; rw [hy288]; with_reducible exact H2_) | (have H2_ := (Option.bind_some _ _).symm.trans H; with_reducible exact H2_) | with_reducible exact H | (rw [hy288]; exact H) | exact H
                                  have Ny288 := Aside0.mk hy288
                                  clear hy288
                                  have H' := Aside0.mk H
                                  clear H
                                  have hcz57_0 : wc.cell? ⟨gb258, 0, none⟩ = some (.int .i64 a0_0) := (blk_cell BK258.out 0).trans rfl
                                  have hcz57_1 : wc.cell? ⟨gb258, 1, none⟩ = some (.int .i64 a0_1) := (blk_cell BK258.out 1).trans rfl
                                  have hcz57_2 : wc.cell? ⟨gb258, 2, none⟩ = some (.int .i64 a0_2) := (blk_cell BK258.out 2).trans rfl
                                  have hcz57_3 : wc.cell? ⟨gb258, 3, none⟩ = some (.int .i64 a0_3) := (blk_cell BK258.out 3).trans rfl
                                  have hcz57_4 : wc.cell? ⟨gb258, 4, none⟩ = some (.bool a0_4) := (blk_cell BK258.out 4).trans rfl
                                  have hcz57_5 : wc.cell? ⟨gb258, 5, none⟩ = some (.bool a0_5) := (blk_cell BK258.out 5).trans rfl
                                  have hcz57_6 : wc.cell? ⟨gb258, 6, none⟩ = some (.bool a0_6) := (blk_cell BK258.out 6).trans rfl
                                  have hfz57_0 := blk_frozen BK258.out 0
                                  have hfz57_1 := blk_frozen BK258.out 1
                                  have hfz57_2 := blk_frozen BK258.out 2
                                  have hfz57_3 := blk_frozen BK258.out 3
                                  have hfz57_4 := blk_frozen BK258.out 4
                                  have hfz57_5 := blk_frozen BK258.out 5
                                  have hfz57_6 := blk_frozen BK258.out 6
                                  go_wp2_with (first | ((with_reducible refine gate_callee (f := 33) rfl ?_); refine goesL_ (some 61) rfl rfl Tryd.func33 (by kernel_rfl) rfl #[.int .i64 a0_3] rfl (by (try simp only [List.map_toArray, List.map_cons, List.map_nil]); first | done | rfl | (simp only [List.length_drop, List.length_take]; rfl)) ?_; (with_reducible refine (mandolineref09_cap.calls a0_3 t286 _ A53.out).mono ?_); rintro e w' ⟨rfl, ⟨nd, rfl⟩⟩; refine ⟨_, rfl, ?_⟩) | ((with_reducible refine gate_callee (f := 32) rfl ?_); refine goesL_ (some 62) rfl rfl Tryd.func32 (by kernel_rfl) rfl #[.int .i64 t286] rfl (by (try simp only [List.map_toArray, List.map_cons, List.map_nil]); first | done | rfl | (simp only [List.length_drop, List.length_take]; rfl)) ?_; (with_reducible refine (mandolineref09_Num.calls kj39 t286 t287 _ A54.out).mono ?_); rintro e w58 ⟨rfl, hb⟩; refine ⟨_, rfl, ?_⟩; have n0_ := Aside0.mk (Kd.R_below (by (with_reducible repeat (first | apply Kd.R_alloc | apply Kd.R_drewN | apply Kd.R_drew)); exact HO_3.out) hb); have n1_ := Aside0.mk (blk_below (g := gb258) (o := .cells #[.int .i64 a0_0, .int .i64 a0_1, .int .i64 a0_2, .int .i64 a0_3, .bool a0_4, .bool a0_5, .bool a0_6] 29 (0, 0)) (by (with_reducible repeat (first | refine blk_drewN ?_ _ | refine blk_drew ?_ | refine blk_alloc ?_ _)); exact BK258.out) hb); have n2_ := Aside0.mk (below_step (by repeat (first | (with_reducible first | exact HB.out | apply below_alloc | apply pw_below_drewN | apply below_drew1 | refine below_set ?_ GE258.out) | exact HB.out)) hb); clear HO_3; clear BK258; clear HB; have HO_3 := n0_; have BK258 := n1_; have HB := n2_; clear n0_ n1_ n2_; (try clear hb); (try clear hb2); (try clear hk); (try clear hi)) | ((with_reducible refine gate_builtin (b := .append) (xs := #[.tmp 58, .tmp 64]) rfl ?_); at_builtin; refine Kd.R_append Kd.string (w0 := w) w.heap.size rfl (.tmp 58) (.tmp 64) 22 9 (.string ⟨#[]⟩) 16 rfl Tryd.underlying22 info9 rfl (by decide) (by omega) u3 x3_39 ((⟨#[115, 116, 97, 108, 101, 45, 105, 102, 45, 101, 114, 114, 111, 114, 61]⟩ : ByteArray) ++ t287) [.string ((⟨#[115, 116, 97, 108, 101, 45, 105, 102, 45, 101, 114, 114, 111, 114, 61]⟩ : ByteArray) ++ t287)] (fun _ => True) (fun _ => False) rfl rfl ?aP (fun _ hk => hk.elim) ?aF ?aO ?aB ?aS ?aL ?_; (case aP => exact rfl); (case aB => exact (by repeat (first | (with_reducible first | exact HB.out | apply below_alloc | apply pw_below_drewN | apply below_drew1 | refine below_set ?_ GE258.out) | exact HB.out))); (case aF => exact (fun _ _ => trivial)); (case aO => exact (by (with_reducible repeat (first | apply Kd.R_alloc | apply Kd.R_drewN | apply Kd.R_drew)); exact HO_3.out)); (case aS => exact (below_size (by repeat (first | (with_reducible first | exact HB.out | apply below_alloc | apply pw_below_drewN | apply below_drew1 | refine below_set ?_ GE258.out) | exact HB.out)))); (case aL => have := LMc56.out; omega); intro v289 w59 ho hb hg hat; rw [← Ny288.out] at ho; have n0_ := Aside0.mk (blk_grown (g := gb258) (o := .cells #[.int .i64 a0_0, .int .i64 a0_1, .int .i64 a0_2, .int .i64 a0_3, .bool a0_4, .bool a0_5, .bool a0_6] 29 (0, 0)) (by (with_reducible repeat (first | refine blk_drewN ?_ _ | refine blk_drew ?_ | refine blk_alloc ?_ _)); exact BK258.out) hg (Kd.R_ne HO_3.out BK258.out (by decide))); have n1_ := Aside0.mk (hb); have n2_ := Aside0.mk (ho); clear BK258; clear HB; clear HO_3; have BK258 := n0_; have HB := n1_; have HO290 := n2_; clear n0_ n1_ n2_; clear ho hb hg hat))
                                  go_meet
                                  case rel => exact ⟨_, (y288), H', ⟨by have := HJ1.out; have := HJ9.out; have := HJ14.out; have := HJ19.out; have := HJ29.out; have := HJ39.out; first | omega | exact Nat.le_refl _⟩, ⟨by (with_reducible repeat (first | apply Kd.R_alloc | apply Kd.R_drewN | apply Kd.R_drew)); exact HO290.out⟩, ⟨by (with_reducible repeat (first | refine blk_drewN ?_ _ | refine blk_drew ?_ | refine blk_alloc ?_ _)); exact BK258.out⟩, ⟨by repeat (first | (with_reducible first | exact HB.out | apply below_alloc | apply pw_below_drewN | apply below_drew1 | refine below_set ?_ GE258.out) | exact HB.out)⟩⟩
                                · rw [if_neg c56] at H
                                  exact absurd H (by simp)
                              · rw [if_neg c55] at H
                                exact absurd H (by simp)
                            · rw [if_neg c52] at H
                              have c52b0 : decide (0 ≤ a0_3) = false := decide_eq_false c52
                              clear c52
                              (first | rw [c52b0] | (simp only [i64_w, i32_w]; rw [c52b0]) | skip)
                              have H' := Aside0.mk H
                              clear H
                              go_wp2
                              go_meet
                              case rel => exact ⟨_, (x3_39), H', ⟨by have := HJ1.out; have := HJ9.out; have := HJ14.out; have := HJ19.out; have := HJ29.out; have := HJ39.out; first | omega | exact Nat.le_refl _⟩, ⟨by (with_reducible repeat (first | apply Kd.R_alloc | apply Kd.R_drewN | apply Kd.R_drew)); exact HO_3.out⟩, ⟨by (with_reducible repeat (first | refine blk_drewN ?_ _ | refine blk_drew ?_ | refine blk_alloc ?_ _)); exact BK258.out⟩, ⟨by repeat (first | (with_reducible first | exact HB.out | apply below_alloc | apply pw_below_drewN | apply below_drew1 | refine below_set ?_ GE258.out) | exact HB.out)⟩⟩
                          case rest =>
                            clear HC50
                            try clear c1
                            try clear c2
                            try clear p2
                            try clear c3
                            try clear c4
                            try clear c5
                            try clear c7
                            try clear c8
                            try clear c12
                            try clear c13
                            try clear c17
                            try clear c18
                            try clear c22
                            try clear c22b0
                            try clear c25
                            try clear c25b0
                            try clear c25b1
                            try clear c25b2
                            try clear c26
                            try clear c32
                            try clear c32b0
                            try clear c33
                            try clear c35
                            try clear c35b0
                            try clear c35b1
                            try clear c35b2
                            try clear c36
                            try clear c42
                            try clear c42b0
                            try clear c45
                            try clear c45b0
                            try clear c45b1
                            try clear c45b2
                            try clear c46
                            try clear c52
                            try clear c52b0
                            try clear c55
                            try clear c55b0
                            try clear c55b1
                            try clear c55b2
                            try clear c56
                            try clear hcz11_0
                            try clear hcz11_1
                            try clear hcz11_2
                            try clear hcz11_3
                            try clear hcz11_4
                            try clear hcz11_5
                            try clear hcz11_6
                            try clear hcz16_0
                            try clear hcz16_1
                            try clear hcz16_2
                            try clear hcz16_3
                            try clear hcz16_4
                            try clear hcz16_5
                            try clear hcz16_6
                            try clear hcz21_0
                            try clear hcz21_1
                            try clear hcz21_2
                            try clear hcz21_3
                            try clear hcz21_4
                            try clear hcz21_5
                            try clear hcz21_6
                            try clear hcz27_0
                            try clear hcz27_1
                            try clear hcz27_2
                            try clear hcz27_3
                            try clear hcz27_4
                            try clear hcz27_5
                            try clear hcz27_6
                            try clear hcz31_0
                            try clear hcz31_1
                            try clear hcz31_2
                            try clear hcz31_3
                            try clear hcz31_4
                            try clear hcz31_5
                            try clear hcz31_6
                            try clear hcz37_0
                            try clear hcz37_1
                            try clear hcz37_2
                            try clear hcz37_3
                            try clear hcz37_4
                            try clear hcz37_5
                            try clear hcz37_6
                            try clear hcz41_0
                            try clear hcz41_1
                            try clear hcz41_2
                            try clear hcz41_3
                            try clear hcz41_4
                            try clear hcz41_5
                            try clear hcz41_6
                            try clear hcz47_0
                            try clear hcz47_1
                            try clear hcz47_2
                            try clear hcz47_3
                            try clear hcz47_4
                            try clear hcz47_5
                            try clear hcz47_6
                            try clear hcz51_0
                            try clear hcz51_1
                            try clear hcz51_2
                            try clear hcz51_3
                            try clear hcz51_4
                            try clear hcz51_5
                            try clear hcz51_6
                            try clear hcz57_0
                            try clear hcz57_1
                            try clear hcz57_2
                            try clear hcz57_3
                            try clear hcz57_4
                            try clear hcz57_5
                            try clear hcz57_6
                            try clear hcz6_0
                            try clear hcz6_1
                            try clear hcz6_2
                            try clear hcz6_3
                            try clear hcz6_4
                            try clear hcz6_5
                            try clear hcz6_6
                            try clear hfz11_0
                            try clear hfz11_1
                            try clear hfz11_2
                            try clear hfz11_3
                            try clear hfz11_4
                            try clear hfz11_5
                            try clear hfz11_6
                            try clear hfz16_0
                            try clear hfz16_1
                            try clear hfz16_2
                            try clear hfz16_3
                            try clear hfz16_4
                            try clear hfz16_5
                            try clear hfz16_6
                            try clear hfz21_0
                            try clear hfz21_1
                            try clear hfz21_2
                            try clear hfz21_3
                            try clear hfz21_4
                            try clear hfz21_5
                            try clear hfz21_6
                            try clear hfz27_0
                            try clear hfz27_1
                            try clear hfz27_2
                            try clear hfz27_3
                            try clear hfz27_4
                            try clear hfz27_5
                            try clear hfz27_6
                            try clear hfz31_0
                            try clear hfz31_1
                            try clear hfz31_2
                            try clear hfz31_3
                            try clear hfz31_4
                            try clear hfz31_5
                            try clear hfz31_6
                            try clear hfz37_0
                            try clear hfz37_1
                            try clear hfz37_2
                            try clear hfz37_3
                            try clear hfz37_4
                            try clear hfz37_5
                            try clear hfz37_6
                            try clear hfz41_0
                            try clear hfz41_1
                            try clear hfz41_2
                            try clear hfz41_3
                            try clear hfz41_4
                            try clear hfz41_5
                            try clear hfz41_6
                            try clear hfz47_0
                            try clear hfz47_1
                            try clear hfz47_2
                            try clear hfz47_3
                            try clear hfz47_4
                            try clear hfz47_5
                            try clear hfz47_6
                            try clear hfz51_0
                            try clear hfz51_1
                            try clear hfz51_2
                            try clear hfz51_3
                            try clear hfz51_4
                            try clear hfz51_5
                            try clear hfz51_6
                            try clear hfz57_0
                            try clear hfz57_1
                            try clear hfz57_2
                            try clear hfz57_3
                            try clear hfz57_4
                            try clear hfz57_5
                            try clear hfz57_6
                            try clear hfz6_0
                            try clear hfz6_1
                            try clear hfz6_2
                            try clear hfz6_3
                            try clear hfz6_4
                            try clear hfz6_5
                            try clear hfz6_6
                            try clear p2
                            obtain ⟨kq, x3_49, HA, HJ49, HO_3, BK258, HB⟩ := hcut
                            cases kq with
                            | zero => exact absurd HA.out (by simp [mandolineref09_Text.j6])
                            | succ kj49 =>
                              have H := HA.out
                              clear HA
                              simp only [mandolineref09_Text.j6] at H
                              have H' := Aside0.mk H
                              clear H
                              go_wp2
                              go_loopg [4, 5] kj49 (fun kq v4 v5 w' => ∃ (x4_8 : ByteArray) (x5_8 : Int), v4 = .string x4_8 ∧ v5 = .int .i64 x5_8 ∧ Aside0 (mandolineref09_Text.l0 kq x3_49 x4_8 x5_8 = some r) ∧ Aside0 (kq ≤ kj49) ∧ Aside0 (Kd.R Kd.string 9 w' w.heap.size (fun _ => True) u3 x3_49) ∧ Aside0 (w'.heap[gb258]? = some (.cells #[.int .i64 a0_0, .int .i64 a0_1, .int .i64 a0_2, .int .i64 a0_3, .bool a0_4, .bool a0_5, .bool a0_6] 29 (0, 0))) ∧ Aside0 (Below w.heap.size w w'))
                              case atStart => exact ⟨((⟨#[]⟩ : ByteArray)), (0), (by first | rfl | (simp; done) | (simp [*]; done)), (by first | rfl | (simp; done) | (simp [*]; done)), H', ⟨Nat.le_refl _⟩, ⟨by (with_reducible repeat (first | apply Kd.R_alloc | apply Kd.R_drewN | apply Kd.R_drew)); exact HO_3.out⟩, ⟨by (with_reducible repeat (first | refine blk_drewN ?_ _ | refine blk_drew ?_ | refine blk_alloc ?_ _)); exact BK258.out⟩, ⟨by repeat (first | (with_reducible first | exact HB.out | apply below_alloc | apply pw_below_drewN | apply below_drew1 | refine below_set ?_ GE258.out) | exact HB.out)⟩⟩
                              case round =>
                                clear H'
                                try clear c1
                                try clear c2
                                try clear p2
                                try clear c3
                                try clear c4
                                try clear c5
                                try clear c7
                                try clear c8
                                try clear c12
                                try clear c13
                                try clear c17
                                try clear c18
                                try clear c22
                                try clear c22b0
                                try clear c25
                                try clear c25b0
                                try clear c25b1
                                try clear c25b2
                                try clear c26
                                try clear c32
                                try clear c32b0
                                try clear c33
                                try clear c35
                                try clear c35b0
                                try clear c35b1
                                try clear c35b2
                                try clear c36
                                try clear c42
                                try clear c42b0
                                try clear c45
                                try clear c45b0
                                try clear c45b1
                                try clear c45b2
                                try clear c46
                                try clear c52
                                try clear c52b0
                                try clear c55
                                try clear c55b0
                                try clear c55b1
                                try clear c55b2
                                try clear c56
                                try clear hcz11_0
                                try clear hcz11_1
                                try clear hcz11_2
                                try clear hcz11_3
                                try clear hcz11_4
                                try clear hcz11_5
                                try clear hcz11_6
                                try clear hcz16_0
                                try clear hcz16_1
                                try clear hcz16_2
                                try clear hcz16_3
                                try clear hcz16_4
                                try clear hcz16_5
                                try clear hcz16_6
                                try clear hcz21_0
                                try clear hcz21_1
                                try clear hcz21_2
                                try clear hcz21_3
                                try clear hcz21_4
                                try clear hcz21_5
                                try clear hcz21_6
                                try clear hcz27_0
                                try clear hcz27_1
                                try clear hcz27_2
                                try clear hcz27_3
                                try clear hcz27_4
                                try clear hcz27_5
                                try clear hcz27_6
                                try clear hcz31_0
                                try clear hcz31_1
                                try clear hcz31_2
                                try clear hcz31_3
                                try clear hcz31_4
                                try clear hcz31_5
                                try clear hcz31_6
                                try clear hcz37_0
                                try clear hcz37_1
                                try clear hcz37_2
                                try clear hcz37_3
                                try clear hcz37_4
                                try clear hcz37_5
                                try clear hcz37_6
                                try clear hcz41_0
                                try clear hcz41_1
                                try clear hcz41_2
                                try clear hcz41_3
                                try clear hcz41_4
                                try clear hcz41_5
                                try clear hcz41_6
                                try clear hcz47_0
                                try clear hcz47_1
                                try clear hcz47_2
                                try clear hcz47_3
                                try clear hcz47_4
                                try clear hcz47_5
                                try clear hcz47_6
                                try clear hcz51_0
                                try clear hcz51_1
                                try clear hcz51_2
                                try clear hcz51_3
                                try clear hcz51_4
                                try clear hcz51_5
                                try clear hcz51_6
                                try clear hcz57_0
                                try clear hcz57_1
                                try clear hcz57_2
                                try clear hcz57_3
                                try clear hcz57_4
                                try clear hcz57_5
                                try clear hcz57_6
                                try clear hcz6_0
                                try clear hcz6_1
                                try clear hcz6_2
                                try clear hcz6_3
                                try clear hcz6_4
                                try clear hcz6_5
                                try clear hcz6_6
                                try clear hfz11_0
                                try clear hfz11_1
                                try clear hfz11_2
                                try clear hfz11_3
                                try clear hfz11_4
                                try clear hfz11_5
                                try clear hfz11_6
                                try clear hfz16_0
                                try clear hfz16_1
                                try clear hfz16_2
                                try clear hfz16_3
                                try clear hfz16_4
                                try clear hfz16_5
                                try clear hfz16_6
                                try clear hfz21_0
                                try clear hfz21_1
                                try clear hfz21_2
                                try clear hfz21_3
                                try clear hfz21_4
                                try clear hfz21_5
                                try clear hfz21_6
                                try clear hfz27_0
                                try clear hfz27_1
                                try clear hfz27_2
                                try clear hfz27_3
                                try clear hfz27_4
                                try clear hfz27_5
                                try clear hfz27_6
                                try clear hfz31_0
                                try clear hfz31_1
                                try clear hfz31_2
                                try clear hfz31_3
                                try clear hfz31_4
                                try clear hfz31_5
                                try clear hfz31_6
                                try clear hfz37_0
                                try clear hfz37_1
                                try clear hfz37_2
                                try clear hfz37_3
                                try clear hfz37_4
                                try clear hfz37_5
                                try clear hfz37_6
                                try clear hfz41_0
                                try clear hfz41_1
                                try clear hfz41_2
                                try clear hfz41_3
                                try clear hfz41_4
                                try clear hfz41_5
                                try clear hfz41_6
                                try clear hfz47_0
                                try clear hfz47_1
                                try clear hfz47_2
                                try clear hfz47_3
                                try clear hfz47_4
                                try clear hfz47_5
                                try clear hfz47_6
                                try clear hfz51_0
                                try clear hfz51_1
                                try clear hfz51_2
                                try clear hfz51_3
                                try clear hfz51_4
                                try clear hfz51_5
                                try clear hfz51_6
                                try clear hfz57_0
                                try clear hfz57_1
                                try clear hfz57_2
                                try clear hfz57_3
                                try clear hfz57_4
                                try clear hfz57_5
                                try clear hfz57_6
                                try clear hfz6_0
                                try clear hfz6_1
                                try clear hfz6_2
                                try clear hfz6_3
                                try clear hfz6_4
                                try clear hfz6_5
                                try clear hfz6_6
                                try clear p2
                                obtain ⟨x4_8, x5_8, rfl, rfl, HA, HK8, HO_3, BK258, HB⟩ := hrel
                                cases gk with
                                | zero => exact absurd HA.out (by simp [mandolineref09_Text.l0])
                                | succ k8 =>
                                  have H := HA.out
                                  clear HA
                                  simp only [mandolineref09_Text.l0] at H
                                  by_cases c60 : x5_8 < (x3_49.length : Int)
                                  · rw [if_pos c60] at H
                                    have c60b0 : decide (x5_8 < (x3_49.length : Int)) = true := decide_eq_true c60
                                    clear c60
                                    by_cases c61 : x5_8 > 0
                                    · rw [if_pos c61] at H
                                      have c61b0 : decide (0 < x5_8) = true := decide_eq_true c61
                                      clear c61
                                      by_cases c62 : x4_8.size + 2 ≤ 9223372036854775807
                                      · rw [if_pos c62] at H
                                        have c62b0 := eq_true c62
                                        have c62b1 : decide (x4_8.size + 2 ≤ 9223372036854775807) = true := decide_eq_true c62
                                        try have c62b2 : (9223372036854775807 < x4_8.size + 2) = False := eq_false (Nat.not_lt.2 c62)
                                        by_cases c63 : 0 ≤ x5_8
                                        · rw [if_pos c63] at H
                                          have c63b0 : decide (0 ≤ x5_8) = true := decide_eq_true c63
                                          clear c63
                                          by_cases c64 : x4_8.size + 2 + (rdOf ByteArray.empty x3_49 x5_8).size ≤ 9223372036854775807
                                          · rw [if_pos c64] at H
                                            have c64b0 := eq_true c64
                                            have c64b1 : decide (x4_8.size + 2 + (rdOf ByteArray.empty x3_49 x5_8).size ≤ 9223372036854775807) = true := decide_eq_true c64
                                            try have c64b2 : (9223372036854775807 < x4_8.size + 2 + (rdOf ByteArray.empty x3_49 x5_8).size) = False := eq_false (Nat.not_lt.2 c64)
                                            have H' := Aside0.mk H
                                            clear H
                                            obtain ⟨Ao65, co65, eo65⟩ := Kd.R_slice HO_3.out
                                            subst eo65
                                            have p291 : 0 ≤ (x5_8 : Int) := of_decide_eq_true (by first | (with_reducible assumption) | assumption)
                                            have q291 : x5_8 < (x3_49.length : Int) := of_decide_eq_true (by first | (with_reducible assumption) | assumption)
                                            obtain ⟨ad291, e291, hx291_0⟩ := Kd.at_string (Kd.R_reads' HO_3.out).2.2 x5_8 p291 q291
                                            cases e291
                                            replace p291 := eq_true p291
                                            replace q291 := eq_true q291
                                            go_wp2
                                            go_roundg k8
                                            case measure => have := HJ1.out; have := HJ9.out; have := HJ14.out; have := HJ19.out; have := HJ29.out; have := HJ39.out; have := HJ49.out; have := HK8.out; omega
                                            case rel => exact ⟨((x4_8 ++ (⟨#[44, 32]⟩ : ByteArray)) ++ (rdOf ByteArray.empty x3_49 x5_8)), (wrap64 (x5_8 + 1)), (by first | rfl | (simp; done) | (simp [*]; done)), (by first | rfl | (simp; done) | (simp [*]; done)), H', ⟨by have := HJ1.out; have := HJ9.out; have := HJ14.out; have := HJ19.out; have := HJ29.out; have := HJ39.out; have := HJ49.out; have := HK8.out; omega⟩, ⟨by (with_reducible repeat (first | apply Kd.R_alloc | apply Kd.R_drewN | apply Kd.R_drew)); exact HO_3.out⟩, ⟨by (with_reducible repeat (first | refine blk_drewN ?_ _ | refine blk_drew ?_ | refine blk_alloc ?_ _)); exact BK258.out⟩, ⟨by repeat (first | (with_reducible first | exact HB.out | apply below_alloc | apply pw_below_drewN | apply below_drew1 | refine below_set ?_ GE258.out) | exact HB.out)⟩⟩
                                          · rw [if_neg c64] at H
                                            exact absurd H (by simp)
                                        · rw [if_neg c63] at H
                                          exact absurd H (by simp)
                                      · rw [if_neg c62] at H
                                        exact absurd H (by simp)
                                    · rw [if_neg c61] at H
                                      have c61b0 : decide (0 < x5_8) = false := decide_eq_false c61
                                      clear c61
                                      by_cases c66 : 0 ≤ x5_8
                                      · rw [if_pos c66] at H
                                        have c66b0 : decide (0 ≤ x5_8) = true := decide_eq_true c66
                                        clear c66
                                        by_cases c67 : x4_8.size + (rdOf ByteArray.empty x3_49 x5_8).size ≤ 9223372036854775807
                                        · rw [if_pos c67] at H
                                          have c67b0 := eq_true c67
                                          have c67b1 : decide (x4_8.size + (rdOf ByteArray.empty x3_49 x5_8).size ≤ 9223372036854775807) = true := decide_eq_true c67
                                          try have c67b2 : (9223372036854775807 < x4_8.size + (rdOf ByteArray.empty x3_49 x5_8).size) = False := eq_false (Nat.not_lt.2 c67)
                                          have H' := Aside0.mk H
                                          clear H
                                          obtain ⟨Ao68, co68, eo68⟩ := Kd.R_slice HO_3.out
                                          subst eo68
                                          have p292 : 0 ≤ (x5_8 : Int) := of_decide_eq_true (by first | (with_reducible assumption) | assumption)
                                          have q292 : x5_8 < (x3_49.length : Int) := of_decide_eq_true (by first | (with_reducible assumption) | assumption)
                                          obtain ⟨ad292, e292, hx292_0⟩ := Kd.at_string (Kd.R_reads' HO_3.out).2.2 x5_8 p292 q292
                                          cases e292
                                          replace p292 := eq_true p292
                                          replace q292 := eq_true q292
                                          go_wp2
                                          go_roundg k8
                                          case measure => have := HJ1.out; have := HJ9.out; have := HJ14.out; have := HJ19.out; have := HJ29.out; have := HJ39.out; have := HJ49.out; have := HK8.out; omega
                                          case rel => exact ⟨(x4_8 ++ (rdOf ByteArray.empty x3_49 x5_8)), (wrap64 (x5_8 + 1)), (by first | rfl | (simp; done) | (simp [*]; done)), (by first | rfl | (simp; done) | (simp [*]; done)), H', ⟨by have := HJ1.out; have := HJ9.out; have := HJ14.out; have := HJ19.out; have := HJ29.out; have := HJ39.out; have := HJ49.out; have := HK8.out; omega⟩, ⟨by (with_reducible repeat (first | apply Kd.R_alloc | apply Kd.R_drewN | apply Kd.R_drew)); exact HO_3.out⟩, ⟨by (with_reducible repeat (first | refine blk_drewN ?_ _ | refine blk_drew ?_ | refine blk_alloc ?_ _)); exact BK258.out⟩, ⟨by repeat (first | (with_reducible first | exact HB.out | apply below_alloc | apply pw_below_drewN | apply below_drew1 | refine below_set ?_ GE258.out) | exact HB.out)⟩⟩
                                        · rw [if_neg c67] at H
                                          exact absurd H (by simp)
                                      · rw [if_neg c66] at H
                                        exact absurd H (by simp)
                                  · rw [if_neg c60] at H
                                    have c60b0 : decide (x5_8 < (x3_49.length : Int)) = false := decide_eq_false c60
                                    clear c60
                                    obtain rfl := Option.some.inj H
                                    obtain ⟨Ao69, co69, eo69⟩ := Kd.R_slice HO_3.out
                                    subst eo69
                                    go_wp2
                                    go_ret
                                    exact ⟨by first | rfl | (simp [errW_none, errW_some] <;> rfl) | (simp [*, errW_none, errW_some] <;> rfl), by repeat (first | (with_reducible first | exact HB.out | apply below_alloc | apply pw_below_drewN | apply below_drew1 | refine below_set ?_ GE258.out) | exact HB.out)⟩

end Go.Proofs.YtmapdckelbobiaaDoor.X
