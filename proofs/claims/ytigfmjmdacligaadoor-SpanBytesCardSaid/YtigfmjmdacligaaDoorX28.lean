-- Printed by a program of this session (pp.py: the kit's print.py, run with contracts of its own) out of the translation. Not trusted: Lean checks it.
import Derived.Test.YtigfmjmdacligaaDoorX0
import Derived.Test.YtigfmjmdacligaaDoorX2
import Derived.Test.YtigfmjmdacligaaDoorX3
import Derived.Test.YtigfmjmdacligaaDoorX4
import Derived.Test.YtigfmjmdacligaaDoorX5
import Derived.Test.YtigfmjmdacligaaDoorX9
import Derived.Test.YtigfmjmdacligaaDoorX27
namespace Go.Proofs.YtigfmjmdacligaaDoor.X
open Go.RowKit Go.Proofs.YtigfmjmdacligaaDoorW.PrintWords Go.Proofs.YtigfmjmdacligaaDoorW.PrintLast Go.Proofs.YtigfmjmdacligaaDoorW.PrintMore
attribute [local go_sem] max2_int min2_int max_two min_two max_three min_three max_four min_four   -- for this text's walks alone
set_option linter.unusedVariables false
set_option linter.unusedSimpArgs false

/-! ### mandolinelaw01_SpanBytes: function 10 -/
mutual
def mandolinelaw01_SpanBytes.l0 : Nat → Int → Bool → Bool → List Int → Int → Int → Int → Int → Int → Int → Int → Int → Int → Int → Int → Int → Int → Int → Option (Bool)
  | 0, _, _, _, _, _, _, _, _, _, _, _, _, _, _, _, _, _, _ => none
  | k + 1, x2, x8, x10, x43, x44, x45, x369000, x369001, x370000, x370001, x375000, x375001, x379000, x379001, x384000, x384001, x385000, x385001 => if x45 < x44 then (if 0 ≤ x45 then (if x45 < (x43.length : Int) then ((span_Has.f x369000 x369001 (rd x43 x45)).bind fun t395 => ((span_Has.f x370000 x370001 (rd x43 x45)).bind fun t396 => (if x8 = true then ((span_Has.f x375000 x375001 (rd x43 x45)).bind fun t397 => (if t395 = true then (if (t397 != t396) = true then (mandolinelaw01_SpanBytes.j1 k x2 x8 x10 (rd x43 x45) t395 x43 x44 x45 true x369000 x369001 x370000 x370001 x375000 x375001 x379000 x379001 x384000 x384001 x385000 x385001) else (if x10 = true then ((span_Has.f x379000 x379001 (rd x43 x45)).bind fun t398 => (mandolinelaw01_SpanBytes.j1 k x2 x8 x10 (rd x43 x45) t395 x43 x44 x45 (t398 != true) x369000 x369001 x370000 x370001 x375000 x375001 x379000 x379001 x384000 x384001 x385000 x385001)) else (mandolinelaw01_SpanBytes.j1 k x2 x8 x10 (rd x43 x45) t395 x43 x44 x45 false x369000 x369001 x370000 x370001 x375000 x375001 x379000 x379001 x384000 x384001 x385000 x385001))) else (if (t397 != false) = true then (mandolinelaw01_SpanBytes.j1 k x2 x8 x10 (rd x43 x45) t395 x43 x44 x45 true x369000 x369001 x370000 x370001 x375000 x375001 x379000 x379001 x384000 x384001 x385000 x385001) else (if x10 = true then ((span_Has.f x379000 x379001 (rd x43 x45)).bind fun t399 => (mandolinelaw01_SpanBytes.j1 k x2 x8 x10 (rd x43 x45) t395 x43 x44 x45 (t399 != t396) x369000 x369001 x370000 x370001 x375000 x375001 x379000 x379001 x384000 x384001 x385000 x385001)) else (mandolinelaw01_SpanBytes.j1 k x2 x8 x10 (rd x43 x45) t395 x43 x44 x45 false x369000 x369001 x370000 x370001 x375000 x375001 x379000 x379001 x384000 x384001 x385000 x385001))))) else (if t395 = true then (if (false != t396) = true then (mandolinelaw01_SpanBytes.j1 k x2 x8 x10 (rd x43 x45) t395 x43 x44 x45 true x369000 x369001 x370000 x370001 x375000 x375001 x379000 x379001 x384000 x384001 x385000 x385001) else (if x10 = true then ((span_Has.f x379000 x379001 (rd x43 x45)).bind fun t400 => (mandolinelaw01_SpanBytes.j1 k x2 x8 x10 (rd x43 x45) t395 x43 x44 x45 (t400 != true) x369000 x369001 x370000 x370001 x375000 x375001 x379000 x379001 x384000 x384001 x385000 x385001)) else (mandolinelaw01_SpanBytes.j1 k x2 x8 x10 (rd x43 x45) t395 x43 x44 x45 false x369000 x369001 x370000 x370001 x375000 x375001 x379000 x379001 x384000 x384001 x385000 x385001))) else (if x10 = true then ((span_Has.f x379000 x379001 (rd x43 x45)).bind fun t401 => (mandolinelaw01_SpanBytes.j1 k x2 x8 x10 (rd x43 x45) t395 x43 x44 x45 (t401 != t396) x369000 x369001 x370000 x370001 x375000 x375001 x379000 x379001 x384000 x384001 x385000 x385001)) else (mandolinelaw01_SpanBytes.j1 k x2 x8 x10 (rd x43 x45) t395 x43 x44 x45 false x369000 x369001 x370000 x370001 x375000 x375001 x379000 x379001 x384000 x384001 x385000 x385001)))))) else (none)) else (none)) else (some true)
def mandolinelaw01_SpanBytes.j1 : Nat → Int → Bool → Bool → Int → Bool → List Int → Int → Int → Bool → Int → Int → Int → Int → Int → Int → Int → Int → Int → Int → Int → Int → Option (Bool)
  | 0, _, _, _, _, _, _, _, _, _, _, _, _, _, _, _, _, _, _, _, _, _ => none
  | k + 1, x2, x8, x10, x14, x15, x43, x44, x45, x78, x369000, x369001, x370000, x370001, x375000, x375001, x379000, x379001, x384000, x384001, x385000, x385001 => if x78 = true then (some false) else ((span_Has.f x384000 x384001 x14).bind fun t402 => (if x15 = true then (if (t402 != (decide (x14 < x2))) = true then (some false) else ((span_Has.f x385000 x385001 x14).bind fun t403 => (if (t403 != (decide (x14 ≥ x2))) = true then (some false) else (mandolinelaw01_SpanBytes.l0 k x2 x8 x10 x43 x44 (wrap64 (x45 + 1)) x369000 x369001 x370000 x370001 x375000 x375001 x379000 x379001 x384000 x384001 x385000 x385001)))) else (if (t402 != false) = true then (some false) else ((span_Has.f x385000 x385001 x14).bind fun t404 => (if (t404 != false) = true then (some false) else (mandolinelaw01_SpanBytes.l0 k x2 x8 x10 x43 x44 (wrap64 (x45 + 1)) x369000 x369001 x370000 x370001 x375000 x375001 x379000 x379001 x384000 x384001 x385000 x385001))))))
end
def mandolinelaw01_SpanBytes.f (k : Nat) (a0_0 : Int) (a0_1 : Int) (a1_0 : Int) (a1_1 : Int) (a2 : Int) : Option (Bool) := (mandolinelaw01_awake.f k).bind fun t370 => (if t370 = true then ((span_Meet.f a0_0 a0_1 a1_0 a1_1).bind fun bt371 => ((span_Join.f a0_0 a0_1 a1_0 a1_1).bind fun bt375 => ((span_Cut.f a0_0 a0_1 a2).bind fun bt379 => ((mandolineref01_All.f k (([(⟨a0_0, a0_1⟩ : S23), (⟨a1_0, a1_1⟩ : S23)] : List (S23)))).bind fun t388 => (if t388.length < 17592186044416 then ((some (t388 ++ [a2] : List Int)).bind fun y391 => (mandolinelaw01_SpanBytes.l0 k a2 bt371.2.2 bt375.2.2 y391 (y391.length : Int) 0 a0_0 a0_1 a1_0 a1_1 bt371.1 bt371.2.1 bt375.1 bt375.2.1 bt379.1 bt379.2.1 bt379.2.2.1 bt379.2.2.2)) else (none)))))) else (some false))
theorem mandolinelaw01_SpanBytes.mono_l : ∀ k, (∀ y0 y1 y2 y3 y4 y5 y6 y7 y8 y9 y10 y11 y12 y13 y14 y15 y16 y17, LeO (mandolinelaw01_SpanBytes.l0 k y0 y1 y2 y3 y4 y5 y6 y7 y8 y9 y10 y11 y12 y13 y14 y15 y16 y17) (mandolinelaw01_SpanBytes.l0 (k + 1) y0 y1 y2 y3 y4 y5 y6 y7 y8 y9 y10 y11 y12 y13 y14 y15 y16 y17)) ∧ (∀ y0 y1 y2 y3 y4 y5 y6 y7 y8 y9 y10 y11 y12 y13 y14 y15 y16 y17 y18 y19 y20, LeO (mandolinelaw01_SpanBytes.j1 k y0 y1 y2 y3 y4 y5 y6 y7 y8 y9 y10 y11 y12 y13 y14 y15 y16 y17 y18 y19 y20) (mandolinelaw01_SpanBytes.j1 (k + 1) y0 y1 y2 y3 y4 y5 y6 y7 y8 y9 y10 y11 y12 y13 y14 y15 y16 y17 y18 y19 y20))
  | 0 => ⟨fun _ _ _ _ _ _ _ _ _ _ _ _ _ _ _ _ _ _ r h => by simp [mandolinelaw01_SpanBytes.l0] at h, fun _ _ _ _ _ _ _ _ _ _ _ _ _ _ _ _ _ _ _ _ _ r h => by simp [mandolinelaw01_SpanBytes.j1] at h⟩
  | k + 1 => by
    obtain ⟨ih0, ih1⟩ := mandolinelaw01_SpanBytes.mono_l k
    refine ⟨?_, ?_⟩
    · intro y0 y1 y2 y3 y4 y5 y6 y7 y8 y9 y10 y11 y12 y13 y14 y15 y16 y17
      unfold mandolinelaw01_SpanBytes.l0
      repeat' first
      | (with_reducible exact ih0 _ _ _ _ _ _ _ _ _ _ _ _ _ _ _ _ _ _)
      | (with_reducible exact ih1 _ _ _ _ _ _ _ _ _ _ _ _ _ _ _ _ _ _ _ _ _)
      | (with_reducible exact mandolinelaw01_awake.mono _)
      | (with_reducible exact mandolineref01_All.mono _ _)
      | (with_reducible exact LeO.refl _)
      | (with_reducible exact LeO.none _)
      | (with_reducible refine LeO.ite ?_ ?_)
      | (with_reducible refine LeO.bind ?_ (fun _ => ?_))
      | exact ih0 _ _ _ _ _ _ _ _ _ _ _ _ _ _ _ _ _ _
      | exact ih1 _ _ _ _ _ _ _ _ _ _ _ _ _ _ _ _ _ _ _ _ _
      | exact mandolinelaw01_awake.mono _
      | exact mandolineref01_All.mono _ _
      | exact LeO.none _
      | refine LeO.ite ?_ ?_
      | refine LeO.bind ?_ (fun _ => ?_)
    · intro y0 y1 y2 y3 y4 y5 y6 y7 y8 y9 y10 y11 y12 y13 y14 y15 y16 y17 y18 y19 y20
      unfold mandolinelaw01_SpanBytes.j1
      repeat' first
      | (with_reducible exact ih0 _ _ _ _ _ _ _ _ _ _ _ _ _ _ _ _ _ _)
      | (with_reducible exact ih1 _ _ _ _ _ _ _ _ _ _ _ _ _ _ _ _ _ _ _ _ _)
      | (with_reducible exact mandolinelaw01_awake.mono _)
      | (with_reducible exact mandolineref01_All.mono _ _)
      | (with_reducible exact LeO.refl _)
      | (with_reducible exact LeO.none _)
      | (with_reducible refine LeO.ite ?_ ?_)
      | (with_reducible refine LeO.bind ?_ (fun _ => ?_))
      | exact ih0 _ _ _ _ _ _ _ _ _ _ _ _ _ _ _ _ _ _
      | exact ih1 _ _ _ _ _ _ _ _ _ _ _ _ _ _ _ _ _ _ _ _ _
      | exact mandolinelaw01_awake.mono _
      | exact mandolineref01_All.mono _ _
      | exact LeO.none _
      | refine LeO.ite ?_ ?_
      | refine LeO.bind ?_ (fun _ => ?_)
theorem mandolinelaw01_SpanBytes.mono : ∀ a0 a1 a2 a3 a4 k, LeO (mandolinelaw01_SpanBytes.f k a0 a1 a2 a3 a4) (mandolinelaw01_SpanBytes.f (k + 1) a0 a1 a2 a3 a4) := by
  intro a0 a1 a2 a3 a4 k
  obtain ⟨ih0, ih1⟩ := mandolinelaw01_SpanBytes.mono_l k
  unfold mandolinelaw01_SpanBytes.f
  repeat' first
      | (with_reducible exact ih0 _ _ _ _ _ _ _ _ _ _ _ _ _ _ _ _ _ _)
      | (with_reducible exact ih1 _ _ _ _ _ _ _ _ _ _ _ _ _ _ _ _ _ _ _ _ _)
      | (with_reducible exact mandolinelaw01_awake.mono _)
      | (with_reducible exact mandolineref01_All.mono _ _)
      | (with_reducible exact LeO.refl _)
      | (with_reducible exact LeO.none _)
      | (with_reducible refine LeO.ite ?_ ?_)
      | (with_reducible refine LeO.bind ?_ (fun _ => ?_))
      | exact ih0 _ _ _ _ _ _ _ _ _ _ _ _ _ _ _ _ _ _
      | exact ih1 _ _ _ _ _ _ _ _ _ _ _ _ _ _ _ _ _ _ _ _ _
      | exact mandolinelaw01_awake.mono _
      | exact mandolineref01_All.mono _ _
      | exact LeO.none _
      | refine LeO.ite ?_ ?_
      | refine LeO.bind ?_ (fun _ => ?_)
def mandolinelaw01_SpanBytes.T9 : Bool × List (List Nat × List Nat) := (true, [([], []), ([], []), ([0, 1], [0, 1]), ([], []), ([], []), ([3, 4, 2], [3, 4]), ([2, 5, 0, 1, 2], [2]), ([5, 6, 0, 1, 2, 3, 4, 5, 6], [5])])
def mandolinelaw01_SpanBytes.B9 : List Nat := [0, 0, 3, 0, 0, 31, 63, 127]
theorem mandolinelaw01_SpanBytes.tab9 : rtab .any (opsOf Tryd.f10 9) = mandolinelaw01_SpanBytes.T9 := by kernel_rfl
theorem mandolinelaw01_SpanBytes.bits9 : waitsOk mandolinelaw01_SpanBytes.T9.2 mandolinelaw01_SpanBytes.B9 = true := by kernel_rfl
set_option maxHeartbeats 8000000 in
set_option maxRecDepth 100000 in
theorem mandolinelaw01_SpanBytes.calls (k : Nat) (a0_0 : Int) (a0_1 : Int) (a1_0 : Int) (a1_1 : Int) (a2 : Int) (r : Bool) (w : World) (hG : Glob w) (h : mandolinelaw01_SpanBytes.f k a0_0 a0_1 a1_0 a1_1 a2 = some r) :
    Calls Tryd.prog 10 #[.agg #[.int .i64 a0_0, .int .i64 a0_1], .agg #[.int .i64 a1_0, .int .i64 a1_1], .int .i64 a2] w fun e w' => e = .returned (.bool r) ∧ Below w.heap.size w w' := by
  have HG := Aside0.mk hG
  clear hG
  have hu23 := Tryd.underlying23
  have HB := Aside0.mk (Below.refl w.heap.size w)
  have H : ((mandolinelaw01_awake.f k).bind fun t370 => (if t370 = true then ((span_Meet.f a0_0 a0_1 a1_0 a1_1).bind fun bt371 => ((span_Join.f a0_0 a0_1 a1_0 a1_1).bind fun bt375 => ((span_Cut.f a0_0 a0_1 a2).bind fun bt379 => ((mandolineref01_All.f k (([(⟨a0_0, a0_1⟩ : S23), (⟨a1_0, a1_1⟩ : S23)] : List (S23)))).bind fun t388 => (if t388.length < 17592186044416 then ((some (t388 ++ [a2] : List Int)).bind fun y391 => (mandolinelaw01_SpanBytes.l0 k a2 bt371.2.2 bt375.2.2 y391 (y391.length : Int) 0 a0_0 a0_1 a1_0 a1_1 bt371.1 bt371.2.1 bt375.1 bt375.2.1 bt379.1 bt379.2.1 bt379.2.2.1 bt379.2.2.2)) else (none)))))) else (some false))) = some r := h
  clear h
  replace H := Option.bind_eq_some_iff.mp H
  obtain ⟨t370, A40, H⟩ := H
  replace H : (if t370 = true then ((span_Meet.f a0_0 a0_1 a1_0 a1_1).bind fun bt371 => ((span_Join.f a0_0 a0_1 a1_0 a1_1).bind fun bt375 => ((span_Cut.f a0_0 a0_1 a2).bind fun bt379 => ((mandolineref01_All.f k (([(⟨a0_0, a0_1⟩ : S23), (⟨a1_0, a1_1⟩ : S23)] : List (S23)))).bind fun t388 => (if t388.length < 17592186044416 then ((some (t388 ++ [a2] : List Int)).bind fun y391 => (mandolinelaw01_SpanBytes.l0 k a2 bt371.2.2 bt375.2.2 y391 (y391.length : Int) 0 a0_0 a0_1 a1_0 a1_1 bt371.1 bt371.2.1 bt375.1 bt375.2.1 bt379.1 bt379.2.1 bt379.2.2.1 bt379.2.2.2)) else (none)))))) else (some false)) = some r := H
  have A4 := Aside0.mk A40
  clear A40
  by_cases c5 : t370 = true
  · subst c5
    have H1 : ((span_Meet.f a0_0 a0_1 a1_0 a1_1).bind fun bt371 => ((span_Join.f a0_0 a0_1 a1_0 a1_1).bind fun bt375 => ((span_Cut.f a0_0 a0_1 a2).bind fun bt379 => ((mandolineref01_All.f k (([(⟨a0_0, a0_1⟩ : S23), (⟨a1_0, a1_1⟩ : S23)] : List (S23)))).bind fun t388 => (if t388.length < 17592186044416 then ((some (t388 ++ [a2] : List Int)).bind fun y391 => (mandolinelaw01_SpanBytes.l0 k a2 bt371.2.2 bt375.2.2 y391 (y391.length : Int) 0 a0_0 a0_1 a1_0 a1_1 bt371.1 bt371.2.1 bt375.1 bt375.2.1 bt379.1 bt379.2.1 bt379.2.2.1 bt379.2.2.2)) else (none)))))) = some r := by rw [if_pos rfl] at H; exact H
    clear H
    have H := H1
    clear H1
    replace H := Option.bind_eq_some_iff.mp H
    obtain ⟨⟨t371, t372, t373⟩, A60, H⟩ := H
    replace H : ((span_Join.f a0_0 a0_1 a1_0 a1_1).bind fun bt375 => ((span_Cut.f a0_0 a0_1 a2).bind fun bt379 => ((mandolineref01_All.f k (([(⟨a0_0, a0_1⟩ : S23), (⟨a1_0, a1_1⟩ : S23)] : List (S23)))).bind fun t388 => (if t388.length < 17592186044416 then ((some (t388 ++ [a2] : List Int)).bind fun y391 => (mandolinelaw01_SpanBytes.l0 k a2 t373 bt375.2.2 y391 (y391.length : Int) 0 a0_0 a0_1 a1_0 a1_1 t371 t372 bt375.1 bt375.2.1 bt379.1 bt379.2.1 bt379.2.2.1 bt379.2.2.2)) else (none))))) = some r := H
    have A6 := Aside0.mk A60
    clear A60
    replace H := Option.bind_eq_some_iff.mp H
    obtain ⟨⟨t375, t376, t377⟩, A70, H⟩ := H
    replace H : ((span_Cut.f a0_0 a0_1 a2).bind fun bt379 => ((mandolineref01_All.f k (([(⟨a0_0, a0_1⟩ : S23), (⟨a1_0, a1_1⟩ : S23)] : List (S23)))).bind fun t388 => (if t388.length < 17592186044416 then ((some (t388 ++ [a2] : List Int)).bind fun y391 => (mandolinelaw01_SpanBytes.l0 k a2 t373 t377 y391 (y391.length : Int) 0 a0_0 a0_1 a1_0 a1_1 t371 t372 t375 t376 bt379.1 bt379.2.1 bt379.2.2.1 bt379.2.2.2)) else (none)))) = some r := H
    have A7 := Aside0.mk A70
    clear A70
    replace H := Option.bind_eq_some_iff.mp H
    obtain ⟨⟨t379, t380, t381, t382⟩, A80, H⟩ := H
    replace H : ((mandolineref01_All.f k (([(⟨a0_0, a0_1⟩ : S23), (⟨a1_0, a1_1⟩ : S23)] : List (S23)))).bind fun t388 => (if t388.length < 17592186044416 then ((some (t388 ++ [a2] : List Int)).bind fun y391 => (mandolinelaw01_SpanBytes.l0 k a2 t373 t377 y391 (y391.length : Int) 0 a0_0 a0_1 a1_0 a1_1 t371 t372 t375 t376 t379 t380 t381 t382)) else (none))) = some r := H
    have A8 := Aside0.mk A80
    clear A80
    obtain ⟨y385, hy385⟩ : ∃ y_ : List (S23), y_ = (([(⟨a0_0, a0_1⟩ : S23), (⟨a1_0, a1_1⟩ : S23)] : List (S23))) := ⟨_, rfl⟩
    replace H : ((mandolineref01_All.f k y385).bind fun t388 => (if t388.length < 17592186044416 then ((some (t388 ++ [a2] : List Int)).bind fun y391 => (mandolinelaw01_SpanBytes.l0 k a2 t373 t377 y391 (y391.length : Int) 0 a0_0 a0_1 a1_0 a1_1 t371 t372 t375 t376 t379 t380 t381 t382)) else (none))) = some r := by first | (rw [hy385]; with_reducible exact H) | (have H2_ := (Option.bind_some _ _).symm.trans H; rw [hy385]; with_reducible exact H2_) | (have H2_ := (Option.bind_some _ _).symm.trans H; with_reducible exact H2_) | with_reducible exact H | (rw [hy385]; exact H) | exact H
    have Ny385 := Aside0.mk hy385
    clear hy385
    replace H := Option.bind_eq_some_iff.mp H
    obtain ⟨t388, A90, H⟩ := H
    replace H : (if t388.length < 17592186044416 then ((some (t388 ++ [a2] : List Int)).bind fun y391 => (mandolinelaw01_SpanBytes.l0 k a2 t373 t377 y391 (y391.length : Int) 0 a0_0 a0_1 a1_0 a1_1 t371 t372 t375 t376 t379 t380 t381 t382)) else (none)) = some r := H
    have A9 := Aside0.mk A90
    clear A90
    by_cases c10 : t388.length < 17592186044416
    · rw [if_pos c10] at H
      have LMc10 := Aside0.mk c10
      clear c10
      obtain ⟨y391, hy391⟩ : ∃ y_ : List Int, y_ = (t388 ++ [a2]) := ⟨_, rfl⟩
      replace H : (mandolinelaw01_SpanBytes.l0 k a2 t373 t377 y391 (y391.length : Int) 0 a0_0 a0_1 a1_0 a1_1 t371 t372 t375 t376 t379 t380 t381 t382) = some r := by first | (rw [hy391]; with_reducible exact H) | (have H2_ := (Option.bind_some _ _).symm.trans H; rw [hy391]; with_reducible exact H2_) | (have H2_ := (Option.bind_some _ _).symm.trans H; with_reducible exact H2_) | with_reducible exact H | (rw [hy391]; exact H) | exact H
      have Ny391 := Aside0.mk hy391
      clear hy391
      have H' := Aside0.mk H
      clear H
      go_enter Tryd.func10, Tryd.ntmps10
      go_wp2_with (first | ((with_reducible refine gate_dst (N := 3) rfl ?_); refine box_event ?hg (N := 3) ?hd (cs := #[.int .i64 a0_0, .int .i64 a0_1]) (t := 23) ?hr ?_; (case hd => rfl); (case hg => rfl); (case hr => first | (go_simp; done) | (go_simp; rfl)); intro gb368 hg w11 hbox hb; have n0_ := Aside0.mk (below_step (by repeat (first | (with_reducible first | exact HB.out | apply below_alloc | apply pw_below_drewN | apply below_drew1) | exact HB.out)) hb); have n1_ := Aside0.mk (hbox); have n2_ := Aside0.mk ((by rw [hg]; exact (below_size (by repeat (first | (with_reducible first | exact HB.out | apply below_alloc | apply pw_below_drewN | apply below_drew1) | exact HB.out))) : w.heap.size ≤ gb368)); have n3_ := Aside0.mk ((by rw [hg]; exact (below_size (by repeat (first | (with_reducible first | exact HB.out | apply below_alloc | apply pw_below_drewN | apply below_drew1) | exact HB.out))) : w.heap.size ≤ gb368)); clear HB; have HB := n0_; have BK368 := n1_; have GW368 := n2_; have GE368 := n3_; clear n0_ n1_ n2_ n3_; clear hb hbox hg) | ((with_reducible refine gate_dst (N := 4) rfl ?_); refine box_event ?hg (N := 4) ?hd (cs := #[.int .i64 a1_0, .int .i64 a1_1]) (t := 23) ?hr ?_; (case hd => rfl); (case hg => rfl); (case hr => first | (go_simp; done) | (go_simp; rfl)); intro gb369 hg w12 hbox hb; have n0_ := Aside0.mk (blk_below (g := gb368) (o := .cells #[.int .i64 a0_0, .int .i64 a0_1] 23 (0, 0)) (by (with_reducible repeat (first | refine blk_drewN ?_ _ | refine blk_drew ?_ | refine blk_alloc ?_ _)); exact BK368.out) hb); have n1_ := Aside0.mk (below_step (by repeat (first | (with_reducible first | exact HB.out | apply below_alloc | apply pw_below_drewN | apply below_drew1 | refine below_set ?_ GE368.out) | exact HB.out)) hb); have n2_ := Aside0.mk (hbox); have n3_ := Aside0.mk ((by rw [hg]; exact (below_size (by repeat (first | (with_reducible first | exact HB.out | apply below_alloc | apply pw_below_drewN | apply below_drew1 | refine below_set ?_ GE368.out) | exact HB.out))) : w.heap.size ≤ gb369)); have n4_ := Aside0.mk ((by rw [hg]; exact (below_size (by repeat (first | (with_reducible first | exact HB.out | apply below_alloc | apply pw_below_drewN | apply below_drew1 | refine below_set ?_ GE368.out) | exact HB.out))) : w.heap.size ≤ gb369)); have n5_ := Aside0.mk ((by rw [hg]; exact Nat.ne_of_lt (blk_lt (g := gb368) (o := .cells #[.int .i64 a0_0, .int .i64 a0_1] 23 (0, 0)) (by (with_reducible repeat (first | refine blk_drewN ?_ _ | refine blk_drew ?_ | refine blk_alloc ?_ _)); exact BK368.out)) : gb368 ≠ gb369)); have n6_ := Aside0.mk ((by rw [hg]; exact Nat.ne_of_gt (blk_lt (g := gb368) (o := .cells #[.int .i64 a0_0, .int .i64 a0_1] 23 (0, 0)) (by (with_reducible repeat (first | refine blk_drewN ?_ _ | refine blk_drew ?_ | refine blk_alloc ?_ _)); exact BK368.out)) : gb369 ≠ gb368)); clear BK368; clear HB; have BK368 := n0_; have HB := n1_; have BK369 := n2_; have GW369 := n3_; have GE369 := n4_; have NB368_369 := n5_; have NB369_368 := n6_; clear n0_ n1_ n2_ n3_ n4_ n5_ n6_; clear hb hbox hg) | ((first | ((with_reducible refine gate_callee (f := 12) rfl ?_); refine goesL_ (some 17) rfl rfl Tryd.func12 (by kernel_rfl) rfl #[] rfl (by (try simp only [List.map_toArray, List.map_cons, List.map_nil]); first | done | rfl | (simp only [List.length_drop, List.length_take]; rfl)) ?_; (with_reducible refine (mandolinelaw01_awake.calls k  true _ ?side1 A4.out).mono ?_); (case side1 => exact Glob.below HG.out (by repeat (first | (with_reducible first | exact HB.out | apply below_alloc | apply pw_below_drewN | apply below_drew1 | refine below_set ?_ GE368.out | refine below_set ?_ GE369.out) | exact HB.out))); rintro e w13 ⟨rfl, hb⟩; refine ⟨_, rfl, ?_⟩) | (go_at_call 12; (with_reducible refine (mandolinelaw01_awake.calls k  true _ ?side1 A4.out).mono ?_); (case side1 => exact Glob.below HG.out (by repeat (first | (with_reducible first | exact HB.out | apply below_alloc | apply pw_below_drewN | apply below_drew1 | refine below_set ?_ GE368.out | refine below_set ?_ GE369.out) | exact HB.out))); rintro e w13 ⟨rfl, hb⟩)); have n0_ := Aside0.mk (blk_below (g := gb368) (o := .cells #[.int .i64 a0_0, .int .i64 a0_1] 23 (0, 0)) (by (with_reducible repeat (first | refine blk_drewN ?_ _ | refine blk_drew ?_ | refine blk_alloc ?_ _)); exact BK368.out) hb); have n1_ := Aside0.mk (blk_below (g := gb369) (o := .cells #[.int .i64 a1_0, .int .i64 a1_1] 23 (0, 0)) (by (with_reducible repeat (first | refine blk_drewN ?_ _ | refine blk_drew ?_ | refine blk_alloc ?_ _)); exact BK369.out) hb); have n2_ := Aside0.mk (below_step (by repeat (first | (with_reducible first | exact HB.out | apply below_alloc | apply pw_below_drewN | apply below_drew1 | refine below_set ?_ GE368.out | refine below_set ?_ GE369.out) | exact HB.out)) hb); clear BK368; clear BK369; clear HB; have BK368 := n0_; have BK369 := n1_; have HB := n2_; clear n0_ n1_ n2_; (try clear hb); (try clear hb2); (try clear hk); (try clear hi); have hnb14 := NB368_369.out; have hnc14 := NB369_368.out; have hcz15_0 : w13.cell? ⟨gb368, 0, none⟩ = some (.int .i64 a0_0) := (blk_cell BK368.out 0).trans rfl; have hcz15_1 : w13.cell? ⟨gb368, 1, none⟩ = some (.int .i64 a0_1) := (blk_cell BK368.out 1).trans rfl; have hfz15_0 := blk_frozen BK368.out 0; have hfz15_1 := blk_frozen BK368.out 1; have hcz16_0 : w13.cell? ⟨gb369, 0, none⟩ = some (.int .i64 a1_0) := (blk_cell BK369.out 0).trans rfl; have hcz16_1 : w13.cell? ⟨gb369, 1, none⟩ = some (.int .i64 a1_1) := (blk_cell BK369.out 1).trans rfl; have hfz16_0 := blk_frozen BK369.out 0; have hfz16_1 := blk_frozen BK369.out 1) | ((first | ((with_reducible refine gate_callee (f := 19) rfl ?_); refine goesL_ (some 22) rfl rfl Tryd.func19 (by kernel_rfl) rfl #[.agg #[.int .i64 a0_0, .int .i64 a0_1], .agg #[.int .i64 a1_0, .int .i64 a1_1]] rfl (by (try simp only [List.map_toArray, List.map_cons, List.map_nil]); first | done | rfl | (simp only [List.length_drop, List.length_take]; rfl)) ?_; (with_reducible refine (span_Meet.calls a0_0 a0_1 a1_0 a1_1 t371 t372 t373 _ A6.out).mono ?_); rintro e w17 ⟨rfl, hb⟩; refine ⟨_, rfl, ?_⟩) | (go_at_call 19; (with_reducible refine (span_Meet.calls a0_0 a0_1 a1_0 a1_1 t371 t372 t373 _ A6.out).mono ?_); rintro e w17 ⟨rfl, hb⟩)); have n0_ := Aside0.mk (blk_below (g := gb368) (o := .cells #[.int .i64 a0_0, .int .i64 a0_1] 23 (0, 0)) (by (with_reducible repeat (first | refine blk_drewN ?_ _ | refine blk_drew ?_ | refine blk_alloc ?_ _)); exact BK368.out) hb); have n1_ := Aside0.mk (blk_below (g := gb369) (o := .cells #[.int .i64 a1_0, .int .i64 a1_1] 23 (0, 0)) (by (with_reducible repeat (first | refine blk_drewN ?_ _ | refine blk_drew ?_ | refine blk_alloc ?_ _)); exact BK369.out) hb); have n2_ := Aside0.mk (below_step (by repeat (first | (with_reducible first | exact HB.out | apply below_alloc | apply pw_below_drewN | apply below_drew1 | refine below_set ?_ GE368.out | refine below_set ?_ GE369.out) | exact HB.out)) hb); clear BK368; clear BK369; clear HB; have BK368 := n0_; have BK369 := n1_; have HB := n2_; clear n0_ n1_ n2_; (try clear hb); (try clear hb2); (try clear hk); (try clear hi)) | ((with_reducible refine gate_dst (N := 7) rfl ?_); refine box_event ?hg (N := 7) ?hd (cs := #[.int .i64 0, .int .i64 0]) (t := 23) ?hr ?_; (case hd => rfl); (case hg => rfl); (case hr => first | (go_simp; done) | (go_simp; rfl)); intro gb374 hg w18 hbox hb; have n0_ := Aside0.mk (blk_below (g := gb368) (o := .cells #[.int .i64 a0_0, .int .i64 a0_1] 23 (0, 0)) (by (with_reducible repeat (first | refine blk_drewN ?_ _ | refine blk_drew ?_ | refine blk_alloc ?_ _)); exact BK368.out) hb); have n1_ := Aside0.mk (blk_below (g := gb369) (o := .cells #[.int .i64 a1_0, .int .i64 a1_1] 23 (0, 0)) (by (with_reducible repeat (first | refine blk_drewN ?_ _ | refine blk_drew ?_ | refine blk_alloc ?_ _)); exact BK369.out) hb); have n2_ := Aside0.mk (below_step (by repeat (first | (with_reducible first | exact HB.out | apply below_alloc | apply pw_below_drewN | apply below_drew1 | refine below_set ?_ GE368.out | refine below_set ?_ GE369.out) | exact HB.out)) hb); have n3_ := Aside0.mk (hbox); have n4_ := Aside0.mk ((by rw [hg]; exact (below_size (by repeat (first | (with_reducible first | exact HB.out | apply below_alloc | apply pw_below_drewN | apply below_drew1 | refine below_set ?_ GE368.out | refine below_set ?_ GE369.out) | exact HB.out))) : w.heap.size ≤ gb374)); have n5_ := Aside0.mk ((by rw [hg]; exact (below_size (by repeat (first | (with_reducible first | exact HB.out | apply below_alloc | apply pw_below_drewN | apply below_drew1 | refine below_set ?_ GE368.out | refine below_set ?_ GE369.out) | exact HB.out))) : w.heap.size ≤ gb374)); have n6_ := Aside0.mk ((by rw [hg]; exact Nat.ne_of_lt (blk_lt (g := gb368) (o := .cells #[.int .i64 a0_0, .int .i64 a0_1] 23 (0, 0)) (by (with_reducible repeat (first | refine blk_drewN ?_ _ | refine blk_drew ?_ | refine blk_alloc ?_ _)); exact BK368.out)) : gb368 ≠ gb374)); have n7_ := Aside0.mk ((by rw [hg]; exact Nat.ne_of_gt (blk_lt (g := gb368) (o := .cells #[.int .i64 a0_0, .int .i64 a0_1] 23 (0, 0)) (by (with_reducible repeat (first | refine blk_drewN ?_ _ | refine blk_drew ?_ | refine blk_alloc ?_ _)); exact BK368.out)) : gb374 ≠ gb368)); have n8_ := Aside0.mk ((by rw [hg]; exact Nat.ne_of_lt (blk_lt (g := gb369) (o := .cells #[.int .i64 a1_0, .int .i64 a1_1] 23 (0, 0)) (by (with_reducible repeat (first | refine blk_drewN ?_ _ | refine blk_drew ?_ | refine blk_alloc ?_ _)); exact BK369.out)) : gb369 ≠ gb374)); have n9_ := Aside0.mk ((by rw [hg]; exact Nat.ne_of_gt (blk_lt (g := gb369) (o := .cells #[.int .i64 a1_0, .int .i64 a1_1] 23 (0, 0)) (by (with_reducible repeat (first | refine blk_drewN ?_ _ | refine blk_drew ?_ | refine blk_alloc ?_ _)); exact BK369.out)) : gb374 ≠ gb369)); clear BK368; clear BK369; clear HB; have BK368 := n0_; have BK369 := n1_; have HB := n2_; have BK374 := n3_; have GW374 := n4_; have GE374 := n5_; have NB368_374 := n6_; have NB374_368 := n7_; have NB369_374 := n8_; have NB374_369 := n9_; clear n0_ n1_ n2_ n3_ n4_ n5_ n6_ n7_ n8_ n9_; clear hb hbox hg; have hnb19 := NB374_368.out; have hnc19 := NB368_374.out; have hnb20 := NB374_369.out; have hnc20 := NB369_374.out; have hcz21_0 : w18.cell? ⟨gb374, 0, none⟩ = some (.int .i64 0) := (blk_cell BK374.out 0).trans rfl; have hcz21_1 : w18.cell? ⟨gb374, 1, none⟩ = some (.int .i64 0) := (blk_cell BK374.out 1).trans rfl; have hfz21_0 := blk_frozen BK374.out 0; have hfz21_1 := blk_frozen BK374.out 1; have hcz22_0 : w18.cell? ⟨gb368, 0, none⟩ = some (.int .i64 a0_0) := (blk_cell BK368.out 0).trans rfl; have hcz22_1 : w18.cell? ⟨gb368, 1, none⟩ = some (.int .i64 a0_1) := (blk_cell BK368.out 1).trans rfl; have hfz22_0 := blk_frozen BK368.out 0; have hfz22_1 := blk_frozen BK368.out 1; have hcz23_0 : w18.cell? ⟨gb369, 0, none⟩ = some (.int .i64 a1_0) := (blk_cell BK369.out 0).trans rfl; have hcz23_1 : w18.cell? ⟨gb369, 1, none⟩ = some (.int .i64 a1_1) := (blk_cell BK369.out 1).trans rfl; have hfz23_0 := blk_frozen BK369.out 0; have hfz23_1 := blk_frozen BK369.out 1) | ((first | ((with_reducible refine gate_callee (f := 23) rfl ?_); refine goesL_ (some 28) rfl rfl Tryd.func23 (by kernel_rfl) rfl #[.agg #[.int .i64 a0_0, .int .i64 a0_1], .agg #[.int .i64 a1_0, .int .i64 a1_1]] rfl (by (try simp only [List.map_toArray, List.map_cons, List.map_nil]); first | done | rfl | (simp only [List.length_drop, List.length_take]; rfl)) ?_; (with_reducible refine (span_Join.calls a0_0 a0_1 a1_0 a1_1 t375 t376 t377 _ A7.out).mono ?_); rintro e w24 ⟨rfl, hb⟩; refine ⟨_, rfl, ?_⟩) | (go_at_call 23; (with_reducible refine (span_Join.calls a0_0 a0_1 a1_0 a1_1 t375 t376 t377 _ A7.out).mono ?_); rintro e w24 ⟨rfl, hb⟩)); have n0_ := Aside0.mk (blk_below (g := gb368) (o := .cells #[.int .i64 a0_0, .int .i64 a0_1] 23 (0, 0)) (by (with_reducible repeat (first | refine blk_drewN ?_ _ | refine blk_drew ?_ | refine blk_alloc ?_ _)); refine blk_far ?_ NB368_374.out _; (with_reducible repeat (first | refine blk_drewN ?_ _ | refine blk_drew ?_ | refine blk_alloc ?_ _)); refine blk_far ?_ NB368_374.out _; (with_reducible repeat (first | refine blk_drewN ?_ _ | refine blk_drew ?_ | refine blk_alloc ?_ _)); exact BK368.out) hb); have n1_ := Aside0.mk (blk_below (g := gb369) (o := .cells #[.int .i64 a1_0, .int .i64 a1_1] 23 (0, 0)) (by (with_reducible repeat (first | refine blk_drewN ?_ _ | refine blk_drew ?_ | refine blk_alloc ?_ _)); refine blk_far ?_ NB369_374.out _; (with_reducible repeat (first | refine blk_drewN ?_ _ | refine blk_drew ?_ | refine blk_alloc ?_ _)); refine blk_far ?_ NB369_374.out _; (with_reducible repeat (first | refine blk_drewN ?_ _ | refine blk_drew ?_ | refine blk_alloc ?_ _)); exact BK369.out) hb); have n2_ := Aside0.mk (blk_below (g := gb374) (o := .cells #[.int .i64 t371, .int .i64 t372] 23 (0, 0)) (by (with_reducible repeat (first | refine blk_drewN ?_ _ | refine blk_drew ?_ | refine blk_alloc ?_ _)); refine blk_put (cs := #[.int .i64 t371, .int .i64 0]) ?_ 1 _ rfl; (with_reducible repeat (first | refine blk_drewN ?_ _ | refine blk_drew ?_ | refine blk_alloc ?_ _)); refine blk_put (cs := #[.int .i64 0, .int .i64 0]) ?_ 0 _ rfl; (with_reducible repeat (first | refine blk_drewN ?_ _ | refine blk_drew ?_ | refine blk_alloc ?_ _)); exact BK374.out) hb); have n3_ := Aside0.mk (below_step (by repeat (first | (with_reducible first | exact HB.out | apply below_alloc | apply pw_below_drewN | apply below_drew1 | refine below_set ?_ GE368.out | refine below_set ?_ GE369.out | refine below_set ?_ GE374.out) | exact HB.out)) hb); clear BK368; clear BK369; clear BK374; clear HB; have BK368 := n0_; have BK369 := n1_; have BK374 := n2_; have HB := n3_; clear n0_ n1_ n2_ n3_; (try clear hb); (try clear hb2); (try clear hk); (try clear hi)) | ((with_reducible refine gate_dst (N := 9) rfl ?_); refine box_event ?hg (N := 9) ?hd (cs := #[.int .i64 0, .int .i64 0]) (t := 23) ?hr ?_; (case hd => rfl); (case hg => rfl); (case hr => first | (go_simp; done) | (go_simp; rfl)); intro gb378 hg w25 hbox hb; have n0_ := Aside0.mk (blk_below (g := gb368) (o := .cells #[.int .i64 a0_0, .int .i64 a0_1] 23 (0, 0)) (by (with_reducible repeat (first | refine blk_drewN ?_ _ | refine blk_drew ?_ | refine blk_alloc ?_ _)); exact BK368.out) hb); have n1_ := Aside0.mk (blk_below (g := gb369) (o := .cells #[.int .i64 a1_0, .int .i64 a1_1] 23 (0, 0)) (by (with_reducible repeat (first | refine blk_drewN ?_ _ | refine blk_drew ?_ | refine blk_alloc ?_ _)); exact BK369.out) hb); have n2_ := Aside0.mk (blk_below (g := gb374) (o := .cells #[.int .i64 t371, .int .i64 t372] 23 (0, 0)) (by (with_reducible repeat (first | refine blk_drewN ?_ _ | refine blk_drew ?_ | refine blk_alloc ?_ _)); exact BK374.out) hb); have n3_ := Aside0.mk (below_step (by repeat (first | (with_reducible first | exact HB.out | apply below_alloc | apply pw_below_drewN | apply below_drew1 | refine below_set ?_ GE368.out | refine below_set ?_ GE369.out | refine below_set ?_ GE374.out) | exact HB.out)) hb); have n4_ := Aside0.mk (hbox); have n5_ := Aside0.mk ((by rw [hg]; exact (below_size (by repeat (first | (with_reducible first | exact HB.out | apply below_alloc | apply pw_below_drewN | apply below_drew1 | refine below_set ?_ GE368.out | refine below_set ?_ GE369.out | refine below_set ?_ GE374.out) | exact HB.out))) : w.heap.size ≤ gb378)); have n6_ := Aside0.mk ((by rw [hg]; exact (below_size (by repeat (first | (with_reducible first | exact HB.out | apply below_alloc | apply pw_below_drewN | apply below_drew1 | refine below_set ?_ GE368.out | refine below_set ?_ GE369.out | refine below_set ?_ GE374.out) | exact HB.out))) : w.heap.size ≤ gb378)); have n7_ := Aside0.mk ((by rw [hg]; exact Nat.ne_of_lt (blk_lt (g := gb368) (o := .cells #[.int .i64 a0_0, .int .i64 a0_1] 23 (0, 0)) (by (with_reducible repeat (first | refine blk_drewN ?_ _ | refine blk_drew ?_ | refine blk_alloc ?_ _)); exact BK368.out)) : gb368 ≠ gb378)); have n8_ := Aside0.mk ((by rw [hg]; exact Nat.ne_of_gt (blk_lt (g := gb368) (o := .cells #[.int .i64 a0_0, .int .i64 a0_1] 23 (0, 0)) (by (with_reducible repeat (first | refine blk_drewN ?_ _ | refine blk_drew ?_ | refine blk_alloc ?_ _)); exact BK368.out)) : gb378 ≠ gb368)); have n9_ := Aside0.mk ((by rw [hg]; exact Nat.ne_of_lt (blk_lt (g := gb369) (o := .cells #[.int .i64 a1_0, .int .i64 a1_1] 23 (0, 0)) (by (with_reducible repeat (first | refine blk_drewN ?_ _ | refine blk_drew ?_ | refine blk_alloc ?_ _)); exact BK369.out)) : gb369 ≠ gb378)); have n10_ := Aside0.mk ((by rw [hg]; exact Nat.ne_of_gt (blk_lt (g := gb369) (o := .cells #[.int .i64 a1_0, .int .i64 a1_1] 23 (0, 0)) (by (with_reducible repeat (first | refine blk_drewN ?_ _ | refine blk_drew ?_ | refine blk_alloc ?_ _)); exact BK369.out)) : gb378 ≠ gb369)); have n11_ := Aside0.mk ((by rw [hg]; exact Nat.ne_of_lt (blk_lt (g := gb374) (o := .cells #[.int .i64 t371, .int .i64 t372] 23 (0, 0)) (by (with_reducible repeat (first | refine blk_drewN ?_ _ | refine blk_drew ?_ | refine blk_alloc ?_ _)); exact BK374.out)) : gb374 ≠ gb378)); have n12_ := Aside0.mk ((by rw [hg]; exact Nat.ne_of_gt (blk_lt (g := gb374) (o := .cells #[.int .i64 t371, .int .i64 t372] 23 (0, 0)) (by (with_reducible repeat (first | refine blk_drewN ?_ _ | refine blk_drew ?_ | refine blk_alloc ?_ _)); exact BK374.out)) : gb378 ≠ gb374)); clear BK368; clear BK369; clear BK374; clear HB; have BK368 := n0_; have BK369 := n1_; have BK374 := n2_; have HB := n3_; have BK378 := n4_; have GW378 := n5_; have GE378 := n6_; have NB368_378 := n7_; have NB378_368 := n8_; have NB369_378 := n9_; have NB378_369 := n10_; have NB374_378 := n11_; have NB378_374 := n12_; clear n0_ n1_ n2_ n3_ n4_ n5_ n6_ n7_ n8_ n9_ n10_ n11_ n12_; clear hb hbox hg; have hnb26 := NB378_368.out; have hnc26 := NB368_378.out; have hnb27 := NB378_369.out; have hnc27 := NB369_378.out; have hnb28 := NB378_374.out; have hnc28 := NB374_378.out; have hcz29_0 : w25.cell? ⟨gb378, 0, none⟩ = some (.int .i64 0) := (blk_cell BK378.out 0).trans rfl; have hcz29_1 : w25.cell? ⟨gb378, 1, none⟩ = some (.int .i64 0) := (blk_cell BK378.out 1).trans rfl; have hfz29_0 := blk_frozen BK378.out 0; have hfz29_1 := blk_frozen BK378.out 1; have hcz30_0 : w25.cell? ⟨gb368, 0, none⟩ = some (.int .i64 a0_0) := (blk_cell BK368.out 0).trans rfl; have hcz30_1 : w25.cell? ⟨gb368, 1, none⟩ = some (.int .i64 a0_1) := (blk_cell BK368.out 1).trans rfl; have hfz30_0 := blk_frozen BK368.out 0; have hfz30_1 := blk_frozen BK368.out 1) | ((first | ((with_reducible refine gate_callee (f := 26) rfl ?_); refine goesL_ (some 34) rfl rfl Tryd.func26 (by kernel_rfl) rfl #[.agg #[.int .i64 a0_0, .int .i64 a0_1], .int .i64 a2] rfl (by (try simp only [List.map_toArray, List.map_cons, List.map_nil]); first | done | rfl | (simp only [List.length_drop, List.length_take]; rfl)) ?_; (with_reducible refine (span_Cut.calls a0_0 a0_1 a2 t379 t380 t381 t382 _ A8.out).mono ?_); rintro e w31 ⟨rfl, hb⟩; refine ⟨_, rfl, ?_⟩) | (go_at_call 26; (with_reducible refine (span_Cut.calls a0_0 a0_1 a2 t379 t380 t381 t382 _ A8.out).mono ?_); rintro e w31 ⟨rfl, hb⟩)); have n0_ := Aside0.mk (blk_below (g := gb368) (o := .cells #[.int .i64 a0_0, .int .i64 a0_1] 23 (0, 0)) (by (with_reducible repeat (first | refine blk_drewN ?_ _ | refine blk_drew ?_ | refine blk_alloc ?_ _)); refine blk_far ?_ NB368_378.out _; (with_reducible repeat (first | refine blk_drewN ?_ _ | refine blk_drew ?_ | refine blk_alloc ?_ _)); refine blk_far ?_ NB368_378.out _; (with_reducible repeat (first | refine blk_drewN ?_ _ | refine blk_drew ?_ | refine blk_alloc ?_ _)); exact BK368.out) hb); have n1_ := Aside0.mk (blk_below (g := gb369) (o := .cells #[.int .i64 a1_0, .int .i64 a1_1] 23 (0, 0)) (by (with_reducible repeat (first | refine blk_drewN ?_ _ | refine blk_drew ?_ | refine blk_alloc ?_ _)); refine blk_far ?_ NB369_378.out _; (with_reducible repeat (first | refine blk_drewN ?_ _ | refine blk_drew ?_ | refine blk_alloc ?_ _)); refine blk_far ?_ NB369_378.out _; (with_reducible repeat (first | refine blk_drewN ?_ _ | refine blk_drew ?_ | refine blk_alloc ?_ _)); exact BK369.out) hb); have n2_ := Aside0.mk (blk_below (g := gb374) (o := .cells #[.int .i64 t371, .int .i64 t372] 23 (0, 0)) (by (with_reducible repeat (first | refine blk_drewN ?_ _ | refine blk_drew ?_ | refine blk_alloc ?_ _)); refine blk_far ?_ NB374_378.out _; (with_reducible repeat (first | refine blk_drewN ?_ _ | refine blk_drew ?_ | refine blk_alloc ?_ _)); refine blk_far ?_ NB374_378.out _; (with_reducible repeat (first | refine blk_drewN ?_ _ | refine blk_drew ?_ | refine blk_alloc ?_ _)); exact BK374.out) hb); have n3_ := Aside0.mk (blk_below (g := gb378) (o := .cells #[.int .i64 t375, .int .i64 t376] 23 (0, 0)) (by (with_reducible repeat (first | refine blk_drewN ?_ _ | refine blk_drew ?_ | refine blk_alloc ?_ _)); refine blk_put (cs := #[.int .i64 t375, .int .i64 0]) ?_ 1 _ rfl; (with_reducible repeat (first | refine blk_drewN ?_ _ | refine blk_drew ?_ | refine blk_alloc ?_ _)); refine blk_put (cs := #[.int .i64 0, .int .i64 0]) ?_ 0 _ rfl; (with_reducible repeat (first | refine blk_drewN ?_ _ | refine blk_drew ?_ | refine blk_alloc ?_ _)); exact BK378.out) hb); have n4_ := Aside0.mk (below_step (by repeat (first | (with_reducible first | exact HB.out | apply below_alloc | apply pw_below_drewN | apply below_drew1 | refine below_set ?_ GE368.out | refine below_set ?_ GE369.out | refine below_set ?_ GE374.out | refine below_set ?_ GE378.out) | exact HB.out)) hb); clear BK368; clear BK369; clear BK374; clear BK378; clear HB; have BK368 := n0_; have BK369 := n1_; have BK374 := n2_; have BK378 := n3_; have HB := n4_; clear n0_ n1_ n2_ n3_ n4_; (try clear hb); (try clear hb2); (try clear hk); (try clear hi)) | ((with_reducible refine gate_dst (N := 11) rfl ?_); refine box_event ?hg (N := 11) ?hd (cs := #[.int .i64 0, .int .i64 0]) (t := 23) ?hr ?_; (case hd => rfl); (case hg => rfl); (case hr => first | (go_simp; done) | (go_simp; rfl)); intro gb383 hg w32 hbox hb; have n0_ := Aside0.mk (blk_below (g := gb368) (o := .cells #[.int .i64 a0_0, .int .i64 a0_1] 23 (0, 0)) (by (with_reducible repeat (first | refine blk_drewN ?_ _ | refine blk_drew ?_ | refine blk_alloc ?_ _)); exact BK368.out) hb); have n1_ := Aside0.mk (blk_below (g := gb369) (o := .cells #[.int .i64 a1_0, .int .i64 a1_1] 23 (0, 0)) (by (with_reducible repeat (first | refine blk_drewN ?_ _ | refine blk_drew ?_ | refine blk_alloc ?_ _)); exact BK369.out) hb); have n2_ := Aside0.mk (blk_below (g := gb374) (o := .cells #[.int .i64 t371, .int .i64 t372] 23 (0, 0)) (by (with_reducible repeat (first | refine blk_drewN ?_ _ | refine blk_drew ?_ | refine blk_alloc ?_ _)); exact BK374.out) hb); have n3_ := Aside0.mk (blk_below (g := gb378) (o := .cells #[.int .i64 t375, .int .i64 t376] 23 (0, 0)) (by (with_reducible repeat (first | refine blk_drewN ?_ _ | refine blk_drew ?_ | refine blk_alloc ?_ _)); exact BK378.out) hb); have n4_ := Aside0.mk (below_step (by repeat (first | (with_reducible first | exact HB.out | apply below_alloc | apply pw_below_drewN | apply below_drew1 | refine below_set ?_ GE368.out | refine below_set ?_ GE369.out | refine below_set ?_ GE374.out | refine below_set ?_ GE378.out) | exact HB.out)) hb); have n5_ := Aside0.mk (hbox); have n6_ := Aside0.mk ((by rw [hg]; exact (below_size (by repeat (first | (with_reducible first | exact HB.out | apply below_alloc | apply pw_below_drewN | apply below_drew1 | refine below_set ?_ GE368.out | refine below_set ?_ GE369.out | refine below_set ?_ GE374.out | refine below_set ?_ GE378.out) | exact HB.out))) : w.heap.size ≤ gb383)); have n7_ := Aside0.mk ((by rw [hg]; exact (below_size (by repeat (first | (with_reducible first | exact HB.out | apply below_alloc | apply pw_below_drewN | apply below_drew1 | refine below_set ?_ GE368.out | refine below_set ?_ GE369.out | refine below_set ?_ GE374.out | refine below_set ?_ GE378.out) | exact HB.out))) : w.heap.size ≤ gb383)); have n8_ := Aside0.mk ((by rw [hg]; exact Nat.ne_of_lt (blk_lt (g := gb368) (o := .cells #[.int .i64 a0_0, .int .i64 a0_1] 23 (0, 0)) (by (with_reducible repeat (first | refine blk_drewN ?_ _ | refine blk_drew ?_ | refine blk_alloc ?_ _)); exact BK368.out)) : gb368 ≠ gb383)); have n9_ := Aside0.mk ((by rw [hg]; exact Nat.ne_of_gt (blk_lt (g := gb368) (o := .cells #[.int .i64 a0_0, .int .i64 a0_1] 23 (0, 0)) (by (with_reducible repeat (first | refine blk_drewN ?_ _ | refine blk_drew ?_ | refine blk_alloc ?_ _)); exact BK368.out)) : gb383 ≠ gb368)); have n10_ := Aside0.mk ((by rw [hg]; exact Nat.ne_of_lt (blk_lt (g := gb369) (o := .cells #[.int .i64 a1_0, .int .i64 a1_1] 23 (0, 0)) (by (with_reducible repeat (first | refine blk_drewN ?_ _ | refine blk_drew ?_ | refine blk_alloc ?_ _)); exact BK369.out)) : gb369 ≠ gb383)); have n11_ := Aside0.mk ((by rw [hg]; exact Nat.ne_of_gt (blk_lt (g := gb369) (o := .cells #[.int .i64 a1_0, .int .i64 a1_1] 23 (0, 0)) (by (with_reducible repeat (first | refine blk_drewN ?_ _ | refine blk_drew ?_ | refine blk_alloc ?_ _)); exact BK369.out)) : gb383 ≠ gb369)); have n12_ := Aside0.mk ((by rw [hg]; exact Nat.ne_of_lt (blk_lt (g := gb374) (o := .cells #[.int .i64 t371, .int .i64 t372] 23 (0, 0)) (by (with_reducible repeat (first | refine blk_drewN ?_ _ | refine blk_drew ?_ | refine blk_alloc ?_ _)); exact BK374.out)) : gb374 ≠ gb383)); have n13_ := Aside0.mk ((by rw [hg]; exact Nat.ne_of_gt (blk_lt (g := gb374) (o := .cells #[.int .i64 t371, .int .i64 t372] 23 (0, 0)) (by (with_reducible repeat (first | refine blk_drewN ?_ _ | refine blk_drew ?_ | refine blk_alloc ?_ _)); exact BK374.out)) : gb383 ≠ gb374)); have n14_ := Aside0.mk ((by rw [hg]; exact Nat.ne_of_lt (blk_lt (g := gb378) (o := .cells #[.int .i64 t375, .int .i64 t376] 23 (0, 0)) (by (with_reducible repeat (first | refine blk_drewN ?_ _ | refine blk_drew ?_ | refine blk_alloc ?_ _)); exact BK378.out)) : gb378 ≠ gb383)); have n15_ := Aside0.mk ((by rw [hg]; exact Nat.ne_of_gt (blk_lt (g := gb378) (o := .cells #[.int .i64 t375, .int .i64 t376] 23 (0, 0)) (by (with_reducible repeat (first | refine blk_drewN ?_ _ | refine blk_drew ?_ | refine blk_alloc ?_ _)); exact BK378.out)) : gb383 ≠ gb378)); clear BK368; clear BK369; clear BK374; clear BK378; clear HB; have BK368 := n0_; have BK369 := n1_; have BK374 := n2_; have BK378 := n3_; have HB := n4_; have BK383 := n5_; have GW383 := n6_; have GE383 := n7_; have NB368_383 := n8_; have NB383_368 := n9_; have NB369_383 := n10_; have NB383_369 := n11_; have NB374_383 := n12_; have NB383_374 := n13_; have NB378_383 := n14_; have NB383_378 := n15_; clear n0_ n1_ n2_ n3_ n4_ n5_ n6_ n7_ n8_ n9_ n10_ n11_ n12_ n13_ n14_ n15_; clear hb hbox hg) | ((with_reducible refine gate_dst (N := 12) rfl ?_); refine box_event ?hg (N := 12) ?hd (cs := #[.int .i64 0, .int .i64 0]) (t := 23) ?hr ?_; (case hd => rfl); (case hg => rfl); (case hr => first | (go_simp; done) | (go_simp; rfl)); intro gb384 hg w33 hbox hb; have n0_ := Aside0.mk (blk_below (g := gb368) (o := .cells #[.int .i64 a0_0, .int .i64 a0_1] 23 (0, 0)) (by (with_reducible repeat (first | refine blk_drewN ?_ _ | refine blk_drew ?_ | refine blk_alloc ?_ _)); exact BK368.out) hb); have n1_ := Aside0.mk (blk_below (g := gb369) (o := .cells #[.int .i64 a1_0, .int .i64 a1_1] 23 (0, 0)) (by (with_reducible repeat (first | refine blk_drewN ?_ _ | refine blk_drew ?_ | refine blk_alloc ?_ _)); exact BK369.out) hb); have n2_ := Aside0.mk (blk_below (g := gb374) (o := .cells #[.int .i64 t371, .int .i64 t372] 23 (0, 0)) (by (with_reducible repeat (first | refine blk_drewN ?_ _ | refine blk_drew ?_ | refine blk_alloc ?_ _)); exact BK374.out) hb); have n3_ := Aside0.mk (blk_below (g := gb378) (o := .cells #[.int .i64 t375, .int .i64 t376] 23 (0, 0)) (by (with_reducible repeat (first | refine blk_drewN ?_ _ | refine blk_drew ?_ | refine blk_alloc ?_ _)); exact BK378.out) hb); have n4_ := Aside0.mk (blk_below (g := gb383) (o := .cells #[.int .i64 0, .int .i64 0] 23 (0, 0)) (by (with_reducible repeat (first | refine blk_drewN ?_ _ | refine blk_drew ?_ | refine blk_alloc ?_ _)); exact BK383.out) hb); have n5_ := Aside0.mk (below_step (by repeat (first | (with_reducible first | exact HB.out | apply below_alloc | apply pw_below_drewN | apply below_drew1 | refine below_set ?_ GE368.out | refine below_set ?_ GE369.out | refine below_set ?_ GE374.out | refine below_set ?_ GE378.out | refine below_set ?_ GE383.out) | exact HB.out)) hb); have n6_ := Aside0.mk (hbox); have n7_ := Aside0.mk ((by rw [hg]; exact (below_size (by repeat (first | (with_reducible first | exact HB.out | apply below_alloc | apply pw_below_drewN | apply below_drew1 | refine below_set ?_ GE368.out | refine below_set ?_ GE369.out | refine below_set ?_ GE374.out | refine below_set ?_ GE378.out | refine below_set ?_ GE383.out) | exact HB.out))) : w.heap.size ≤ gb384)); have n8_ := Aside0.mk ((by rw [hg]; exact (below_size (by repeat (first | (with_reducible first | exact HB.out | apply below_alloc | apply pw_below_drewN | apply below_drew1 | refine below_set ?_ GE368.out | refine below_set ?_ GE369.out | refine below_set ?_ GE374.out | refine below_set ?_ GE378.out | refine below_set ?_ GE383.out) | exact HB.out))) : w.heap.size ≤ gb384)); have n9_ := Aside0.mk ((by rw [hg]; exact Nat.ne_of_lt (blk_lt (g := gb368) (o := .cells #[.int .i64 a0_0, .int .i64 a0_1] 23 (0, 0)) (by (with_reducible repeat (first | refine blk_drewN ?_ _ | refine blk_drew ?_ | refine blk_alloc ?_ _)); exact BK368.out)) : gb368 ≠ gb384)); have n10_ := Aside0.mk ((by rw [hg]; exact Nat.ne_of_gt (blk_lt (g := gb368) (o := .cells #[.int .i64 a0_0, .int .i64 a0_1] 23 (0, 0)) (by (with_reducible repeat (first | refine blk_drewN ?_ _ | refine blk_drew ?_ | refine blk_alloc ?_ _)); exact BK368.out)) : gb384 ≠ gb368)); have n11_ := Aside0.mk ((by rw [hg]; exact Nat.ne_of_lt (blk_lt (g := gb369) (o := .cells #[.int .i64 a1_0, .int .i64 a1_1] 23 (0, 0)) (by (with_reducible repeat (first | refine blk_drewN ?_ _ | refine blk_drew ?_ | refine blk_alloc ?_ _)); exact BK369.out)) : gb369 ≠ gb384)); have n12_ := Aside0.mk ((by rw [hg]; exact Nat.ne_of_gt (blk_lt (g := gb369) (o := .cells #[.int .i64 a1_0, .int .i64 a1_1] 23 (0, 0)) (by (with_reducible repeat (first | refine blk_drewN ?_ _ | refine blk_drew ?_ | refine blk_alloc ?_ _)); exact BK369.out)) : gb384 ≠ gb369)); have n13_ := Aside0.mk ((by rw [hg]; exact Nat.ne_of_lt (blk_lt (g := gb374) (o := .cells #[.int .i64 t371, .int .i64 t372] 23 (0, 0)) (by (with_reducible repeat (first | refine blk_drewN ?_ _ | refine blk_drew ?_ | refine blk_alloc ?_ _)); exact BK374.out)) : gb374 ≠ gb384)); have n14_ := Aside0.mk ((by rw [hg]; exact Nat.ne_of_gt (blk_lt (g := gb374) (o := .cells #[.int .i64 t371, .int .i64 t372] 23 (0, 0)) (by (with_reducible repeat (first | refine blk_drewN ?_ _ | refine blk_drew ?_ | refine blk_alloc ?_ _)); exact BK374.out)) : gb384 ≠ gb374)); have n15_ := Aside0.mk ((by rw [hg]; exact Nat.ne_of_lt (blk_lt (g := gb378) (o := .cells #[.int .i64 t375, .int .i64 t376] 23 (0, 0)) (by (with_reducible repeat (first | refine blk_drewN ?_ _ | refine blk_drew ?_ | refine blk_alloc ?_ _)); exact BK378.out)) : gb378 ≠ gb384)); have n16_ := Aside0.mk ((by rw [hg]; exact Nat.ne_of_gt (blk_lt (g := gb378) (o := .cells #[.int .i64 t375, .int .i64 t376] 23 (0, 0)) (by (with_reducible repeat (first | refine blk_drewN ?_ _ | refine blk_drew ?_ | refine blk_alloc ?_ _)); exact BK378.out)) : gb384 ≠ gb378)); have n17_ := Aside0.mk ((by rw [hg]; exact Nat.ne_of_lt (blk_lt (g := gb383) (o := .cells #[.int .i64 0, .int .i64 0] 23 (0, 0)) (by (with_reducible repeat (first | refine blk_drewN ?_ _ | refine blk_drew ?_ | refine blk_alloc ?_ _)); exact BK383.out)) : gb383 ≠ gb384)); have n18_ := Aside0.mk ((by rw [hg]; exact Nat.ne_of_gt (blk_lt (g := gb383) (o := .cells #[.int .i64 0, .int .i64 0] 23 (0, 0)) (by (with_reducible repeat (first | refine blk_drewN ?_ _ | refine blk_drew ?_ | refine blk_alloc ?_ _)); exact BK383.out)) : gb384 ≠ gb383)); clear BK368; clear BK369; clear BK374; clear BK378; clear BK383; clear HB; have BK368 := n0_; have BK369 := n1_; have BK374 := n2_; have BK378 := n3_; have BK383 := n4_; have HB := n5_; have BK384 := n6_; have GW384 := n7_; have GE384 := n8_; have NB368_384 := n9_; have NB384_368 := n10_; have NB369_384 := n11_; have NB384_369 := n12_; have NB374_384 := n13_; have NB384_374 := n14_; have NB378_384 := n15_; have NB384_378 := n16_; have NB383_384 := n17_; have NB384_383 := n18_; clear n0_ n1_ n2_ n3_ n4_ n5_ n6_ n7_ n8_ n9_ n10_ n11_ n12_ n13_ n14_ n15_ n16_ n17_ n18_; clear hb hbox hg; have hnb34 := NB383_368.out; have hnc34 := NB368_383.out; have hnb35 := NB383_369.out; have hnc35 := NB369_383.out; have hnb36 := NB383_374.out; have hnc36 := NB374_383.out; have hnb37 := NB383_378.out; have hnc37 := NB378_383.out; have hnb38 := NB383_384.out; have hnc38 := NB384_383.out; have hcz39_0 : w33.cell? ⟨gb383, 0, none⟩ = some (.int .i64 0) := (blk_cell BK383.out 0).trans rfl; have hcz39_1 : w33.cell? ⟨gb383, 1, none⟩ = some (.int .i64 0) := (blk_cell BK383.out 1).trans rfl; have hfz39_0 := blk_frozen BK383.out 0; have hfz39_1 := blk_frozen BK383.out 1; have hnb40 := NB384_368.out; have hnc40 := NB368_384.out; have hnb41 := NB384_369.out; have hnc41 := NB369_384.out; have hnb42 := NB384_374.out; have hnc42 := NB374_384.out; have hnb43 := NB384_378.out; have hnc43 := NB378_384.out; have hcz44_0 : w33.cell? ⟨gb384, 0, none⟩ = some (.int .i64 0) := (blk_cell BK384.out 0).trans rfl; have hcz44_1 : w33.cell? ⟨gb384, 1, none⟩ = some (.int .i64 0) := (blk_cell BK384.out 1).trans rfl; have hfz44_0 := blk_frozen BK384.out 0; have hfz44_1 := blk_frozen BK384.out 1; have hcz45_0 : w33.cell? ⟨gb368, 0, none⟩ = some (.int .i64 a0_0) := (blk_cell BK368.out 0).trans rfl; have hcz45_1 : w33.cell? ⟨gb368, 1, none⟩ = some (.int .i64 a0_1) := (blk_cell BK368.out 1).trans rfl; have hfz45_0 := blk_frozen BK368.out 0; have hfz45_1 := blk_frozen BK368.out 1; have hcz46_0 : w33.cell? ⟨gb369, 0, none⟩ = some (.int .i64 a1_0) := (blk_cell BK369.out 0).trans rfl; have hcz46_1 : w33.cell? ⟨gb369, 1, none⟩ = some (.int .i64 a1_1) := (blk_cell BK369.out 1).trans rfl; have hfz46_0 := blk_frozen BK369.out 0; have hfz46_1 := blk_frozen BK369.out 1) | ((with_reducible refine gate_dst (N := 39) rfl ?_); refine Kd.R_lit k23 _ 23 ?hg (N := 39) ?hd (xs := ([(⟨a0_0, a0_1⟩ : S23), (⟨a1_0, a1_1⟩ : S23)] : List (S23))) (inner := [.int .i64 a0_0, .int .i64 a0_1, .int .i64 a1_0, .int .i64 a1_1]) (ok := fun _ => True) (okp := fun _ => True) ?hr ?hp (fun _ hk => hk) trivial (Below.refl _ _) (Nat.le_refl _) (by simp) ?_; (case hd => rfl); (case hg => rfl); (case hr => first | (go_simp; done) | (go_simp; rfl)); (case hp => exact (Reps.c2 (show Kd.M k23 _ _ _ (⟨a0_0, a0_1⟩ : S23) [.int .i64 a0_0, .int .i64 a0_1] from (k23_mkM _ _ _ (⟨a0_0, a0_1⟩ : S23) )) (Reps.c2 (show Kd.M k23 _ _ _ (⟨a1_0, a1_1⟩ : S23) [.int .i64 a1_0, .int .i64 a1_1] from (k23_mkM _ _ _ (⟨a1_0, a1_1⟩ : S23) )) (Reps.none _ _)))); intro v386 w47 ho48 hb hg_ hnew_; clear hg_ hnew_; (first | rw [← Ny385.out] at ho48 | (simp only [Int.reduceToNat] at ho48; rw [← Ny385.out] at ho48)); have n0_ := Aside0.mk (Kd.R_lower (Kd.R_newB (Kd.R_newB (Kd.R_newB (Kd.R_newB (Kd.R_newB (Kd.R_newB ho48 (g := gb368) (o := .cells #[.int .i64 a0_0, .int .i64 a0_1] 23 (0, 0)) (by (with_reducible repeat (first | refine blk_drewN ?_ _ | refine blk_drew ?_ | refine blk_alloc ?_ _)); refine blk_far ?_ NB368_384.out _; (with_reducible repeat (first | refine blk_drewN ?_ _ | refine blk_drew ?_ | refine blk_alloc ?_ _)); refine blk_far ?_ NB368_384.out _; (with_reducible repeat (first | refine blk_drewN ?_ _ | refine blk_drew ?_ | refine blk_alloc ?_ _)); refine blk_far ?_ NB368_383.out _; (with_reducible repeat (first | refine blk_drewN ?_ _ | refine blk_drew ?_ | refine blk_alloc ?_ _)); refine blk_far ?_ NB368_383.out _; (with_reducible repeat (first | refine blk_drewN ?_ _ | refine blk_drew ?_ | refine blk_alloc ?_ _)); exact BK368.out)) (g := gb369) (o := .cells #[.int .i64 a1_0, .int .i64 a1_1] 23 (0, 0)) (by (with_reducible repeat (first | refine blk_drewN ?_ _ | refine blk_drew ?_ | refine blk_alloc ?_ _)); refine blk_far ?_ NB369_384.out _; (with_reducible repeat (first | refine blk_drewN ?_ _ | refine blk_drew ?_ | refine blk_alloc ?_ _)); refine blk_far ?_ NB369_384.out _; (with_reducible repeat (first | refine blk_drewN ?_ _ | refine blk_drew ?_ | refine blk_alloc ?_ _)); refine blk_far ?_ NB369_383.out _; (with_reducible repeat (first | refine blk_drewN ?_ _ | refine blk_drew ?_ | refine blk_alloc ?_ _)); refine blk_far ?_ NB369_383.out _; (with_reducible repeat (first | refine blk_drewN ?_ _ | refine blk_drew ?_ | refine blk_alloc ?_ _)); exact BK369.out)) (g := gb374) (o := .cells #[.int .i64 t371, .int .i64 t372] 23 (0, 0)) (by (with_reducible repeat (first | refine blk_drewN ?_ _ | refine blk_drew ?_ | refine blk_alloc ?_ _)); refine blk_far ?_ NB374_384.out _; (with_reducible repeat (first | refine blk_drewN ?_ _ | refine blk_drew ?_ | refine blk_alloc ?_ _)); refine blk_far ?_ NB374_384.out _; (with_reducible repeat (first | refine blk_drewN ?_ _ | refine blk_drew ?_ | refine blk_alloc ?_ _)); refine blk_far ?_ NB374_383.out _; (with_reducible repeat (first | refine blk_drewN ?_ _ | refine blk_drew ?_ | refine blk_alloc ?_ _)); refine blk_far ?_ NB374_383.out _; (with_reducible repeat (first | refine blk_drewN ?_ _ | refine blk_drew ?_ | refine blk_alloc ?_ _)); exact BK374.out)) (g := gb378) (o := .cells #[.int .i64 t375, .int .i64 t376] 23 (0, 0)) (by (with_reducible repeat (first | refine blk_drewN ?_ _ | refine blk_drew ?_ | refine blk_alloc ?_ _)); refine blk_far ?_ NB378_384.out _; (with_reducible repeat (first | refine blk_drewN ?_ _ | refine blk_drew ?_ | refine blk_alloc ?_ _)); refine blk_far ?_ NB378_384.out _; (with_reducible repeat (first | refine blk_drewN ?_ _ | refine blk_drew ?_ | refine blk_alloc ?_ _)); refine blk_far ?_ NB378_383.out _; (with_reducible repeat (first | refine blk_drewN ?_ _ | refine blk_drew ?_ | refine blk_alloc ?_ _)); refine blk_far ?_ NB378_383.out _; (with_reducible repeat (first | refine blk_drewN ?_ _ | refine blk_drew ?_ | refine blk_alloc ?_ _)); exact BK378.out)) (g := gb383) (o := .cells #[.int .i64 t379, .int .i64 t380] 23 (0, 0)) (by (with_reducible repeat (first | refine blk_drewN ?_ _ | refine blk_drew ?_ | refine blk_alloc ?_ _)); refine blk_far ?_ NB383_384.out _; (with_reducible repeat (first | refine blk_drewN ?_ _ | refine blk_drew ?_ | refine blk_alloc ?_ _)); refine blk_far ?_ NB383_384.out _; (with_reducible repeat (first | refine blk_drewN ?_ _ | refine blk_drew ?_ | refine blk_alloc ?_ _)); refine blk_put (cs := #[.int .i64 t379, .int .i64 0]) ?_ 1 _ rfl; (with_reducible repeat (first | refine blk_drewN ?_ _ | refine blk_drew ?_ | refine blk_alloc ?_ _)); refine blk_put (cs := #[.int .i64 0, .int .i64 0]) ?_ 0 _ rfl; (with_reducible repeat (first | refine blk_drewN ?_ _ | refine blk_drew ?_ | refine blk_alloc ?_ _)); exact BK383.out)) (g := gb384) (o := .cells #[.int .i64 t381, .int .i64 t382] 23 (0, 0)) (by (with_reducible repeat (first | refine blk_drewN ?_ _ | refine blk_drew ?_ | refine blk_alloc ?_ _)); refine blk_put (cs := #[.int .i64 t381, .int .i64 0]) ?_ 1 _ rfl; (with_reducible repeat (first | refine blk_drewN ?_ _ | refine blk_drew ?_ | refine blk_alloc ?_ _)); refine blk_put (cs := #[.int .i64 0, .int .i64 0]) ?_ 0 _ rfl; (with_reducible repeat (first | refine blk_drewN ?_ _ | refine blk_drew ?_ | refine blk_alloc ?_ _)); refine blk_far ?_ NB384_383.out _; (with_reducible repeat (first | refine blk_drewN ?_ _ | refine blk_drew ?_ | refine blk_alloc ?_ _)); refine blk_far ?_ NB384_383.out _; (with_reducible repeat (first | refine blk_drewN ?_ _ | refine blk_drew ?_ | refine blk_alloc ?_ _)); exact BK384.out)) (below_size (by repeat (first | (with_reducible first | exact HB.out | apply below_alloc | apply pw_below_drewN | apply below_drew1 | refine below_set ?_ GE368.out | refine below_set ?_ GE369.out | refine below_set ?_ GE374.out | refine below_set ?_ GE378.out | refine below_set ?_ GE383.out | refine below_set ?_ GE384.out) | exact HB.out)))); have n1_ := Aside0.mk (blk_below (g := gb368) (o := .cells #[.int .i64 a0_0, .int .i64 a0_1] 23 (0, 0)) (by (with_reducible repeat (first | refine blk_drewN ?_ _ | refine blk_drew ?_ | refine blk_alloc ?_ _)); refine blk_far ?_ NB368_384.out _; (with_reducible repeat (first | refine blk_drewN ?_ _ | refine blk_drew ?_ | refine blk_alloc ?_ _)); refine blk_far ?_ NB368_384.out _; (with_reducible repeat (first | refine blk_drewN ?_ _ | refine blk_drew ?_ | refine blk_alloc ?_ _)); refine blk_far ?_ NB368_383.out _; (with_reducible repeat (first | refine blk_drewN ?_ _ | refine blk_drew ?_ | refine blk_alloc ?_ _)); refine blk_far ?_ NB368_383.out _; (with_reducible repeat (first | refine blk_drewN ?_ _ | refine blk_drew ?_ | refine blk_alloc ?_ _)); exact BK368.out) hb); have n2_ := Aside0.mk (blk_below (g := gb369) (o := .cells #[.int .i64 a1_0, .int .i64 a1_1] 23 (0, 0)) (by (with_reducible repeat (first | refine blk_drewN ?_ _ | refine blk_drew ?_ | refine blk_alloc ?_ _)); refine blk_far ?_ NB369_384.out _; (with_reducible repeat (first | refine blk_drewN ?_ _ | refine blk_drew ?_ | refine blk_alloc ?_ _)); refine blk_far ?_ NB369_384.out _; (with_reducible repeat (first | refine blk_drewN ?_ _ | refine blk_drew ?_ | refine blk_alloc ?_ _)); refine blk_far ?_ NB369_383.out _; (with_reducible repeat (first | refine blk_drewN ?_ _ | refine blk_drew ?_ | refine blk_alloc ?_ _)); refine blk_far ?_ NB369_383.out _; (with_reducible repeat (first | refine blk_drewN ?_ _ | refine blk_drew ?_ | refine blk_alloc ?_ _)); exact BK369.out) hb); have n3_ := Aside0.mk (blk_below (g := gb374) (o := .cells #[.int .i64 t371, .int .i64 t372] 23 (0, 0)) (by (with_reducible repeat (first | refine blk_drewN ?_ _ | refine blk_drew ?_ | refine blk_alloc ?_ _)); refine blk_far ?_ NB374_384.out _; (with_reducible repeat (first | refine blk_drewN ?_ _ | refine blk_drew ?_ | refine blk_alloc ?_ _)); refine blk_far ?_ NB374_384.out _; (with_reducible repeat (first | refine blk_drewN ?_ _ | refine blk_drew ?_ | refine blk_alloc ?_ _)); refine blk_far ?_ NB374_383.out _; (with_reducible repeat (first | refine blk_drewN ?_ _ | refine blk_drew ?_ | refine blk_alloc ?_ _)); refine blk_far ?_ NB374_383.out _; (with_reducible repeat (first | refine blk_drewN ?_ _ | refine blk_drew ?_ | refine blk_alloc ?_ _)); exact BK374.out) hb); have n4_ := Aside0.mk (blk_below (g := gb378) (o := .cells #[.int .i64 t375, .int .i64 t376] 23 (0, 0)) (by (with_reducible repeat (first | refine blk_drewN ?_ _ | refine blk_drew ?_ | refine blk_alloc ?_ _)); refine blk_far ?_ NB378_384.out _; (with_reducible repeat (first | refine blk_drewN ?_ _ | refine blk_drew ?_ | refine blk_alloc ?_ _)); refine blk_far ?_ NB378_384.out _; (with_reducible repeat (first | refine blk_drewN ?_ _ | refine blk_drew ?_ | refine blk_alloc ?_ _)); refine blk_far ?_ NB378_383.out _; (with_reducible repeat (first | refine blk_drewN ?_ _ | refine blk_drew ?_ | refine blk_alloc ?_ _)); refine blk_far ?_ NB378_383.out _; (with_reducible repeat (first | refine blk_drewN ?_ _ | refine blk_drew ?_ | refine blk_alloc ?_ _)); exact BK378.out) hb); have n5_ := Aside0.mk (blk_below (g := gb383) (o := .cells #[.int .i64 t379, .int .i64 t380] 23 (0, 0)) (by (with_reducible repeat (first | refine blk_drewN ?_ _ | refine blk_drew ?_ | refine blk_alloc ?_ _)); refine blk_far ?_ NB383_384.out _; (with_reducible repeat (first | refine blk_drewN ?_ _ | refine blk_drew ?_ | refine blk_alloc ?_ _)); refine blk_far ?_ NB383_384.out _; (with_reducible repeat (first | refine blk_drewN ?_ _ | refine blk_drew ?_ | refine blk_alloc ?_ _)); refine blk_put (cs := #[.int .i64 t379, .int .i64 0]) ?_ 1 _ rfl; (with_reducible repeat (first | refine blk_drewN ?_ _ | refine blk_drew ?_ | refine blk_alloc ?_ _)); refine blk_put (cs := #[.int .i64 0, .int .i64 0]) ?_ 0 _ rfl; (with_reducible repeat (first | refine blk_drewN ?_ _ | refine blk_drew ?_ | refine blk_alloc ?_ _)); exact BK383.out) hb); have n6_ := Aside0.mk (blk_below (g := gb384) (o := .cells #[.int .i64 t381, .int .i64 t382] 23 (0, 0)) (by (with_reducible repeat (first | refine blk_drewN ?_ _ | refine blk_drew ?_ | refine blk_alloc ?_ _)); refine blk_put (cs := #[.int .i64 t381, .int .i64 0]) ?_ 1 _ rfl; (with_reducible repeat (first | refine blk_drewN ?_ _ | refine blk_drew ?_ | refine blk_alloc ?_ _)); refine blk_put (cs := #[.int .i64 0, .int .i64 0]) ?_ 0 _ rfl; (with_reducible repeat (first | refine blk_drewN ?_ _ | refine blk_drew ?_ | refine blk_alloc ?_ _)); refine blk_far ?_ NB384_383.out _; (with_reducible repeat (first | refine blk_drewN ?_ _ | refine blk_drew ?_ | refine blk_alloc ?_ _)); refine blk_far ?_ NB384_383.out _; (with_reducible repeat (first | refine blk_drewN ?_ _ | refine blk_drew ?_ | refine blk_alloc ?_ _)); exact BK384.out) hb); have n7_ := Aside0.mk (below_step (by repeat (first | (with_reducible first | exact HB.out | apply below_alloc | apply pw_below_drewN | apply below_drew1 | refine below_set ?_ GE368.out | refine below_set ?_ GE369.out | refine below_set ?_ GE374.out | refine below_set ?_ GE378.out | refine below_set ?_ GE383.out | refine below_set ?_ GE384.out) | exact HB.out)) hb); clear BK368; clear BK369; clear BK374; clear BK378; clear BK383; clear BK384; clear HB; have HO387 := n0_; have BK368 := n1_; have BK369 := n2_; have BK374 := n3_; have BK378 := n4_; have BK383 := n5_; have BK384 := n6_; have HB := n7_; clear n0_ n1_ n2_ n3_ n4_ n5_ n6_ n7_; clear hb ho48; obtain ⟨Ao49, co49, eo49⟩ := Kd.R_slice HO387.out; subst eo49) | ((first | ((with_reducible refine gate_callee (f := 34) rfl ?_); refine goesL_ (some 40) rfl rfl Tryd.func34 (by kernel_rfl) rfl #[.slice Ao49 y385.length co49] rfl (by (try simp only [List.map_toArray, List.map_cons, List.map_nil]); first | done | rfl | (simp only [List.length_drop, List.length_take]; rfl)) ?_; (with_reducible refine (mandolineref01_All.calls k _ _ y385 t388 _ ?side1 ?side2 A9.out).mono ?_); (case side1 => repeat (first | exact (Kd.R_reads' HO387.out).2.2 | (with_reducible refine Kd.C_alloc ?_ _) | (with_reducible refine Kd.C_drewN ?_ _) | (with_reducible refine Kd.C_drew ?_))); (case side2 => exact (Kd.R_reads' HO387.out).2.1); rintro e w50 ⟨v389, rfl, ho0, hb⟩; refine ⟨_, rfl, ?_⟩) | (go_at_call 34; (with_reducible refine (mandolineref01_All.calls k _ _ y385 t388 _ ?side1 ?side2 A9.out).mono ?_); (case side1 => repeat (first | exact (Kd.R_reads' HO387.out).2.2 | (with_reducible refine Kd.C_alloc ?_ _) | (with_reducible refine Kd.C_drewN ?_ _) | (with_reducible refine Kd.C_drew ?_))); (case side2 => exact (Kd.R_reads' HO387.out).2.1); rintro e w50 ⟨v389, rfl, ho0, hb⟩)); have n0_ := Aside0.mk (Kd.R_below (by (with_reducible repeat (first | apply Kd.R_alloc | apply Kd.R_drewN | apply Kd.R_drew)); exact HO387.out) hb); have n1_ := Aside0.mk (Kd.R_lower ho0 (below_size (by repeat (first | (with_reducible first | exact HB.out | apply below_alloc | apply pw_below_drewN | apply below_drew1 | refine below_set ?_ GE368.out | refine below_set ?_ GE369.out | refine below_set ?_ GE374.out | refine below_set ?_ GE378.out | refine below_set ?_ GE383.out | refine below_set ?_ GE384.out) | exact HB.out)))); have n2_ := Aside0.mk (blk_below (g := gb368) (o := .cells #[.int .i64 a0_0, .int .i64 a0_1] 23 (0, 0)) (by (with_reducible repeat (first | refine blk_drewN ?_ _ | refine blk_drew ?_ | refine blk_alloc ?_ _)); exact BK368.out) hb); have n3_ := Aside0.mk (blk_below (g := gb369) (o := .cells #[.int .i64 a1_0, .int .i64 a1_1] 23 (0, 0)) (by (with_reducible repeat (first | refine blk_drewN ?_ _ | refine blk_drew ?_ | refine blk_alloc ?_ _)); exact BK369.out) hb); have n4_ := Aside0.mk (blk_below (g := gb374) (o := .cells #[.int .i64 t371, .int .i64 t372] 23 (0, 0)) (by (with_reducible repeat (first | refine blk_drewN ?_ _ | refine blk_drew ?_ | refine blk_alloc ?_ _)); exact BK374.out) hb); have n5_ := Aside0.mk (blk_below (g := gb378) (o := .cells #[.int .i64 t375, .int .i64 t376] 23 (0, 0)) (by (with_reducible repeat (first | refine blk_drewN ?_ _ | refine blk_drew ?_ | refine blk_alloc ?_ _)); exact BK378.out) hb); have n6_ := Aside0.mk (blk_below (g := gb383) (o := .cells #[.int .i64 t379, .int .i64 t380] 23 (0, 0)) (by (with_reducible repeat (first | refine blk_drewN ?_ _ | refine blk_drew ?_ | refine blk_alloc ?_ _)); exact BK383.out) hb); have n7_ := Aside0.mk (blk_below (g := gb384) (o := .cells #[.int .i64 t381, .int .i64 t382] 23 (0, 0)) (by (with_reducible repeat (first | refine blk_drewN ?_ _ | refine blk_drew ?_ | refine blk_alloc ?_ _)); exact BK384.out) hb); have n8_ := Aside0.mk (below_step (by repeat (first | (with_reducible first | exact HB.out | apply below_alloc | apply pw_below_drewN | apply below_drew1 | refine below_set ?_ GE368.out | refine below_set ?_ GE369.out | refine below_set ?_ GE374.out | refine below_set ?_ GE378.out | refine below_set ?_ GE383.out | refine below_set ?_ GE384.out) | exact HB.out)) hb); clear HO387; clear BK368; clear BK369; clear BK374; clear BK378; clear BK383; clear BK384; clear HB; have HO387 := n0_; have HO390 := n1_; have BK368 := n2_; have BK369 := n3_; have BK374 := n4_; have BK378 := n5_; have BK383 := n6_; have BK384 := n7_; have HB := n8_; clear n0_ n1_ n2_ n3_ n4_ n5_ n6_ n7_ n8_; (try clear hb); (try clear hb2); (try clear hk); (try clear hi); (try clear ho0)) | ((with_reducible refine gate_builtin (b := .append) (xs := #[.tmp 40, .tmp 42]) rfl ?_); at_builtin; refine Kd.R_append (Kd.int .i64) (w0 := w) w.heap.size rfl (.tmp 40) (.tmp 42) 39 2 (.int .i64 0) 8 rfl Tryd.underlying39 info2 rfl (by decide) (by omega) v389 t388 a2 [.int .i64 a2] (fun _ => True) (fun _ => False) rfl rfl ?aP (fun _ hk => hk.elim) ?aF ?aO ?aB ?aS ?aL ?_; (case aP => exact rfl); (case aB => exact (by repeat (first | (with_reducible first | exact HB.out | apply below_alloc | apply pw_below_drewN | apply below_drew1 | refine below_set ?_ GE368.out | refine below_set ?_ GE369.out | refine below_set ?_ GE374.out | refine below_set ?_ GE378.out | refine below_set ?_ GE383.out | refine below_set ?_ GE384.out) | exact HB.out))); (case aF => exact (fun _ _ => trivial)); (case aO => exact (by (with_reducible repeat (first | apply Kd.R_alloc | apply Kd.R_drewN | apply Kd.R_drew)); exact HO390.out)); (case aS => exact (below_size (by repeat (first | (with_reducible first | exact HB.out | apply below_alloc | apply pw_below_drewN | apply below_drew1 | refine below_set ?_ GE368.out | refine below_set ?_ GE369.out | refine below_set ?_ GE374.out | refine below_set ?_ GE378.out | refine below_set ?_ GE383.out | refine below_set ?_ GE384.out) | exact HB.out)))); (case aL => have := LMc10.out; omega); intro v392 w51 ho hb hg hat; rw [← Ny391.out] at ho; have n0_ := Aside0.mk (blk_grown (g := gb368) (o := .cells #[.int .i64 a0_0, .int .i64 a0_1] 23 (0, 0)) (by (with_reducible repeat (first | refine blk_drewN ?_ _ | refine blk_drew ?_ | refine blk_alloc ?_ _)); exact BK368.out) hg (Kd.R_ne HO390.out BK368.out (by decide))); have n1_ := Aside0.mk (blk_grown (g := gb369) (o := .cells #[.int .i64 a1_0, .int .i64 a1_1] 23 (0, 0)) (by (with_reducible repeat (first | refine blk_drewN ?_ _ | refine blk_drew ?_ | refine blk_alloc ?_ _)); exact BK369.out) hg (Kd.R_ne HO390.out BK369.out (by decide))); have n2_ := Aside0.mk (blk_grown (g := gb374) (o := .cells #[.int .i64 t371, .int .i64 t372] 23 (0, 0)) (by (with_reducible repeat (first | refine blk_drewN ?_ _ | refine blk_drew ?_ | refine blk_alloc ?_ _)); exact BK374.out) hg (Kd.R_ne HO390.out BK374.out (by decide))); have n3_ := Aside0.mk (blk_grown (g := gb378) (o := .cells #[.int .i64 t375, .int .i64 t376] 23 (0, 0)) (by (with_reducible repeat (first | refine blk_drewN ?_ _ | refine blk_drew ?_ | refine blk_alloc ?_ _)); exact BK378.out) hg (Kd.R_ne HO390.out BK378.out (by decide))); have n4_ := Aside0.mk (blk_grown (g := gb383) (o := .cells #[.int .i64 t379, .int .i64 t380] 23 (0, 0)) (by (with_reducible repeat (first | refine blk_drewN ?_ _ | refine blk_drew ?_ | refine blk_alloc ?_ _)); exact BK383.out) hg (Kd.R_ne HO390.out BK383.out (by decide))); have n5_ := Aside0.mk (blk_grown (g := gb384) (o := .cells #[.int .i64 t381, .int .i64 t382] 23 (0, 0)) (by (with_reducible repeat (first | refine blk_drewN ?_ _ | refine blk_drew ?_ | refine blk_alloc ?_ _)); exact BK384.out) hg (Kd.R_ne HO390.out BK384.out (by decide))); have n6_ := Aside0.mk (Kd.R_over' (by (with_reducible repeat (first | apply Kd.R_alloc | apply Kd.R_drewN | apply Kd.R_drew)); exact HO387.out) (Kd.R_typed (by (with_reducible repeat (first | apply Kd.R_alloc | apply Kd.R_drewN | apply Kd.R_drew)); exact HO390.out)) (by decide) hg); have n7_ := Aside0.mk (hb); have n8_ := Aside0.mk (ho); clear BK368; clear BK369; clear BK374; clear BK378; clear BK383; clear BK384; clear HO387; clear HB; clear HO390; have BK368 := n0_; have BK369 := n1_; have BK374 := n2_; have BK378 := n3_; have BK383 := n4_; have BK384 := n5_; have HO387 := n6_; have HB := n7_; have HO393 := n8_; clear n0_ n1_ n2_ n3_ n4_ n5_ n6_ n7_ n8_; clear ho hb hg hat; obtain ⟨Ao52, co52, eo52⟩ := Kd.R_slice HO393.out; subst eo52))
      go_loopg [45] k (fun kq v45 w' => ∃ (x45_1 : Int), v45 = .int .i64 x45_1 ∧ Aside0 (mandolinelaw01_SpanBytes.l0 kq a2 t373 t377 y391 (y391.length : Int) x45_1 a0_0 a0_1 a1_0 a1_1 t371 t372 t375 t376 t379 t380 t381 t382 = some r) ∧ Aside0 (kq ≤ k) ∧ Aside0 (Kd.R (Kd.int .i64) 2 w' w.heap.size (fun _ => True) (.slice Ao52 y391.length co52) y391) ∧ Aside0 (w'.heap[gb368]? = some (.cells #[.int .i64 a0_0, .int .i64 a0_1] 23 (0, 0))) ∧ Aside0 (w'.heap[gb369]? = some (.cells #[.int .i64 a1_0, .int .i64 a1_1] 23 (0, 0))) ∧ Aside0 (w'.heap[gb374]? = some (.cells #[.int .i64 t371, .int .i64 t372] 23 (0, 0))) ∧ Aside0 (w'.heap[gb378]? = some (.cells #[.int .i64 t375, .int .i64 t376] 23 (0, 0))) ∧ Aside0 (w'.heap[gb383]? = some (.cells #[.int .i64 t379, .int .i64 t380] 23 (0, 0))) ∧ Aside0 (w'.heap[gb384]? = some (.cells #[.int .i64 t381, .int .i64 t382] 23 (0, 0))) ∧ Aside0 (Below w.heap.size w w'))
      case atStart => exact ⟨(0), (by first | rfl | (simp; done) | (simp [*]; done)), H', ⟨Nat.le_refl _⟩, ⟨by (with_reducible repeat (first | apply Kd.R_alloc | apply Kd.R_drewN | apply Kd.R_drew)); exact HO393.out⟩, ⟨by (with_reducible repeat (first | refine blk_drewN ?_ _ | refine blk_drew ?_ | refine blk_alloc ?_ _)); exact BK368.out⟩, ⟨by (with_reducible repeat (first | refine blk_drewN ?_ _ | refine blk_drew ?_ | refine blk_alloc ?_ _)); exact BK369.out⟩, ⟨by (with_reducible repeat (first | refine blk_drewN ?_ _ | refine blk_drew ?_ | refine blk_alloc ?_ _)); exact BK374.out⟩, ⟨by (with_reducible repeat (first | refine blk_drewN ?_ _ | refine blk_drew ?_ | refine blk_alloc ?_ _)); exact BK378.out⟩, ⟨by (with_reducible repeat (first | refine blk_drewN ?_ _ | refine blk_drew ?_ | refine blk_alloc ?_ _)); exact BK383.out⟩, ⟨by (with_reducible repeat (first | refine blk_drewN ?_ _ | refine blk_drew ?_ | refine blk_alloc ?_ _)); exact BK384.out⟩, ⟨by repeat (first | (with_reducible first | exact HB.out | apply below_alloc | apply pw_below_drewN | apply below_drew1 | refine below_set ?_ GE368.out | refine below_set ?_ GE369.out | refine below_set ?_ GE374.out | refine below_set ?_ GE378.out | refine below_set ?_ GE383.out | refine below_set ?_ GE384.out) | exact HB.out)⟩⟩
      case round =>
        clear H'
        try clear c1
        try clear c2
        try clear p2
        try clear c3
        try clear c4
        try clear c5
        try clear c10
        try clear c12
        try clear c14
        try clear c19
        try clear c20
        try clear c23
        try clear c26
        try clear c27
        try clear c28
        try clear c34
        try clear c35
        try clear c36
        try clear c37
        try clear c38
        try clear c40
        try clear c41
        try clear c42
        try clear c43
        try clear hcz15_0
        try clear hcz15_1
        try clear hcz16_0
        try clear hcz16_1
        try clear hcz21_0
        try clear hcz21_1
        try clear hcz22_0
        try clear hcz22_1
        try clear hcz23_0
        try clear hcz23_1
        try clear hcz29_0
        try clear hcz29_1
        try clear hcz30_0
        try clear hcz30_1
        try clear hcz39_0
        try clear hcz39_1
        try clear hcz44_0
        try clear hcz44_1
        try clear hcz45_0
        try clear hcz45_1
        try clear hcz46_0
        try clear hcz46_1
        try clear hfz15_0
        try clear hfz15_1
        try clear hfz16_0
        try clear hfz16_1
        try clear hfz21_0
        try clear hfz21_1
        try clear hfz22_0
        try clear hfz22_1
        try clear hfz23_0
        try clear hfz23_1
        try clear hfz29_0
        try clear hfz29_1
        try clear hfz30_0
        try clear hfz30_1
        try clear hfz39_0
        try clear hfz39_1
        try clear hfz44_0
        try clear hfz44_1
        try clear hfz45_0
        try clear hfz45_1
        try clear hfz46_0
        try clear hfz46_1
        obtain ⟨x45_1, rfl, HA, HK1, HO_43, BK368, BK369, BK374, BK378, BK383, BK384, HB⟩ := hrel
        cases gk with
        | zero => exact absurd HA.out (by simp [mandolinelaw01_SpanBytes.l0])
        | succ k1 =>
          have H := HA.out
          clear HA
          simp only [mandolinelaw01_SpanBytes.l0] at H
          by_cases c53 : x45_1 < (y391.length : Int)
          · rw [if_pos c53] at H
            have c53b0 : decide (x45_1 < (y391.length : Int)) = true := decide_eq_true c53
            clear c53
            by_cases c54 : 0 ≤ x45_1
            · rw [if_pos c54] at H
              have c54b0 : decide (0 ≤ x45_1) = true := decide_eq_true c54
              clear c54
              by_cases c55 : x45_1 < (y391.length : Int)
              · rw [if_pos c55] at H
                have c55b0 : decide (x45_1 < (y391.length : Int)) = true := decide_eq_true c55
                clear c55
                replace H := Option.bind_eq_some_iff.mp H
                obtain ⟨t395, A560, H⟩ := H
                replace H : ((span_Has.f a1_0 a1_1 (rd y391 x45_1)).bind fun t396 => (if t373 = true then ((span_Has.f t371 t372 (rd y391 x45_1)).bind fun t397 => (if t395 = true then (if (t397 != t396) = true then (mandolinelaw01_SpanBytes.j1 k1 a2 t373 t377 (rd y391 x45_1) t395 y391 (y391.length : Int) x45_1 true a0_0 a0_1 a1_0 a1_1 t371 t372 t375 t376 t379 t380 t381 t382) else (if t377 = true then ((span_Has.f t375 t376 (rd y391 x45_1)).bind fun t398 => (mandolinelaw01_SpanBytes.j1 k1 a2 t373 t377 (rd y391 x45_1) t395 y391 (y391.length : Int) x45_1 (t398 != true) a0_0 a0_1 a1_0 a1_1 t371 t372 t375 t376 t379 t380 t381 t382)) else (mandolinelaw01_SpanBytes.j1 k1 a2 t373 t377 (rd y391 x45_1) t395 y391 (y391.length : Int) x45_1 false a0_0 a0_1 a1_0 a1_1 t371 t372 t375 t376 t379 t380 t381 t382))) else (if (t397 != false) = true then (mandolinelaw01_SpanBytes.j1 k1 a2 t373 t377 (rd y391 x45_1) t395 y391 (y391.length : Int) x45_1 true a0_0 a0_1 a1_0 a1_1 t371 t372 t375 t376 t379 t380 t381 t382) else (if t377 = true then ((span_Has.f t375 t376 (rd y391 x45_1)).bind fun t399 => (mandolinelaw01_SpanBytes.j1 k1 a2 t373 t377 (rd y391 x45_1) t395 y391 (y391.length : Int) x45_1 (t399 != t396) a0_0 a0_1 a1_0 a1_1 t371 t372 t375 t376 t379 t380 t381 t382)) else (mandolinelaw01_SpanBytes.j1 k1 a2 t373 t377 (rd y391 x45_1) t395 y391 (y391.length : Int) x45_1 false a0_0 a0_1 a1_0 a1_1 t371 t372 t375 t376 t379 t380 t381 t382))))) else (if t395 = true then (if (false != t396) = true then (mandolinelaw01_SpanBytes.j1 k1 a2 t373 t377 (rd y391 x45_1) t395 y391 (y391.length : Int) x45_1 true a0_0 a0_1 a1_0 a1_1 t371 t372 t375 t376 t379 t380 t381 t382) else (if t377 = true then ((span_Has.f t375 t376 (rd y391 x45_1)).bind fun t400 => (mandolinelaw01_SpanBytes.j1 k1 a2 t373 t377 (rd y391 x45_1) t395 y391 (y391.length : Int) x45_1 (t400 != true) a0_0 a0_1 a1_0 a1_1 t371 t372 t375 t376 t379 t380 t381 t382)) else (mandolinelaw01_SpanBytes.j1 k1 a2 t373 t377 (rd y391 x45_1) t395 y391 (y391.length : Int) x45_1 false a0_0 a0_1 a1_0 a1_1 t371 t372 t375 t376 t379 t380 t381 t382))) else (if t377 = true then ((span_Has.f t375 t376 (rd y391 x45_1)).bind fun t401 => (mandolinelaw01_SpanBytes.j1 k1 a2 t373 t377 (rd y391 x45_1) t395 y391 (y391.length : Int) x45_1 (t401 != t396) a0_0 a0_1 a1_0 a1_1 t371 t372 t375 t376 t379 t380 t381 t382)) else (mandolinelaw01_SpanBytes.j1 k1 a2 t373 t377 (rd y391 x45_1) t395 y391 (y391.length : Int) x45_1 false a0_0 a0_1 a1_0 a1_1 t371 t372 t375 t376 t379 t380 t381 t382))))) = some r := H
                have A56 := Aside0.mk A560
                clear A560
                replace H := Option.bind_eq_some_iff.mp H
                obtain ⟨t396, A570, H⟩ := H
                replace H : (if t373 = true then ((span_Has.f t371 t372 (rd y391 x45_1)).bind fun t397 => (if t395 = true then (if (t397 != t396) = true then (mandolinelaw01_SpanBytes.j1 k1 a2 t373 t377 (rd y391 x45_1) t395 y391 (y391.length : Int) x45_1 true a0_0 a0_1 a1_0 a1_1 t371 t372 t375 t376 t379 t380 t381 t382) else (if t377 = true then ((span_Has.f t375 t376 (rd y391 x45_1)).bind fun t398 => (mandolinelaw01_SpanBytes.j1 k1 a2 t373 t377 (rd y391 x45_1) t395 y391 (y391.length : Int) x45_1 (t398 != true) a0_0 a0_1 a1_0 a1_1 t371 t372 t375 t376 t379 t380 t381 t382)) else (mandolinelaw01_SpanBytes.j1 k1 a2 t373 t377 (rd y391 x45_1) t395 y391 (y391.length : Int) x45_1 false a0_0 a0_1 a1_0 a1_1 t371 t372 t375 t376 t379 t380 t381 t382))) else (if (t397 != false) = true then (mandolinelaw01_SpanBytes.j1 k1 a2 t373 t377 (rd y391 x45_1) t395 y391 (y391.length : Int) x45_1 true a0_0 a0_1 a1_0 a1_1 t371 t372 t375 t376 t379 t380 t381 t382) else (if t377 = true then ((span_Has.f t375 t376 (rd y391 x45_1)).bind fun t399 => (mandolinelaw01_SpanBytes.j1 k1 a2 t373 t377 (rd y391 x45_1) t395 y391 (y391.length : Int) x45_1 (t399 != t396) a0_0 a0_1 a1_0 a1_1 t371 t372 t375 t376 t379 t380 t381 t382)) else (mandolinelaw01_SpanBytes.j1 k1 a2 t373 t377 (rd y391 x45_1) t395 y391 (y391.length : Int) x45_1 false a0_0 a0_1 a1_0 a1_1 t371 t372 t375 t376 t379 t380 t381 t382))))) else (if t395 = true then (if (false != t396) = true then (mandolinelaw01_SpanBytes.j1 k1 a2 t373 t377 (rd y391 x45_1) t395 y391 (y391.length : Int) x45_1 true a0_0 a0_1 a1_0 a1_1 t371 t372 t375 t376 t379 t380 t381 t382) else (if t377 = true then ((span_Has.f t375 t376 (rd y391 x45_1)).bind fun t400 => (mandolinelaw01_SpanBytes.j1 k1 a2 t373 t377 (rd y391 x45_1) t395 y391 (y391.length : Int) x45_1 (t400 != true) a0_0 a0_1 a1_0 a1_1 t371 t372 t375 t376 t379 t380 t381 t382)) else (mandolinelaw01_SpanBytes.j1 k1 a2 t373 t377 (rd y391 x45_1) t395 y391 (y391.length : Int) x45_1 false a0_0 a0_1 a1_0 a1_1 t371 t372 t375 t376 t379 t380 t381 t382))) else (if t377 = true then ((span_Has.f t375 t376 (rd y391 x45_1)).bind fun t401 => (mandolinelaw01_SpanBytes.j1 k1 a2 t373 t377 (rd y391 x45_1) t395 y391 (y391.length : Int) x45_1 (t401 != t396) a0_0 a0_1 a1_0 a1_1 t371 t372 t375 t376 t379 t380 t381 t382)) else (mandolinelaw01_SpanBytes.j1 k1 a2 t373 t377 (rd y391 x45_1) t395 y391 (y391.length : Int) x45_1 false a0_0 a0_1 a1_0 a1_1 t371 t372 t375 t376 t379 t380 t381 t382)))) = some r := H
                have A57 := Aside0.mk A570
                clear A570
                have HC58 := Aside0.mk H
                clear H
                have p394 : 0 ≤ (x45_1 : Int) := of_decide_eq_true (by first | (with_reducible assumption) | assumption)
                have q394 : x45_1 < (y391.length : Int) := of_decide_eq_true (by first | (with_reducible assumption) | assumption)
                obtain ⟨ad394, e394, hx394_0⟩ := Kd.at_int (Kd.R_reads' HO_43.out).2.2 x45_1 p394 q394
                cases e394
                replace p394 := eq_true p394
                replace q394 := eq_true q394
                try go_wp2
                have n0_ := Aside0.mk (Kd.R_drew HO_43.out)
                have n1_ := Aside0.mk (blk_drew BK368.out)
                have n2_ := Aside0.mk (blk_drew BK369.out)
                have n3_ := Aside0.mk (blk_drew BK374.out)
                have n4_ := Aside0.mk (blk_drew BK378.out)
                have n5_ := Aside0.mk (blk_drew BK383.out)
                have n6_ := Aside0.mk (blk_drew BK384.out)
                have n7_ := Aside0.mk (below_drew1 HB.out)
                clear HO_43
                clear BK368
                clear BK369
                clear BK374
                clear BK378
                clear BK383
                clear BK384
                clear HB
                have HO_43 := n0_
                have BK368 := n1_
                have BK369 := n2_
                have BK374 := n3_
                have BK378 := n4_
                have BK383 := n5_
                have BK384 := n6_
                have HB := n7_
                clear n0_ n1_ n2_ n3_ n4_ n5_ n6_ n7_
                refine start_ (n := 8) (S := fun w' => w'.cell? ⟨gb368, 0, none⟩ = some (.int .i64 a0_0) ∧ w'.cell? ⟨gb368, 1, none⟩ = some (.int .i64 a0_1) ∧ w'.cell? ⟨gb369, 0, none⟩ = some (.int .i64 a1_0) ∧ w'.cell? ⟨gb369, 1, none⟩ = some (.int .i64 a1_1)) (ds := []) #[false, false, false, false, false, false, false, false] (by kernel_rfl) rfl rfl ⟨(blk_cell BK368.out 0).trans rfl, (blk_cell BK368.out 1).trans rfl, (blk_cell BK369.out 0).trans rfl, (blk_cell BK369.out 1).trans rfl⟩ (fun hHeld => ?_); refine with_tabW mandolinelaw01_SpanBytes.tab9 mandolinelaw01_SpanBytes.bits9 (fun HT_ HW_ => ?_)
                generalize wr.drew = w59 at HO_43 BK368 BK369 BK374 BK378 BK383 BK384 HB hHeld ⊢
                refine pure_ (i := 1) (N := some 50) (v := ?_) (a' := ?_) #[false, true, false, false, false, false, false, false] rfl rfl (any_of HT_.out (by kernel_rfl)) (fun _ _ _ h => h) (Or.inl ⟨by rfl, ?_⟩) ?_ ?_
                rotate_left
                · intro w'
                  go_simp
                  with_reducible rfl
                rotate_left
                · simp only [Act.put, List.setIfInBounds_toArray, List.set_cons_zero, List.set_cons_succ, i64_w, i32_w]
                  rfl
                refine pure_ (i := 4) (N := some 53) (v := ?_) (a' := ?_) #[false, true, false, false, true, false, false, false] rfl rfl (any_of HT_.out (by kernel_rfl)) (fun _ _ _ h => h) (Or.inl ⟨by rfl, ?_⟩) ?_ ?_
                rotate_left
                · intro w'
                  go_simp
                  with_reducible rfl
                rotate_left
                · simp only [Act.put, List.setIfInBounds_toArray, List.set_cons_zero, List.set_cons_succ, i64_w, i32_w]
                  rfl
                refine take_ (i := 0) (N := some 49) (v := ?_) (a' := ?_) #[true, true, false, false, true, false, false, false] rfl rfl (take_ofW HT_.out HW_.out (by kernel_rfl)) (fun _ _ _ h => h) (Or.inl ⟨by rfl, ?_⟩) hHeld ?_ ?_
                rotate_left
                · rintro w' ⟨s0, s1, s2, s3⟩
                  go_simp
                  with_reducible rfl
                rotate_left
                · simp only [Act.put, List.setIfInBounds_toArray, List.set_cons_zero, List.set_cons_succ, i64_w, i32_w]
                  rfl
                refine take_ (i := 3) (N := some 52) (v := ?_) (a' := ?_) #[true, true, false, true, true, false, false, false] rfl rfl (take_ofW HT_.out HW_.out (by kernel_rfl)) (fun _ _ _ h => h) (Or.inl ⟨by rfl, ?_⟩) hHeld ?_ ?_
                rotate_left
                · rintro w' ⟨s0, s1, s2, s3⟩
                  go_simp
                  with_reducible rfl
                rotate_left
                · simp only [Act.put, List.setIfInBounds_toArray, List.set_cons_zero, List.set_cons_succ, i64_w, i32_w]
                  rfl
                refine one_ (i := 2) (N := some 51) #[true, true, true, true, true, false, false, false] rfl rfl (one_of HT_.out (by kernel_rfl)) (by decide) (fun K hK => ?_)
                refine goes_ Tryd.func17 (by kernel_rfl) rfl #[.agg #[.int .i64 a0_0, .int .i64 a0_1], .int .i64 (rd y391 x45_1)] (by rfl) rfl rfl (by (try simp only [List.map_toArray, List.map_cons, List.map_nil]); first | done | rfl | (simp only [List.length_drop, List.length_take]; rfl)) ?_
                with_reducible refine (span_Has.calls a0_0 a0_1 (rd y391 x45_1) t395 _ A56.out).mono ?_
                rintro e w60 ⟨rfl, hb⟩
                refine ⟨_, rfl, ?_⟩
                have n0_ := Aside0.mk (Kd.R_below (by (with_reducible repeat (first | apply Kd.R_alloc | apply Kd.R_drewN | apply Kd.R_drew)); exact HO_43.out) hb)
                have n1_ := Aside0.mk (blk_below (g := gb368) (o := .cells #[.int .i64 a0_0, .int .i64 a0_1] 23 (0, 0)) (by (with_reducible repeat (first | refine blk_drewN ?_ _ | refine blk_drew ?_ | refine blk_alloc ?_ _)); exact BK368.out) hb)
                have n2_ := Aside0.mk (blk_below (g := gb369) (o := .cells #[.int .i64 a1_0, .int .i64 a1_1] 23 (0, 0)) (by (with_reducible repeat (first | refine blk_drewN ?_ _ | refine blk_drew ?_ | refine blk_alloc ?_ _)); exact BK369.out) hb)
                have n3_ := Aside0.mk (blk_below (g := gb374) (o := .cells #[.int .i64 t371, .int .i64 t372] 23 (0, 0)) (by (with_reducible repeat (first | refine blk_drewN ?_ _ | refine blk_drew ?_ | refine blk_alloc ?_ _)); exact BK374.out) hb)
                have n4_ := Aside0.mk (blk_below (g := gb378) (o := .cells #[.int .i64 t375, .int .i64 t376] 23 (0, 0)) (by (with_reducible repeat (first | refine blk_drewN ?_ _ | refine blk_drew ?_ | refine blk_alloc ?_ _)); exact BK378.out) hb)
                have n5_ := Aside0.mk (blk_below (g := gb383) (o := .cells #[.int .i64 t379, .int .i64 t380] 23 (0, 0)) (by (with_reducible repeat (first | refine blk_drewN ?_ _ | refine blk_drew ?_ | refine blk_alloc ?_ _)); exact BK383.out) hb)
                have n6_ := Aside0.mk (blk_below (g := gb384) (o := .cells #[.int .i64 t381, .int .i64 t382] 23 (0, 0)) (by (with_reducible repeat (first | refine blk_drewN ?_ _ | refine blk_drew ?_ | refine blk_alloc ?_ _)); exact BK384.out) hb)
                have n7_ := Aside0.mk (below_step (by repeat (first | (with_reducible first | exact HB.out | apply below_alloc | apply pw_below_drewN | apply below_drew1 | refine below_set ?_ GE368.out | refine below_set ?_ GE369.out | refine below_set ?_ GE374.out | refine below_set ?_ GE378.out | refine below_set ?_ GE383.out | refine below_set ?_ GE384.out) | exact HB.out)) hb)
                clear HO_43
                clear BK368
                clear BK369
                clear BK374
                clear BK378
                clear BK383
                clear BK384
                clear HB
                have HO_43 := n0_
                have BK368 := n1_
                have BK369 := n2_
                have BK374 := n3_
                have BK378 := n4_
                have BK383 := n5_
                have BK384 := n6_
                have HB := n7_
                clear n0_ n1_ n2_ n3_ n4_ n5_ n6_ n7_
                (try clear hb)
                (try clear hb2)
                (try clear hk)
                (try clear hi)
                refine hK.out _ _ ⟨(blk_cell BK368.out 0).trans rfl, (blk_cell BK368.out 1).trans rfl, (blk_cell BK369.out 0).trans rfl, (blk_cell BK369.out 1).trans rfl⟩ (fun hHeld => ?_)
                clear hK K
                refine norm_ (a' := ?_) ?_ ?_
                rotate_left
                · show Act.put _ (some 51) _ = _
                  simp only [Act.put, List.setIfInBounds_toArray, List.set_cons_zero, List.set_cons_succ, i64_w, i32_w]
                  rfl
                refine one_ (i := 5) (N := some 54) #[true, true, true, true, true, true, false, false] rfl rfl (one_of HT_.out (by kernel_rfl)) (by decide) (fun K hK => ?_)
                refine goes_ Tryd.func17 (by kernel_rfl) rfl #[.agg #[.int .i64 a1_0, .int .i64 a1_1], .int .i64 (rd y391 x45_1)] (by rfl) rfl rfl (by (try simp only [List.map_toArray, List.map_cons, List.map_nil]); first | done | rfl | (simp only [List.length_drop, List.length_take]; rfl)) ?_
                with_reducible refine (span_Has.calls a1_0 a1_1 (rd y391 x45_1) t396 _ A57.out).mono ?_
                rintro e w61 ⟨rfl, hb⟩
                refine ⟨_, rfl, ?_⟩
                have n0_ := Aside0.mk (Kd.R_below (by (with_reducible repeat (first | apply Kd.R_alloc | apply Kd.R_drewN | apply Kd.R_drew)); exact HO_43.out) hb)
                have n1_ := Aside0.mk (blk_below (g := gb368) (o := .cells #[.int .i64 a0_0, .int .i64 a0_1] 23 (0, 0)) (by (with_reducible repeat (first | refine blk_drewN ?_ _ | refine blk_drew ?_ | refine blk_alloc ?_ _)); exact BK368.out) hb)
                have n2_ := Aside0.mk (blk_below (g := gb369) (o := .cells #[.int .i64 a1_0, .int .i64 a1_1] 23 (0, 0)) (by (with_reducible repeat (first | refine blk_drewN ?_ _ | refine blk_drew ?_ | refine blk_alloc ?_ _)); exact BK369.out) hb)
                have n3_ := Aside0.mk (blk_below (g := gb374) (o := .cells #[.int .i64 t371, .int .i64 t372] 23 (0, 0)) (by (with_reducible repeat (first | refine blk_drewN ?_ _ | refine blk_drew ?_ | refine blk_alloc ?_ _)); exact BK374.out) hb)
                have n4_ := Aside0.mk (blk_below (g := gb378) (o := .cells #[.int .i64 t375, .int .i64 t376] 23 (0, 0)) (by (with_reducible repeat (first | refine blk_drewN ?_ _ | refine blk_drew ?_ | refine blk_alloc ?_ _)); exact BK378.out) hb)
                have n5_ := Aside0.mk (blk_below (g := gb383) (o := .cells #[.int .i64 t379, .int .i64 t380] 23 (0, 0)) (by (with_reducible repeat (first | refine blk_drewN ?_ _ | refine blk_drew ?_ | refine blk_alloc ?_ _)); exact BK383.out) hb)
                have n6_ := Aside0.mk (blk_below (g := gb384) (o := .cells #[.int .i64 t381, .int .i64 t382] 23 (0, 0)) (by (with_reducible repeat (first | refine blk_drewN ?_ _ | refine blk_drew ?_ | refine blk_alloc ?_ _)); exact BK384.out) hb)
                have n7_ := Aside0.mk (below_step (by repeat (first | (with_reducible first | exact HB.out | apply below_alloc | apply pw_below_drewN | apply below_drew1 | refine below_set ?_ GE368.out | refine below_set ?_ GE369.out | refine below_set ?_ GE374.out | refine below_set ?_ GE378.out | refine below_set ?_ GE383.out | refine below_set ?_ GE384.out) | exact HB.out)) hb)
                clear HO_43
                clear BK368
                clear BK369
                clear BK374
                clear BK378
                clear BK383
                clear BK384
                clear HB
                have HO_43 := n0_
                have BK368 := n1_
                have BK369 := n2_
                have BK374 := n3_
                have BK378 := n4_
                have BK383 := n5_
                have BK384 := n6_
                have HB := n7_
                clear n0_ n1_ n2_ n3_ n4_ n5_ n6_ n7_
                (try clear hb)
                (try clear hb2)
                (try clear hk)
                (try clear hi)
                refine hK.out _ _ ⟨(blk_cell BK368.out 0).trans rfl, (blk_cell BK368.out 1).trans rfl, (blk_cell BK369.out 0).trans rfl, (blk_cell BK369.out 1).trans rfl⟩ (fun hHeld => ?_)
                clear hK K
                refine norm_ (a' := ?_) ?_ ?_
                rotate_left
                · show Act.put _ (some 54) _ = _
                  simp only [Act.put, List.setIfInBounds_toArray, List.set_cons_zero, List.set_cons_succ, i64_w, i32_w]
                  rfl
                refine pure_ (i := 6) (N := some 15) (v := ?_) (a' := ?_) #[true, true, true, true, true, true, true, false] rfl rfl (any_of HT_.out (by kernel_rfl)) (fun _ _ _ h => h) (Or.inl ⟨by rfl, ?_⟩) ?_ ?_
                rotate_left
                · intro w'
                  go_simp
                  with_reducible rfl
                rotate_left
                · simp only [Act.put, List.setIfInBounds_toArray, List.set_cons_zero, List.set_cons_succ, i64_w, i32_w]
                  rfl
                refine pure_ (i := 7) (N := some 16) (v := ?_) (a' := ?_) #[true, true, true, true, true, true, true, true] rfl rfl (any_of HT_.out (by kernel_rfl)) (fun _ _ _ h => h) (Or.inl ⟨by rfl, ?_⟩) ?_ ?_
                rotate_left
                · intro w'
                  go_simp
                  with_reducible rfl
                rotate_left
                · simp only [Act.put, List.setIfInBounds_toArray, List.set_cons_zero, List.set_cons_succ, i64_w, i32_w]
                  rfl
                refine done_ (done_of HT_.out (by kernel_rfl)) ?_
                go_upto_region 10 with (fail)
                go_cut [78] (fun v78 wc => ∃ (kq : Nat) (x78_57 : Bool), v78 = .bool x78_57 ∧ Aside0 (mandolinelaw01_SpanBytes.j1 kq a2 t373 t377 (rd y391 x45_1) t395 y391 (y391.length : Int) x45_1 x78_57 a0_0 a0_1 a1_0 a1_1 t371 t372 t375 t376 t379 t380 t381 t382 = some r) ∧ Aside0 (kq ≤ k1) ∧ Aside0 (Kd.R (Kd.int .i64) 2 wc w.heap.size (fun _ => True) (.slice (some ad394) y391.length co52) y391) ∧ Aside0 (wc.heap[gb368]? = some (.cells #[.int .i64 a0_0, .int .i64 a0_1] 23 (0, 0))) ∧ Aside0 (wc.heap[gb369]? = some (.cells #[.int .i64 a1_0, .int .i64 a1_1] 23 (0, 0))) ∧ Aside0 (wc.heap[gb374]? = some (.cells #[.int .i64 t371, .int .i64 t372] 23 (0, 0))) ∧ Aside0 (wc.heap[gb378]? = some (.cells #[.int .i64 t375, .int .i64 t376] 23 (0, 0))) ∧ Aside0 (wc.heap[gb383]? = some (.cells #[.int .i64 t379, .int .i64 t380] 23 (0, 0))) ∧ Aside0 (wc.heap[gb384]? = some (.cells #[.int .i64 t381, .int .i64 t382] 23 (0, 0))) ∧ Aside0 (Below w.heap.size w wc))
                case first =>
                  have H := HC58.out
                  clear HC58
                  by_cases c62 : t373 = true
                  · subst c62
                    have H1 : ((span_Has.f t371 t372 (rd y391 x45_1)).bind fun t397 => (if t395 = true then (if (t397 != t396) = true then (mandolinelaw01_SpanBytes.j1 k1 a2 true t377 (rd y391 x45_1) t395 y391 (y391.length : Int) x45_1 true a0_0 a0_1 a1_0 a1_1 t371 t372 t375 t376 t379 t380 t381 t382) else (if t377 = true then ((span_Has.f t375 t376 (rd y391 x45_1)).bind fun t398 => (mandolinelaw01_SpanBytes.j1 k1 a2 true t377 (rd y391 x45_1) t395 y391 (y391.length : Int) x45_1 (t398 != true) a0_0 a0_1 a1_0 a1_1 t371 t372 t375 t376 t379 t380 t381 t382)) else (mandolinelaw01_SpanBytes.j1 k1 a2 true t377 (rd y391 x45_1) t395 y391 (y391.length : Int) x45_1 false a0_0 a0_1 a1_0 a1_1 t371 t372 t375 t376 t379 t380 t381 t382))) else (if (t397 != false) = true then (mandolinelaw01_SpanBytes.j1 k1 a2 true t377 (rd y391 x45_1) t395 y391 (y391.length : Int) x45_1 true a0_0 a0_1 a1_0 a1_1 t371 t372 t375 t376 t379 t380 t381 t382) else (if t377 = true then ((span_Has.f t375 t376 (rd y391 x45_1)).bind fun t399 => (mandolinelaw01_SpanBytes.j1 k1 a2 true t377 (rd y391 x45_1) t395 y391 (y391.length : Int) x45_1 (t399 != t396) a0_0 a0_1 a1_0 a1_1 t371 t372 t375 t376 t379 t380 t381 t382)) else (mandolinelaw01_SpanBytes.j1 k1 a2 true t377 (rd y391 x45_1) t395 y391 (y391.length : Int) x45_1 false a0_0 a0_1 a1_0 a1_1 t371 t372 t375 t376 t379 t380 t381 t382))))) = some r := by rw [if_pos rfl] at H; exact H
                    clear H
                    have H := H1
                    clear H1
                    replace H := Option.bind_eq_some_iff.mp H
                    obtain ⟨t397, A630, H⟩ := H
                    replace H : (if t395 = true then (if (t397 != t396) = true then (mandolinelaw01_SpanBytes.j1 k1 a2 true t377 (rd y391 x45_1) t395 y391 (y391.length : Int) x45_1 true a0_0 a0_1 a1_0 a1_1 t371 t372 t375 t376 t379 t380 t381 t382) else (if t377 = true then ((span_Has.f t375 t376 (rd y391 x45_1)).bind fun t398 => (mandolinelaw01_SpanBytes.j1 k1 a2 true t377 (rd y391 x45_1) t395 y391 (y391.length : Int) x45_1 (t398 != true) a0_0 a0_1 a1_0 a1_1 t371 t372 t375 t376 t379 t380 t381 t382)) else (mandolinelaw01_SpanBytes.j1 k1 a2 true t377 (rd y391 x45_1) t395 y391 (y391.length : Int) x45_1 false a0_0 a0_1 a1_0 a1_1 t371 t372 t375 t376 t379 t380 t381 t382))) else (if (t397 != false) = true then (mandolinelaw01_SpanBytes.j1 k1 a2 true t377 (rd y391 x45_1) t395 y391 (y391.length : Int) x45_1 true a0_0 a0_1 a1_0 a1_1 t371 t372 t375 t376 t379 t380 t381 t382) else (if t377 = true then ((span_Has.f t375 t376 (rd y391 x45_1)).bind fun t399 => (mandolinelaw01_SpanBytes.j1 k1 a2 true t377 (rd y391 x45_1) t395 y391 (y391.length : Int) x45_1 (t399 != t396) a0_0 a0_1 a1_0 a1_1 t371 t372 t375 t376 t379 t380 t381 t382)) else (mandolinelaw01_SpanBytes.j1 k1 a2 true t377 (rd y391 x45_1) t395 y391 (y391.length : Int) x45_1 false a0_0 a0_1 a1_0 a1_1 t371 t372 t375 t376 t379 t380 t381 t382)))) = some r := H
                    have A63 := Aside0.mk A630
                    clear A630
                    by_cases c64 : t395 = true
                    · subst c64
                      have H1 : (if (t397 != t396) = true then (mandolinelaw01_SpanBytes.j1 k1 a2 true t377 (rd y391 x45_1) true y391 (y391.length : Int) x45_1 true a0_0 a0_1 a1_0 a1_1 t371 t372 t375 t376 t379 t380 t381 t382) else (if t377 = true then ((span_Has.f t375 t376 (rd y391 x45_1)).bind fun t398 => (mandolinelaw01_SpanBytes.j1 k1 a2 true t377 (rd y391 x45_1) true y391 (y391.length : Int) x45_1 (t398 != true) a0_0 a0_1 a1_0 a1_1 t371 t372 t375 t376 t379 t380 t381 t382)) else (mandolinelaw01_SpanBytes.j1 k1 a2 true t377 (rd y391 x45_1) true y391 (y391.length : Int) x45_1 false a0_0 a0_1 a1_0 a1_1 t371 t372 t375 t376 t379 t380 t381 t382))) = some r := by rw [if_pos rfl] at H; exact H
                      clear H
                      have H := H1
                      clear H1
                      by_cases c65 : (t397 != t396) = true
                      · rw [if_pos c65] at H
                        have c65b0 : (t397 != t396) = true := c65
                        (try (have c65b1 : decide (t397 = t396) = false := by first | (simp at c65; done) | simpa using c65))
                        (try (have c65b2 : (t397 == t396) = false := by first | (simp at c65; done) | simpa using c65))
                        (try (have c65b3 : ¬ (t397 = t396) := by first | (simp at c65; done) | simpa using c65))
                        clear c65
                        (first | rw [c65b0] | (simp only [i64_w, i32_w]; rw [c65b0]) | skip)
                        have H' := Aside0.mk H
                        clear H
                        have hnb66 := NB374_368.out
                        have hnc66 := NB368_374.out
                        have hnb67 := NB374_369.out
                        have hnc67 := NB369_374.out
                        have hnb68 := NB374_378.out
                        have hnc68 := NB378_374.out
                        have hnb69 := NB374_383.out
                        have hnc69 := NB383_374.out
                        have hnb70 := NB374_384.out
                        have hnc70 := NB384_374.out
                        have hcz71_0 : w61.cell? ⟨gb374, 0, none⟩ = some (.int .i64 t371) := (blk_cell BK374.out 0).trans rfl
                        have hcz71_1 : w61.cell? ⟨gb374, 1, none⟩ = some (.int .i64 t372) := (blk_cell BK374.out 1).trans rfl
                        have hfz71_0 := blk_frozen BK374.out 0
                        have hfz71_1 := blk_frozen BK374.out 1
                        go_wp2_with (first | (go_at_call 17; (with_reducible refine (span_Has.calls t371 t372 (rd y391 x45_1) t397 _ A63.out).mono ?_); rintro e w72 ⟨rfl, hb⟩; have n0_ := Aside0.mk (Kd.R_below (by (with_reducible repeat (first | apply Kd.R_alloc | apply Kd.R_drewN | apply Kd.R_drew)); exact HO_43.out) hb); have n1_ := Aside0.mk (blk_below (g := gb368) (o := .cells #[.int .i64 a0_0, .int .i64 a0_1] 23 (0, 0)) (by (with_reducible repeat (first | refine blk_drewN ?_ _ | refine blk_drew ?_ | refine blk_alloc ?_ _)); exact BK368.out) hb); have n2_ := Aside0.mk (blk_below (g := gb369) (o := .cells #[.int .i64 a1_0, .int .i64 a1_1] 23 (0, 0)) (by (with_reducible repeat (first | refine blk_drewN ?_ _ | refine blk_drew ?_ | refine blk_alloc ?_ _)); exact BK369.out) hb); have n3_ := Aside0.mk (blk_below (g := gb374) (o := .cells #[.int .i64 t371, .int .i64 t372] 23 (0, 0)) (by (with_reducible repeat (first | refine blk_drewN ?_ _ | refine blk_drew ?_ | refine blk_alloc ?_ _)); exact BK374.out) hb); have n4_ := Aside0.mk (blk_below (g := gb378) (o := .cells #[.int .i64 t375, .int .i64 t376] 23 (0, 0)) (by (with_reducible repeat (first | refine blk_drewN ?_ _ | refine blk_drew ?_ | refine blk_alloc ?_ _)); exact BK378.out) hb); have n5_ := Aside0.mk (blk_below (g := gb383) (o := .cells #[.int .i64 t379, .int .i64 t380] 23 (0, 0)) (by (with_reducible repeat (first | refine blk_drewN ?_ _ | refine blk_drew ?_ | refine blk_alloc ?_ _)); exact BK383.out) hb); have n6_ := Aside0.mk (blk_below (g := gb384) (o := .cells #[.int .i64 t381, .int .i64 t382] 23 (0, 0)) (by (with_reducible repeat (first | refine blk_drewN ?_ _ | refine blk_drew ?_ | refine blk_alloc ?_ _)); exact BK384.out) hb); have n7_ := Aside0.mk (below_step (by repeat (first | (with_reducible first | exact HB.out | apply below_alloc | apply pw_below_drewN | apply below_drew1 | refine below_set ?_ GE368.out | refine below_set ?_ GE369.out | refine below_set ?_ GE374.out | refine below_set ?_ GE378.out | refine below_set ?_ GE383.out | refine below_set ?_ GE384.out) | exact HB.out)) hb); clear HO_43; clear BK368; clear BK369; clear BK374; clear BK378; clear BK383; clear BK384; clear HB; have HO_43 := n0_; have BK368 := n1_; have BK369 := n2_; have BK374 := n3_; have BK378 := n4_; have BK383 := n5_; have BK384 := n6_; have HB := n7_; clear n0_ n1_ n2_ n3_ n4_ n5_ n6_ n7_; (try clear hb); (try clear hb2); (try clear hk); (try clear hi)))
                        go_meet
                        case rel => exact ⟨_, (true), (by first | rfl | (simp; done) | (simp [*]; done)), H', ⟨by have := HK1.out; first | omega | exact Nat.le_refl _⟩, ⟨by (with_reducible repeat (first | apply Kd.R_alloc | apply Kd.R_drewN | apply Kd.R_drew)); exact HO_43.out⟩, ⟨by (with_reducible repeat (first | refine blk_drewN ?_ _ | refine blk_drew ?_ | refine blk_alloc ?_ _)); exact BK368.out⟩, ⟨by (with_reducible repeat (first | refine blk_drewN ?_ _ | refine blk_drew ?_ | refine blk_alloc ?_ _)); exact BK369.out⟩, ⟨by (with_reducible repeat (first | refine blk_drewN ?_ _ | refine blk_drew ?_ | refine blk_alloc ?_ _)); exact BK374.out⟩, ⟨by (with_reducible repeat (first | refine blk_drewN ?_ _ | refine blk_drew ?_ | refine blk_alloc ?_ _)); exact BK378.out⟩, ⟨by (with_reducible repeat (first | refine blk_drewN ?_ _ | refine blk_drew ?_ | refine blk_alloc ?_ _)); exact BK383.out⟩, ⟨by (with_reducible repeat (first | refine blk_drewN ?_ _ | refine blk_drew ?_ | refine blk_alloc ?_ _)); exact BK384.out⟩, ⟨by repeat (first | (with_reducible first | exact HB.out | apply below_alloc | apply pw_below_drewN | apply below_drew1 | refine below_set ?_ GE368.out | refine below_set ?_ GE369.out | refine below_set ?_ GE374.out | refine below_set ?_ GE378.out | refine below_set ?_ GE383.out | refine below_set ?_ GE384.out) | exact HB.out)⟩⟩
                      · rw [if_neg c65] at H
                        have c65b0 : (t397 != t396) = false := by first | (simp at c65; done) | simpa using c65
                        (try (have c65b1 : decide (t397 = t396) = true := by first | (simp at c65; done) | simpa using c65))
                        (try (have c65b2 : (t397 == t396) = true := by first | (simp at c65; done) | simpa using c65))
                        clear c65
                        (first | rw [c65b0] | (simp only [i64_w, i32_w]; rw [c65b0]) | skip)
                        by_cases c73 : t377 = true
                        · subst c73
                          have H1 : ((span_Has.f t375 t376 (rd y391 x45_1)).bind fun t398 => (mandolinelaw01_SpanBytes.j1 k1 a2 true true (rd y391 x45_1) true y391 (y391.length : Int) x45_1 (t398 != true) a0_0 a0_1 a1_0 a1_1 t371 t372 t375 t376 t379 t380 t381 t382)) = some r := by rw [if_pos rfl] at H; exact H
                          clear H
                          have H := H1
                          clear H1
                          replace H := Option.bind_eq_some_iff.mp H
                          obtain ⟨t398, A740, H⟩ := H
                          replace H : (mandolinelaw01_SpanBytes.j1 k1 a2 true true (rd y391 x45_1) true y391 (y391.length : Int) x45_1 (t398 != true) a0_0 a0_1 a1_0 a1_1 t371 t372 t375 t376 t379 t380 t381 t382) = some r := H
                          have A74 := Aside0.mk A740
                          clear A740
                          have H' := Aside0.mk H
                          clear H
                          have hnb75 := NB374_368.out
                          have hnc75 := NB368_374.out
                          have hnb76 := NB374_369.out
                          have hnc76 := NB369_374.out
                          have hnb77 := NB374_378.out
                          have hnc77 := NB378_374.out
                          have hnb78 := NB374_383.out
                          have hnc78 := NB383_374.out
                          have hnb79 := NB374_384.out
                          have hnc79 := NB384_374.out
                          have hcz80_0 : w61.cell? ⟨gb374, 0, none⟩ = some (.int .i64 t371) := (blk_cell BK374.out 0).trans rfl
                          have hcz80_1 : w61.cell? ⟨gb374, 1, none⟩ = some (.int .i64 t372) := (blk_cell BK374.out 1).trans rfl
                          have hfz80_0 := blk_frozen BK374.out 0
                          have hfz80_1 := blk_frozen BK374.out 1
                          go_wp2_with (first | (go_at_call 17; (with_reducible refine (span_Has.calls t371 t372 (rd y391 x45_1) t397 _ A63.out).mono ?_); rintro e w81 ⟨rfl, hb⟩; have n0_ := Aside0.mk (Kd.R_below (by (with_reducible repeat (first | apply Kd.R_alloc | apply Kd.R_drewN | apply Kd.R_drew)); exact HO_43.out) hb); have n1_ := Aside0.mk (blk_below (g := gb368) (o := .cells #[.int .i64 a0_0, .int .i64 a0_1] 23 (0, 0)) (by (with_reducible repeat (first | refine blk_drewN ?_ _ | refine blk_drew ?_ | refine blk_alloc ?_ _)); exact BK368.out) hb); have n2_ := Aside0.mk (blk_below (g := gb369) (o := .cells #[.int .i64 a1_0, .int .i64 a1_1] 23 (0, 0)) (by (with_reducible repeat (first | refine blk_drewN ?_ _ | refine blk_drew ?_ | refine blk_alloc ?_ _)); exact BK369.out) hb); have n3_ := Aside0.mk (blk_below (g := gb374) (o := .cells #[.int .i64 t371, .int .i64 t372] 23 (0, 0)) (by (with_reducible repeat (first | refine blk_drewN ?_ _ | refine blk_drew ?_ | refine blk_alloc ?_ _)); exact BK374.out) hb); have n4_ := Aside0.mk (blk_below (g := gb378) (o := .cells #[.int .i64 t375, .int .i64 t376] 23 (0, 0)) (by (with_reducible repeat (first | refine blk_drewN ?_ _ | refine blk_drew ?_ | refine blk_alloc ?_ _)); exact BK378.out) hb); have n5_ := Aside0.mk (blk_below (g := gb383) (o := .cells #[.int .i64 t379, .int .i64 t380] 23 (0, 0)) (by (with_reducible repeat (first | refine blk_drewN ?_ _ | refine blk_drew ?_ | refine blk_alloc ?_ _)); exact BK383.out) hb); have n6_ := Aside0.mk (blk_below (g := gb384) (o := .cells #[.int .i64 t381, .int .i64 t382] 23 (0, 0)) (by (with_reducible repeat (first | refine blk_drewN ?_ _ | refine blk_drew ?_ | refine blk_alloc ?_ _)); exact BK384.out) hb); have n7_ := Aside0.mk (below_step (by repeat (first | (with_reducible first | exact HB.out | apply below_alloc | apply pw_below_drewN | apply below_drew1 | refine below_set ?_ GE368.out | refine below_set ?_ GE369.out | refine below_set ?_ GE374.out | refine below_set ?_ GE378.out | refine below_set ?_ GE383.out | refine below_set ?_ GE384.out) | exact HB.out)) hb); clear HO_43; clear BK368; clear BK369; clear BK374; clear BK378; clear BK383; clear BK384; clear HB; have HO_43 := n0_; have BK368 := n1_; have BK369 := n2_; have BK374 := n3_; have BK378 := n4_; have BK383 := n5_; have BK384 := n6_; have HB := n7_; clear n0_ n1_ n2_ n3_ n4_ n5_ n6_ n7_; (try clear hb); (try clear hb2); (try clear hk); (try clear hi); have hnb82 := NB378_368.out; have hnc82 := NB368_378.out; have hnb83 := NB378_369.out; have hnc83 := NB369_378.out; have hnb84 := NB378_383.out; have hnc84 := NB383_378.out; have hnb85 := NB378_384.out; have hnc85 := NB384_378.out; have hcz86_0 : w81.cell? ⟨gb378, 0, none⟩ = some (.int .i64 t375) := (blk_cell BK378.out 0).trans rfl; have hcz86_1 : w81.cell? ⟨gb378, 1, none⟩ = some (.int .i64 t376) := (blk_cell BK378.out 1).trans rfl; have hfz86_0 := blk_frozen BK378.out 0; have hfz86_1 := blk_frozen BK378.out 1) | (go_at_call 17; (with_reducible refine (span_Has.calls t375 t376 (rd y391 x45_1) t398 _ A74.out).mono ?_); rintro e w87 ⟨rfl, hb⟩; have n0_ := Aside0.mk (Kd.R_below (by (with_reducible repeat (first | apply Kd.R_alloc | apply Kd.R_drewN | apply Kd.R_drew)); exact HO_43.out) hb); have n1_ := Aside0.mk (blk_below (g := gb368) (o := .cells #[.int .i64 a0_0, .int .i64 a0_1] 23 (0, 0)) (by (with_reducible repeat (first | refine blk_drewN ?_ _ | refine blk_drew ?_ | refine blk_alloc ?_ _)); exact BK368.out) hb); have n2_ := Aside0.mk (blk_below (g := gb369) (o := .cells #[.int .i64 a1_0, .int .i64 a1_1] 23 (0, 0)) (by (with_reducible repeat (first | refine blk_drewN ?_ _ | refine blk_drew ?_ | refine blk_alloc ?_ _)); exact BK369.out) hb); have n3_ := Aside0.mk (blk_below (g := gb374) (o := .cells #[.int .i64 t371, .int .i64 t372] 23 (0, 0)) (by (with_reducible repeat (first | refine blk_drewN ?_ _ | refine blk_drew ?_ | refine blk_alloc ?_ _)); exact BK374.out) hb); have n4_ := Aside0.mk (blk_below (g := gb378) (o := .cells #[.int .i64 t375, .int .i64 t376] 23 (0, 0)) (by (with_reducible repeat (first | refine blk_drewN ?_ _ | refine blk_drew ?_ | refine blk_alloc ?_ _)); exact BK378.out) hb); have n5_ := Aside0.mk (blk_below (g := gb383) (o := .cells #[.int .i64 t379, .int .i64 t380] 23 (0, 0)) (by (with_reducible repeat (first | refine blk_drewN ?_ _ | refine blk_drew ?_ | refine blk_alloc ?_ _)); exact BK383.out) hb); have n6_ := Aside0.mk (blk_below (g := gb384) (o := .cells #[.int .i64 t381, .int .i64 t382] 23 (0, 0)) (by (with_reducible repeat (first | refine blk_drewN ?_ _ | refine blk_drew ?_ | refine blk_alloc ?_ _)); exact BK384.out) hb); have n7_ := Aside0.mk (below_step (by repeat (first | (with_reducible first | exact HB.out | apply below_alloc | apply pw_below_drewN | apply below_drew1 | refine below_set ?_ GE368.out | refine below_set ?_ GE369.out | refine below_set ?_ GE374.out | refine below_set ?_ GE378.out | refine below_set ?_ GE383.out | refine below_set ?_ GE384.out) | exact HB.out)) hb); clear HO_43; clear BK368; clear BK369; clear BK374; clear BK378; clear BK383; clear BK384; clear HB; have HO_43 := n0_; have BK368 := n1_; have BK369 := n2_; have BK374 := n3_; have BK378 := n4_; have BK383 := n5_; have BK384 := n6_; have HB := n7_; clear n0_ n1_ n2_ n3_ n4_ n5_ n6_ n7_; (try clear hb); (try clear hb2); (try clear hk); (try clear hi)))
                          go_meet
                          case rel => exact ⟨_, ((t398 != true)), (by first | rfl | (simp; done) | (simp [*]; done)), H', ⟨by have := HK1.out; first | omega | exact Nat.le_refl _⟩, ⟨by (with_reducible repeat (first | apply Kd.R_alloc | apply Kd.R_drewN | apply Kd.R_drew)); exact HO_43.out⟩, ⟨by (with_reducible repeat (first | refine blk_drewN ?_ _ | refine blk_drew ?_ | refine blk_alloc ?_ _)); exact BK368.out⟩, ⟨by (with_reducible repeat (first | refine blk_drewN ?_ _ | refine blk_drew ?_ | refine blk_alloc ?_ _)); exact BK369.out⟩, ⟨by (with_reducible repeat (first | refine blk_drewN ?_ _ | refine blk_drew ?_ | refine blk_alloc ?_ _)); exact BK374.out⟩, ⟨by (with_reducible repeat (first | refine blk_drewN ?_ _ | refine blk_drew ?_ | refine blk_alloc ?_ _)); exact BK378.out⟩, ⟨by (with_reducible repeat (first | refine blk_drewN ?_ _ | refine blk_drew ?_ | refine blk_alloc ?_ _)); exact BK383.out⟩, ⟨by (with_reducible repeat (first | refine blk_drewN ?_ _ | refine blk_drew ?_ | refine blk_alloc ?_ _)); exact BK384.out⟩, ⟨by repeat (first | (with_reducible first | exact HB.out | apply below_alloc | apply pw_below_drewN | apply below_drew1 | refine below_set ?_ GE368.out | refine below_set ?_ GE369.out | refine below_set ?_ GE374.out | refine below_set ?_ GE378.out | refine below_set ?_ GE383.out | refine below_set ?_ GE384.out) | exact HB.out)⟩⟩
                        · replace c73 := Bool.eq_false_iff.mpr c73
                          subst c73
                          have H1 : (mandolinelaw01_SpanBytes.j1 k1 a2 true false (rd y391 x45_1) true y391 (y391.length : Int) x45_1 false a0_0 a0_1 a1_0 a1_1 t371 t372 t375 t376 t379 t380 t381 t382) = some r := by rw [if_neg (show ¬ (false = true) by decide)] at H; exact H
                          clear H
                          have H := H1
                          clear H1
                          have H' := Aside0.mk H
                          clear H
                          have hnb88 := NB374_368.out
                          have hnc88 := NB368_374.out
                          have hnb89 := NB374_369.out
                          have hnc89 := NB369_374.out
                          have hnb90 := NB374_378.out
                          have hnc90 := NB378_374.out
                          have hnb91 := NB374_383.out
                          have hnc91 := NB383_374.out
                          have hnb92 := NB374_384.out
                          have hnc92 := NB384_374.out
                          have hcz93_0 : w61.cell? ⟨gb374, 0, none⟩ = some (.int .i64 t371) := (blk_cell BK374.out 0).trans rfl
                          have hcz93_1 : w61.cell? ⟨gb374, 1, none⟩ = some (.int .i64 t372) := (blk_cell BK374.out 1).trans rfl
                          have hfz93_0 := blk_frozen BK374.out 0
                          have hfz93_1 := blk_frozen BK374.out 1
                          go_wp2_with (first | (go_at_call 17; (with_reducible refine (span_Has.calls t371 t372 (rd y391 x45_1) t397 _ A63.out).mono ?_); rintro e w94 ⟨rfl, hb⟩; have n0_ := Aside0.mk (Kd.R_below (by (with_reducible repeat (first | apply Kd.R_alloc | apply Kd.R_drewN | apply Kd.R_drew)); exact HO_43.out) hb); have n1_ := Aside0.mk (blk_below (g := gb368) (o := .cells #[.int .i64 a0_0, .int .i64 a0_1] 23 (0, 0)) (by (with_reducible repeat (first | refine blk_drewN ?_ _ | refine blk_drew ?_ | refine blk_alloc ?_ _)); exact BK368.out) hb); have n2_ := Aside0.mk (blk_below (g := gb369) (o := .cells #[.int .i64 a1_0, .int .i64 a1_1] 23 (0, 0)) (by (with_reducible repeat (first | refine blk_drewN ?_ _ | refine blk_drew ?_ | refine blk_alloc ?_ _)); exact BK369.out) hb); have n3_ := Aside0.mk (blk_below (g := gb374) (o := .cells #[.int .i64 t371, .int .i64 t372] 23 (0, 0)) (by (with_reducible repeat (first | refine blk_drewN ?_ _ | refine blk_drew ?_ | refine blk_alloc ?_ _)); exact BK374.out) hb); have n4_ := Aside0.mk (blk_below (g := gb378) (o := .cells #[.int .i64 t375, .int .i64 t376] 23 (0, 0)) (by (with_reducible repeat (first | refine blk_drewN ?_ _ | refine blk_drew ?_ | refine blk_alloc ?_ _)); exact BK378.out) hb); have n5_ := Aside0.mk (blk_below (g := gb383) (o := .cells #[.int .i64 t379, .int .i64 t380] 23 (0, 0)) (by (with_reducible repeat (first | refine blk_drewN ?_ _ | refine blk_drew ?_ | refine blk_alloc ?_ _)); exact BK383.out) hb); have n6_ := Aside0.mk (blk_below (g := gb384) (o := .cells #[.int .i64 t381, .int .i64 t382] 23 (0, 0)) (by (with_reducible repeat (first | refine blk_drewN ?_ _ | refine blk_drew ?_ | refine blk_alloc ?_ _)); exact BK384.out) hb); have n7_ := Aside0.mk (below_step (by repeat (first | (with_reducible first | exact HB.out | apply below_alloc | apply pw_below_drewN | apply below_drew1 | refine below_set ?_ GE368.out | refine below_set ?_ GE369.out | refine below_set ?_ GE374.out | refine below_set ?_ GE378.out | refine below_set ?_ GE383.out | refine below_set ?_ GE384.out) | exact HB.out)) hb); clear HO_43; clear BK368; clear BK369; clear BK374; clear BK378; clear BK383; clear BK384; clear HB; have HO_43 := n0_; have BK368 := n1_; have BK369 := n2_; have BK374 := n3_; have BK378 := n4_; have BK383 := n5_; have BK384 := n6_; have HB := n7_; clear n0_ n1_ n2_ n3_ n4_ n5_ n6_ n7_; (try clear hb); (try clear hb2); (try clear hk); (try clear hi)))
                          go_meet
                          case rel => exact ⟨_, (false), (by first | rfl | (simp; done) | (simp [*]; done)), H', ⟨by have := HK1.out; first | omega | exact Nat.le_refl _⟩, ⟨by (with_reducible repeat (first | apply Kd.R_alloc | apply Kd.R_drewN | apply Kd.R_drew)); exact HO_43.out⟩, ⟨by (with_reducible repeat (first | refine blk_drewN ?_ _ | refine blk_drew ?_ | refine blk_alloc ?_ _)); exact BK368.out⟩, ⟨by (with_reducible repeat (first | refine blk_drewN ?_ _ | refine blk_drew ?_ | refine blk_alloc ?_ _)); exact BK369.out⟩, ⟨by (with_reducible repeat (first | refine blk_drewN ?_ _ | refine blk_drew ?_ | refine blk_alloc ?_ _)); exact BK374.out⟩, ⟨by (with_reducible repeat (first | refine blk_drewN ?_ _ | refine blk_drew ?_ | refine blk_alloc ?_ _)); exact BK378.out⟩, ⟨by (with_reducible repeat (first | refine blk_drewN ?_ _ | refine blk_drew ?_ | refine blk_alloc ?_ _)); exact BK383.out⟩, ⟨by (with_reducible repeat (first | refine blk_drewN ?_ _ | refine blk_drew ?_ | refine blk_alloc ?_ _)); exact BK384.out⟩, ⟨by repeat (first | (with_reducible first | exact HB.out | apply below_alloc | apply pw_below_drewN | apply below_drew1 | refine below_set ?_ GE368.out | refine below_set ?_ GE369.out | refine below_set ?_ GE374.out | refine below_set ?_ GE378.out | refine below_set ?_ GE383.out | refine below_set ?_ GE384.out) | exact HB.out)⟩⟩
                    · replace c64 := Bool.eq_false_iff.mpr c64
                      subst c64
                      have H1 : (if (t397 != false) = true then (mandolinelaw01_SpanBytes.j1 k1 a2 true t377 (rd y391 x45_1) false y391 (y391.length : Int) x45_1 true a0_0 a0_1 a1_0 a1_1 t371 t372 t375 t376 t379 t380 t381 t382) else (if t377 = true then ((span_Has.f t375 t376 (rd y391 x45_1)).bind fun t399 => (mandolinelaw01_SpanBytes.j1 k1 a2 true t377 (rd y391 x45_1) false y391 (y391.length : Int) x45_1 (t399 != t396) a0_0 a0_1 a1_0 a1_1 t371 t372 t375 t376 t379 t380 t381 t382)) else (mandolinelaw01_SpanBytes.j1 k1 a2 true t377 (rd y391 x45_1) false y391 (y391.length : Int) x45_1 false a0_0 a0_1 a1_0 a1_1 t371 t372 t375 t376 t379 t380 t381 t382))) = some r := by rw [if_neg (show ¬ (false = true) by decide)] at H; exact H
                      clear H
                      have H := H1
                      clear H1
                      by_cases c95 : (t397 != false) = true
                      · rw [if_pos c95] at H
                        have c95b0 : (t397 != false) = true := c95
                        (try (have c95b1 : decide (t397 = false) = false := by first | (simp at c95; done) | simpa using c95))
                        (try (have c95b2 : (t397 == false) = false := by first | (simp at c95; done) | simpa using c95))
                        (try (have c95b3 : ¬ (t397 = false) := by first | (simp at c95; done) | simpa using c95))
                        clear c95
                        have H' := Aside0.mk H
                        clear H
                        have hnb96 := NB374_368.out
                        have hnc96 := NB368_374.out
                        have hnb97 := NB374_369.out
                        have hnc97 := NB369_374.out
                        have hnb98 := NB374_378.out
                        have hnc98 := NB378_374.out
                        have hnb99 := NB374_383.out
                        have hnc99 := NB383_374.out
                        have hnb100 := NB374_384.out
                        have hnc100 := NB384_374.out
                        have hcz101_0 : w61.cell? ⟨gb374, 0, none⟩ = some (.int .i64 t371) := (blk_cell BK374.out 0).trans rfl
                        have hcz101_1 : w61.cell? ⟨gb374, 1, none⟩ = some (.int .i64 t372) := (blk_cell BK374.out 1).trans rfl
                        have hfz101_0 := blk_frozen BK374.out 0
                        have hfz101_1 := blk_frozen BK374.out 1
                        go_wp2_with (first | (go_at_call 17; (with_reducible refine (span_Has.calls t371 t372 (rd y391 x45_1) t397 _ A63.out).mono ?_); rintro e w102 ⟨rfl, hb⟩; have n0_ := Aside0.mk (Kd.R_below (by (with_reducible repeat (first | apply Kd.R_alloc | apply Kd.R_drewN | apply Kd.R_drew)); exact HO_43.out) hb); have n1_ := Aside0.mk (blk_below (g := gb368) (o := .cells #[.int .i64 a0_0, .int .i64 a0_1] 23 (0, 0)) (by (with_reducible repeat (first | refine blk_drewN ?_ _ | refine blk_drew ?_ | refine blk_alloc ?_ _)); exact BK368.out) hb); have n2_ := Aside0.mk (blk_below (g := gb369) (o := .cells #[.int .i64 a1_0, .int .i64 a1_1] 23 (0, 0)) (by (with_reducible repeat (first | refine blk_drewN ?_ _ | refine blk_drew ?_ | refine blk_alloc ?_ _)); exact BK369.out) hb); have n3_ := Aside0.mk (blk_below (g := gb374) (o := .cells #[.int .i64 t371, .int .i64 t372] 23 (0, 0)) (by (with_reducible repeat (first | refine blk_drewN ?_ _ | refine blk_drew ?_ | refine blk_alloc ?_ _)); exact BK374.out) hb); have n4_ := Aside0.mk (blk_below (g := gb378) (o := .cells #[.int .i64 t375, .int .i64 t376] 23 (0, 0)) (by (with_reducible repeat (first | refine blk_drewN ?_ _ | refine blk_drew ?_ | refine blk_alloc ?_ _)); exact BK378.out) hb); have n5_ := Aside0.mk (blk_below (g := gb383) (o := .cells #[.int .i64 t379, .int .i64 t380] 23 (0, 0)) (by (with_reducible repeat (first | refine blk_drewN ?_ _ | refine blk_drew ?_ | refine blk_alloc ?_ _)); exact BK383.out) hb); have n6_ := Aside0.mk (blk_below (g := gb384) (o := .cells #[.int .i64 t381, .int .i64 t382] 23 (0, 0)) (by (with_reducible repeat (first | refine blk_drewN ?_ _ | refine blk_drew ?_ | refine blk_alloc ?_ _)); exact BK384.out) hb); have n7_ := Aside0.mk (below_step (by repeat (first | (with_reducible first | exact HB.out | apply below_alloc | apply pw_below_drewN | apply below_drew1 | refine below_set ?_ GE368.out | refine below_set ?_ GE369.out | refine below_set ?_ GE374.out | refine below_set ?_ GE378.out | refine below_set ?_ GE383.out | refine below_set ?_ GE384.out) | exact HB.out)) hb); clear HO_43; clear BK368; clear BK369; clear BK374; clear BK378; clear BK383; clear BK384; clear HB; have HO_43 := n0_; have BK368 := n1_; have BK369 := n2_; have BK374 := n3_; have BK378 := n4_; have BK383 := n5_; have BK384 := n6_; have HB := n7_; clear n0_ n1_ n2_ n3_ n4_ n5_ n6_ n7_; (try clear hb); (try clear hb2); (try clear hk); (try clear hi)))
                        go_meet
                        case rel => exact ⟨_, (true), (by first | rfl | (simp; done) | (simp [*]; done)), H', ⟨by have := HK1.out; first | omega | exact Nat.le_refl _⟩, ⟨by (with_reducible repeat (first | apply Kd.R_alloc | apply Kd.R_drewN | apply Kd.R_drew)); exact HO_43.out⟩, ⟨by (with_reducible repeat (first | refine blk_drewN ?_ _ | refine blk_drew ?_ | refine blk_alloc ?_ _)); exact BK368.out⟩, ⟨by (with_reducible repeat (first | refine blk_drewN ?_ _ | refine blk_drew ?_ | refine blk_alloc ?_ _)); exact BK369.out⟩, ⟨by (with_reducible repeat (first | refine blk_drewN ?_ _ | refine blk_drew ?_ | refine blk_alloc ?_ _)); exact BK374.out⟩, ⟨by (with_reducible repeat (first | refine blk_drewN ?_ _ | refine blk_drew ?_ | refine blk_alloc ?_ _)); exact BK378.out⟩, ⟨by (with_reducible repeat (first | refine blk_drewN ?_ _ | refine blk_drew ?_ | refine blk_alloc ?_ _)); exact BK383.out⟩, ⟨by (with_reducible repeat (first | refine blk_drewN ?_ _ | refine blk_drew ?_ | refine blk_alloc ?_ _)); exact BK384.out⟩, ⟨by repeat (first | (with_reducible first | exact HB.out | apply below_alloc | apply pw_below_drewN | apply below_drew1 | refine below_set ?_ GE368.out | refine below_set ?_ GE369.out | refine below_set ?_ GE374.out | refine below_set ?_ GE378.out | refine below_set ?_ GE383.out | refine below_set ?_ GE384.out) | exact HB.out)⟩⟩
                      · rw [if_neg c95] at H
                        have c95b0 : (t397 != false) = false := by first | (simp at c95; done) | simpa using c95
                        (try (have c95b1 : decide (t397 = false) = true := by first | (simp at c95; done) | simpa using c95))
                        (try (have c95b2 : (t397 == false) = true := by first | (simp at c95; done) | simpa using c95))
                        clear c95
                        by_cases c103 : t377 = true
                        · subst c103
                          have H1 : ((span_Has.f t375 t376 (rd y391 x45_1)).bind fun t399 => (mandolinelaw01_SpanBytes.j1 k1 a2 true true (rd y391 x45_1) false y391 (y391.length : Int) x45_1 (t399 != t396) a0_0 a0_1 a1_0 a1_1 t371 t372 t375 t376 t379 t380 t381 t382)) = some r := by rw [if_pos rfl] at H; exact H
                          clear H
                          have H := H1
                          clear H1
                          replace H := Option.bind_eq_some_iff.mp H
                          obtain ⟨t399, A1040, H⟩ := H
                          replace H : (mandolinelaw01_SpanBytes.j1 k1 a2 true true (rd y391 x45_1) false y391 (y391.length : Int) x45_1 (t399 != t396) a0_0 a0_1 a1_0 a1_1 t371 t372 t375 t376 t379 t380 t381 t382) = some r := H
                          have A104 := Aside0.mk A1040
                          clear A1040
                          have H' := Aside0.mk H
                          clear H
                          have hnb105 := NB374_368.out
                          have hnc105 := NB368_374.out
                          have hnb106 := NB374_369.out
                          have hnc106 := NB369_374.out
                          have hnb107 := NB374_378.out
                          have hnc107 := NB378_374.out
                          have hnb108 := NB374_383.out
                          have hnc108 := NB383_374.out
                          have hnb109 := NB374_384.out
                          have hnc109 := NB384_374.out
                          have hcz110_0 : w61.cell? ⟨gb374, 0, none⟩ = some (.int .i64 t371) := (blk_cell BK374.out 0).trans rfl
                          have hcz110_1 : w61.cell? ⟨gb374, 1, none⟩ = some (.int .i64 t372) := (blk_cell BK374.out 1).trans rfl
                          have hfz110_0 := blk_frozen BK374.out 0
                          have hfz110_1 := blk_frozen BK374.out 1
                          go_wp2_with (first | (go_at_call 17; (with_reducible refine (span_Has.calls t371 t372 (rd y391 x45_1) t397 _ A63.out).mono ?_); rintro e w111 ⟨rfl, hb⟩; have n0_ := Aside0.mk (Kd.R_below (by (with_reducible repeat (first | apply Kd.R_alloc | apply Kd.R_drewN | apply Kd.R_drew)); exact HO_43.out) hb); have n1_ := Aside0.mk (blk_below (g := gb368) (o := .cells #[.int .i64 a0_0, .int .i64 a0_1] 23 (0, 0)) (by (with_reducible repeat (first | refine blk_drewN ?_ _ | refine blk_drew ?_ | refine blk_alloc ?_ _)); exact BK368.out) hb); have n2_ := Aside0.mk (blk_below (g := gb369) (o := .cells #[.int .i64 a1_0, .int .i64 a1_1] 23 (0, 0)) (by (with_reducible repeat (first | refine blk_drewN ?_ _ | refine blk_drew ?_ | refine blk_alloc ?_ _)); exact BK369.out) hb); have n3_ := Aside0.mk (blk_below (g := gb374) (o := .cells #[.int .i64 t371, .int .i64 t372] 23 (0, 0)) (by (with_reducible repeat (first | refine blk_drewN ?_ _ | refine blk_drew ?_ | refine blk_alloc ?_ _)); exact BK374.out) hb); have n4_ := Aside0.mk (blk_below (g := gb378) (o := .cells #[.int .i64 t375, .int .i64 t376] 23 (0, 0)) (by (with_reducible repeat (first | refine blk_drewN ?_ _ | refine blk_drew ?_ | refine blk_alloc ?_ _)); exact BK378.out) hb); have n5_ := Aside0.mk (blk_below (g := gb383) (o := .cells #[.int .i64 t379, .int .i64 t380] 23 (0, 0)) (by (with_reducible repeat (first | refine blk_drewN ?_ _ | refine blk_drew ?_ | refine blk_alloc ?_ _)); exact BK383.out) hb); have n6_ := Aside0.mk (blk_below (g := gb384) (o := .cells #[.int .i64 t381, .int .i64 t382] 23 (0, 0)) (by (with_reducible repeat (first | refine blk_drewN ?_ _ | refine blk_drew ?_ | refine blk_alloc ?_ _)); exact BK384.out) hb); have n7_ := Aside0.mk (below_step (by repeat (first | (with_reducible first | exact HB.out | apply below_alloc | apply pw_below_drewN | apply below_drew1 | refine below_set ?_ GE368.out | refine below_set ?_ GE369.out | refine below_set ?_ GE374.out | refine below_set ?_ GE378.out | refine below_set ?_ GE383.out | refine below_set ?_ GE384.out) | exact HB.out)) hb); clear HO_43; clear BK368; clear BK369; clear BK374; clear BK378; clear BK383; clear BK384; clear HB; have HO_43 := n0_; have BK368 := n1_; have BK369 := n2_; have BK374 := n3_; have BK378 := n4_; have BK383 := n5_; have BK384 := n6_; have HB := n7_; clear n0_ n1_ n2_ n3_ n4_ n5_ n6_ n7_; (try clear hb); (try clear hb2); (try clear hk); (try clear hi); have hnb112 := NB378_368.out; have hnc112 := NB368_378.out; have hnb113 := NB378_369.out; have hnc113 := NB369_378.out; have hnb114 := NB378_383.out; have hnc114 := NB383_378.out; have hnb115 := NB378_384.out; have hnc115 := NB384_378.out; have hcz116_0 : w111.cell? ⟨gb378, 0, none⟩ = some (.int .i64 t375) := (blk_cell BK378.out 0).trans rfl; have hcz116_1 : w111.cell? ⟨gb378, 1, none⟩ = some (.int .i64 t376) := (blk_cell BK378.out 1).trans rfl; have hfz116_0 := blk_frozen BK378.out 0; have hfz116_1 := blk_frozen BK378.out 1) | (go_at_call 17; (with_reducible refine (span_Has.calls t375 t376 (rd y391 x45_1) t399 _ A104.out).mono ?_); rintro e w117 ⟨rfl, hb⟩; have n0_ := Aside0.mk (Kd.R_below (by (with_reducible repeat (first | apply Kd.R_alloc | apply Kd.R_drewN | apply Kd.R_drew)); exact HO_43.out) hb); have n1_ := Aside0.mk (blk_below (g := gb368) (o := .cells #[.int .i64 a0_0, .int .i64 a0_1] 23 (0, 0)) (by (with_reducible repeat (first | refine blk_drewN ?_ _ | refine blk_drew ?_ | refine blk_alloc ?_ _)); exact BK368.out) hb); have n2_ := Aside0.mk (blk_below (g := gb369) (o := .cells #[.int .i64 a1_0, .int .i64 a1_1] 23 (0, 0)) (by (with_reducible repeat (first | refine blk_drewN ?_ _ | refine blk_drew ?_ | refine blk_alloc ?_ _)); exact BK369.out) hb); have n3_ := Aside0.mk (blk_below (g := gb374) (o := .cells #[.int .i64 t371, .int .i64 t372] 23 (0, 0)) (by (with_reducible repeat (first | refine blk_drewN ?_ _ | refine blk_drew ?_ | refine blk_alloc ?_ _)); exact BK374.out) hb); have n4_ := Aside0.mk (blk_below (g := gb378) (o := .cells #[.int .i64 t375, .int .i64 t376] 23 (0, 0)) (by (with_reducible repeat (first | refine blk_drewN ?_ _ | refine blk_drew ?_ | refine blk_alloc ?_ _)); exact BK378.out) hb); have n5_ := Aside0.mk (blk_below (g := gb383) (o := .cells #[.int .i64 t379, .int .i64 t380] 23 (0, 0)) (by (with_reducible repeat (first | refine blk_drewN ?_ _ | refine blk_drew ?_ | refine blk_alloc ?_ _)); exact BK383.out) hb); have n6_ := Aside0.mk (blk_below (g := gb384) (o := .cells #[.int .i64 t381, .int .i64 t382] 23 (0, 0)) (by (with_reducible repeat (first | refine blk_drewN ?_ _ | refine blk_drew ?_ | refine blk_alloc ?_ _)); exact BK384.out) hb); have n7_ := Aside0.mk (below_step (by repeat (first | (with_reducible first | exact HB.out | apply below_alloc | apply pw_below_drewN | apply below_drew1 | refine below_set ?_ GE368.out | refine below_set ?_ GE369.out | refine below_set ?_ GE374.out | refine below_set ?_ GE378.out | refine below_set ?_ GE383.out | refine below_set ?_ GE384.out) | exact HB.out)) hb); clear HO_43; clear BK368; clear BK369; clear BK374; clear BK378; clear BK383; clear BK384; clear HB; have HO_43 := n0_; have BK368 := n1_; have BK369 := n2_; have BK374 := n3_; have BK378 := n4_; have BK383 := n5_; have BK384 := n6_; have HB := n7_; clear n0_ n1_ n2_ n3_ n4_ n5_ n6_ n7_; (try clear hb); (try clear hb2); (try clear hk); (try clear hi)))
                          go_meet
                          case rel => exact ⟨_, ((t399 != t396)), (by first | rfl | (simp; done) | (simp [*]; done)), H', ⟨by have := HK1.out; first | omega | exact Nat.le_refl _⟩, ⟨by (with_reducible repeat (first | apply Kd.R_alloc | apply Kd.R_drewN | apply Kd.R_drew)); exact HO_43.out⟩, ⟨by (with_reducible repeat (first | refine blk_drewN ?_ _ | refine blk_drew ?_ | refine blk_alloc ?_ _)); exact BK368.out⟩, ⟨by (with_reducible repeat (first | refine blk_drewN ?_ _ | refine blk_drew ?_ | refine blk_alloc ?_ _)); exact BK369.out⟩, ⟨by (with_reducible repeat (first | refine blk_drewN ?_ _ | refine blk_drew ?_ | refine blk_alloc ?_ _)); exact BK374.out⟩, ⟨by (with_reducible repeat (first | refine blk_drewN ?_ _ | refine blk_drew ?_ | refine blk_alloc ?_ _)); exact BK378.out⟩, ⟨by (with_reducible repeat (first | refine blk_drewN ?_ _ | refine blk_drew ?_ | refine blk_alloc ?_ _)); exact BK383.out⟩, ⟨by (with_reducible repeat (first | refine blk_drewN ?_ _ | refine blk_drew ?_ | refine blk_alloc ?_ _)); exact BK384.out⟩, ⟨by repeat (first | (with_reducible first | exact HB.out | apply below_alloc | apply pw_below_drewN | apply below_drew1 | refine below_set ?_ GE368.out | refine below_set ?_ GE369.out | refine below_set ?_ GE374.out | refine below_set ?_ GE378.out | refine below_set ?_ GE383.out | refine below_set ?_ GE384.out) | exact HB.out)⟩⟩
                        · replace c103 := Bool.eq_false_iff.mpr c103
                          subst c103
                          have H1 : (mandolinelaw01_SpanBytes.j1 k1 a2 true false (rd y391 x45_1) false y391 (y391.length : Int) x45_1 false a0_0 a0_1 a1_0 a1_1 t371 t372 t375 t376 t379 t380 t381 t382) = some r := by rw [if_neg (show ¬ (false = true) by decide)] at H; exact H
                          clear H
                          have H := H1
                          clear H1
                          have H' := Aside0.mk H
                          clear H
                          have hnb118 := NB374_368.out
                          have hnc118 := NB368_374.out
                          have hnb119 := NB374_369.out
                          have hnc119 := NB369_374.out
                          have hnb120 := NB374_378.out
                          have hnc120 := NB378_374.out
                          have hnb121 := NB374_383.out
                          have hnc121 := NB383_374.out
                          have hnb122 := NB374_384.out
                          have hnc122 := NB384_374.out
                          have hcz123_0 : w61.cell? ⟨gb374, 0, none⟩ = some (.int .i64 t371) := (blk_cell BK374.out 0).trans rfl
                          have hcz123_1 : w61.cell? ⟨gb374, 1, none⟩ = some (.int .i64 t372) := (blk_cell BK374.out 1).trans rfl
                          have hfz123_0 := blk_frozen BK374.out 0
                          have hfz123_1 := blk_frozen BK374.out 1
                          go_wp2_with (first | (go_at_call 17; (with_reducible refine (span_Has.calls t371 t372 (rd y391 x45_1) t397 _ A63.out).mono ?_); rintro e w124 ⟨rfl, hb⟩; have n0_ := Aside0.mk (Kd.R_below (by (with_reducible repeat (first | apply Kd.R_alloc | apply Kd.R_drewN | apply Kd.R_drew)); exact HO_43.out) hb); have n1_ := Aside0.mk (blk_below (g := gb368) (o := .cells #[.int .i64 a0_0, .int .i64 a0_1] 23 (0, 0)) (by (with_reducible repeat (first | refine blk_drewN ?_ _ | refine blk_drew ?_ | refine blk_alloc ?_ _)); exact BK368.out) hb); have n2_ := Aside0.mk (blk_below (g := gb369) (o := .cells #[.int .i64 a1_0, .int .i64 a1_1] 23 (0, 0)) (by (with_reducible repeat (first | refine blk_drewN ?_ _ | refine blk_drew ?_ | refine blk_alloc ?_ _)); exact BK369.out) hb); have n3_ := Aside0.mk (blk_below (g := gb374) (o := .cells #[.int .i64 t371, .int .i64 t372] 23 (0, 0)) (by (with_reducible repeat (first | refine blk_drewN ?_ _ | refine blk_drew ?_ | refine blk_alloc ?_ _)); exact BK374.out) hb); have n4_ := Aside0.mk (blk_below (g := gb378) (o := .cells #[.int .i64 t375, .int .i64 t376] 23 (0, 0)) (by (with_reducible repeat (first | refine blk_drewN ?_ _ | refine blk_drew ?_ | refine blk_alloc ?_ _)); exact BK378.out) hb); have n5_ := Aside0.mk (blk_below (g := gb383) (o := .cells #[.int .i64 t379, .int .i64 t380] 23 (0, 0)) (by (with_reducible repeat (first | refine blk_drewN ?_ _ | refine blk_drew ?_ | refine blk_alloc ?_ _)); exact BK383.out) hb); have n6_ := Aside0.mk (blk_below (g := gb384) (o := .cells #[.int .i64 t381, .int .i64 t382] 23 (0, 0)) (by (with_reducible repeat (first | refine blk_drewN ?_ _ | refine blk_drew ?_ | refine blk_alloc ?_ _)); exact BK384.out) hb); have n7_ := Aside0.mk (below_step (by repeat (first | (with_reducible first | exact HB.out | apply below_alloc | apply pw_below_drewN | apply below_drew1 | refine below_set ?_ GE368.out | refine below_set ?_ GE369.out | refine below_set ?_ GE374.out | refine below_set ?_ GE378.out | refine below_set ?_ GE383.out | refine below_set ?_ GE384.out) | exact HB.out)) hb); clear HO_43; clear BK368; clear BK369; clear BK374; clear BK378; clear BK383; clear BK384; clear HB; have HO_43 := n0_; have BK368 := n1_; have BK369 := n2_; have BK374 := n3_; have BK378 := n4_; have BK383 := n5_; have BK384 := n6_; have HB := n7_; clear n0_ n1_ n2_ n3_ n4_ n5_ n6_ n7_; (try clear hb); (try clear hb2); (try clear hk); (try clear hi)))
                          go_meet
                          case rel => exact ⟨_, (false), (by first | rfl | (simp; done) | (simp [*]; done)), H', ⟨by have := HK1.out; first | omega | exact Nat.le_refl _⟩, ⟨by (with_reducible repeat (first | apply Kd.R_alloc | apply Kd.R_drewN | apply Kd.R_drew)); exact HO_43.out⟩, ⟨by (with_reducible repeat (first | refine blk_drewN ?_ _ | refine blk_drew ?_ | refine blk_alloc ?_ _)); exact BK368.out⟩, ⟨by (with_reducible repeat (first | refine blk_drewN ?_ _ | refine blk_drew ?_ | refine blk_alloc ?_ _)); exact BK369.out⟩, ⟨by (with_reducible repeat (first | refine blk_drewN ?_ _ | refine blk_drew ?_ | refine blk_alloc ?_ _)); exact BK374.out⟩, ⟨by (with_reducible repeat (first | refine blk_drewN ?_ _ | refine blk_drew ?_ | refine blk_alloc ?_ _)); exact BK378.out⟩, ⟨by (with_reducible repeat (first | refine blk_drewN ?_ _ | refine blk_drew ?_ | refine blk_alloc ?_ _)); exact BK383.out⟩, ⟨by (with_reducible repeat (first | refine blk_drewN ?_ _ | refine blk_drew ?_ | refine blk_alloc ?_ _)); exact BK384.out⟩, ⟨by repeat (first | (with_reducible first | exact HB.out | apply below_alloc | apply pw_below_drewN | apply below_drew1 | refine below_set ?_ GE368.out | refine below_set ?_ GE369.out | refine below_set ?_ GE374.out | refine below_set ?_ GE378.out | refine below_set ?_ GE383.out | refine below_set ?_ GE384.out) | exact HB.out)⟩⟩
                  · replace c62 := Bool.eq_false_iff.mpr c62
                    subst c62
                    have H1 : (if t395 = true then (if (false != t396) = true then (mandolinelaw01_SpanBytes.j1 k1 a2 false t377 (rd y391 x45_1) t395 y391 (y391.length : Int) x45_1 true a0_0 a0_1 a1_0 a1_1 t371 t372 t375 t376 t379 t380 t381 t382) else (if t377 = true then ((span_Has.f t375 t376 (rd y391 x45_1)).bind fun t400 => (mandolinelaw01_SpanBytes.j1 k1 a2 false t377 (rd y391 x45_1) t395 y391 (y391.length : Int) x45_1 (t400 != true) a0_0 a0_1 a1_0 a1_1 t371 t372 t375 t376 t379 t380 t381 t382)) else (mandolinelaw01_SpanBytes.j1 k1 a2 false t377 (rd y391 x45_1) t395 y391 (y391.length : Int) x45_1 false a0_0 a0_1 a1_0 a1_1 t371 t372 t375 t376 t379 t380 t381 t382))) else (if t377 = true then ((span_Has.f t375 t376 (rd y391 x45_1)).bind fun t401 => (mandolinelaw01_SpanBytes.j1 k1 a2 false t377 (rd y391 x45_1) t395 y391 (y391.length : Int) x45_1 (t401 != t396) a0_0 a0_1 a1_0 a1_1 t371 t372 t375 t376 t379 t380 t381 t382)) else (mandolinelaw01_SpanBytes.j1 k1 a2 false t377 (rd y391 x45_1) t395 y391 (y391.length : Int) x45_1 false a0_0 a0_1 a1_0 a1_1 t371 t372 t375 t376 t379 t380 t381 t382))) = some r := by rw [if_neg (show ¬ (false = true) by decide)] at H; exact H
                    clear H
                    have H := H1
                    clear H1
                    by_cases c125 : t395 = true
                    · subst c125
                      have H1 : (if (false != t396) = true then (mandolinelaw01_SpanBytes.j1 k1 a2 false t377 (rd y391 x45_1) true y391 (y391.length : Int) x45_1 true a0_0 a0_1 a1_0 a1_1 t371 t372 t375 t376 t379 t380 t381 t382) else (if t377 = true then ((span_Has.f t375 t376 (rd y391 x45_1)).bind fun t400 => (mandolinelaw01_SpanBytes.j1 k1 a2 false t377 (rd y391 x45_1) true y391 (y391.length : Int) x45_1 (t400 != true) a0_0 a0_1 a1_0 a1_1 t371 t372 t375 t376 t379 t380 t381 t382)) else (mandolinelaw01_SpanBytes.j1 k1 a2 false t377 (rd y391 x45_1) true y391 (y391.length : Int) x45_1 false a0_0 a0_1 a1_0 a1_1 t371 t372 t375 t376 t379 t380 t381 t382))) = some r := by rw [if_pos rfl] at H; exact H
                      clear H
                      have H := H1
                      clear H1
                      by_cases c126 : (false != t396) = true
                      · rw [if_pos c126] at H
                        have c126b0 : (false != t396) = true := c126
                        (try (have c126b1 : decide (false = t396) = false := by first | (simp at c126; done) | simpa using c126))
                        (try (have c126b2 : (false == t396) = false := by first | (simp at c126; done) | simpa using c126))
                        (try (have c126b3 : ¬ (false = t396) := by first | (simp at c126; done) | simpa using c126))
                        clear c126
                        have H' := Aside0.mk H
                        clear H
                        go_wp2
                        go_meet
                        case rel => exact ⟨_, (true), (by first | rfl | (simp; done) | (simp [*]; done)), H', ⟨by have := HK1.out; first | omega | exact Nat.le_refl _⟩, ⟨by (with_reducible repeat (first | apply Kd.R_alloc | apply Kd.R_drewN | apply Kd.R_drew)); exact HO_43.out⟩, ⟨by (with_reducible repeat (first | refine blk_drewN ?_ _ | refine blk_drew ?_ | refine blk_alloc ?_ _)); exact BK368.out⟩, ⟨by (with_reducible repeat (first | refine blk_drewN ?_ _ | refine blk_drew ?_ | refine blk_alloc ?_ _)); exact BK369.out⟩, ⟨by (with_reducible repeat (first | refine blk_drewN ?_ _ | refine blk_drew ?_ | refine blk_alloc ?_ _)); exact BK374.out⟩, ⟨by (with_reducible repeat (first | refine blk_drewN ?_ _ | refine blk_drew ?_ | refine blk_alloc ?_ _)); exact BK378.out⟩, ⟨by (with_reducible repeat (first | refine blk_drewN ?_ _ | refine blk_drew ?_ | refine blk_alloc ?_ _)); exact BK383.out⟩, ⟨by (with_reducible repeat (first | refine blk_drewN ?_ _ | refine blk_drew ?_ | refine blk_alloc ?_ _)); exact BK384.out⟩, ⟨by repeat (first | (with_reducible first | exact HB.out | apply below_alloc | apply pw_below_drewN | apply below_drew1 | refine below_set ?_ GE368.out | refine below_set ?_ GE369.out | refine below_set ?_ GE374.out | refine below_set ?_ GE378.out | refine below_set ?_ GE383.out | refine below_set ?_ GE384.out) | exact HB.out)⟩⟩
                      · rw [if_neg c126] at H
                        have c126b0 : (false != t396) = false := by first | (simp at c126; done) | simpa using c126
                        (try (have c126b1 : decide (false = t396) = true := by first | (simp at c126; done) | simpa using c126))
                        (try (have c126b2 : (false == t396) = true := by first | (simp at c126; done) | simpa using c126))
                        clear c126
                        by_cases c127 : t377 = true
                        · subst c127
                          have H1 : ((span_Has.f t375 t376 (rd y391 x45_1)).bind fun t400 => (mandolinelaw01_SpanBytes.j1 k1 a2 false true (rd y391 x45_1) true y391 (y391.length : Int) x45_1 (t400 != true) a0_0 a0_1 a1_0 a1_1 t371 t372 t375 t376 t379 t380 t381 t382)) = some r := by rw [if_pos rfl] at H; exact H
                          clear H
                          have H := H1
                          clear H1
                          replace H := Option.bind_eq_some_iff.mp H
                          obtain ⟨t400, A1280, H⟩ := H
                          replace H : (mandolinelaw01_SpanBytes.j1 k1 a2 false true (rd y391 x45_1) true y391 (y391.length : Int) x45_1 (t400 != true) a0_0 a0_1 a1_0 a1_1 t371 t372 t375 t376 t379 t380 t381 t382) = some r := H
                          have A128 := Aside0.mk A1280
                          clear A1280
                          have H' := Aside0.mk H
                          clear H
                          have hnb129 := NB378_368.out
                          have hnc129 := NB368_378.out
                          have hnb130 := NB378_369.out
                          have hnc130 := NB369_378.out
                          have hnb131 := NB378_374.out
                          have hnc131 := NB374_378.out
                          have hnb132 := NB378_383.out
                          have hnc132 := NB383_378.out
                          have hnb133 := NB378_384.out
                          have hnc133 := NB384_378.out
                          have hcz134_0 : w61.cell? ⟨gb378, 0, none⟩ = some (.int .i64 t375) := (blk_cell BK378.out 0).trans rfl
                          have hcz134_1 : w61.cell? ⟨gb378, 1, none⟩ = some (.int .i64 t376) := (blk_cell BK378.out 1).trans rfl
                          have hfz134_0 := blk_frozen BK378.out 0
                          have hfz134_1 := blk_frozen BK378.out 1
                          go_wp2_with (first | (go_at_call 17; (with_reducible refine (span_Has.calls t375 t376 (rd y391 x45_1) t400 _ A128.out).mono ?_); rintro e w135 ⟨rfl, hb⟩; have n0_ := Aside0.mk (Kd.R_below (by (with_reducible repeat (first | apply Kd.R_alloc | apply Kd.R_drewN | apply Kd.R_drew)); exact HO_43.out) hb); have n1_ := Aside0.mk (blk_below (g := gb368) (o := .cells #[.int .i64 a0_0, .int .i64 a0_1] 23 (0, 0)) (by (with_reducible repeat (first | refine blk_drewN ?_ _ | refine blk_drew ?_ | refine blk_alloc ?_ _)); exact BK368.out) hb); have n2_ := Aside0.mk (blk_below (g := gb369) (o := .cells #[.int .i64 a1_0, .int .i64 a1_1] 23 (0, 0)) (by (with_reducible repeat (first | refine blk_drewN ?_ _ | refine blk_drew ?_ | refine blk_alloc ?_ _)); exact BK369.out) hb); have n3_ := Aside0.mk (blk_below (g := gb374) (o := .cells #[.int .i64 t371, .int .i64 t372] 23 (0, 0)) (by (with_reducible repeat (first | refine blk_drewN ?_ _ | refine blk_drew ?_ | refine blk_alloc ?_ _)); exact BK374.out) hb); have n4_ := Aside0.mk (blk_below (g := gb378) (o := .cells #[.int .i64 t375, .int .i64 t376] 23 (0, 0)) (by (with_reducible repeat (first | refine blk_drewN ?_ _ | refine blk_drew ?_ | refine blk_alloc ?_ _)); exact BK378.out) hb); have n5_ := Aside0.mk (blk_below (g := gb383) (o := .cells #[.int .i64 t379, .int .i64 t380] 23 (0, 0)) (by (with_reducible repeat (first | refine blk_drewN ?_ _ | refine blk_drew ?_ | refine blk_alloc ?_ _)); exact BK383.out) hb); have n6_ := Aside0.mk (blk_below (g := gb384) (o := .cells #[.int .i64 t381, .int .i64 t382] 23 (0, 0)) (by (with_reducible repeat (first | refine blk_drewN ?_ _ | refine blk_drew ?_ | refine blk_alloc ?_ _)); exact BK384.out) hb); have n7_ := Aside0.mk (below_step (by repeat (first | (with_reducible first | exact HB.out | apply below_alloc | apply pw_below_drewN | apply below_drew1 | refine below_set ?_ GE368.out | refine below_set ?_ GE369.out | refine below_set ?_ GE374.out | refine below_set ?_ GE378.out | refine below_set ?_ GE383.out | refine below_set ?_ GE384.out) | exact HB.out)) hb); clear HO_43; clear BK368; clear BK369; clear BK374; clear BK378; clear BK383; clear BK384; clear HB; have HO_43 := n0_; have BK368 := n1_; have BK369 := n2_; have BK374 := n3_; have BK378 := n4_; have BK383 := n5_; have BK384 := n6_; have HB := n7_; clear n0_ n1_ n2_ n3_ n4_ n5_ n6_ n7_; (try clear hb); (try clear hb2); (try clear hk); (try clear hi)))
                          go_meet
                          case rel => exact ⟨_, ((t400 != true)), (by first | rfl | (simp; done) | (simp [*]; done)), H', ⟨by have := HK1.out; first | omega | exact Nat.le_refl _⟩, ⟨by (with_reducible repeat (first | apply Kd.R_alloc | apply Kd.R_drewN | apply Kd.R_drew)); exact HO_43.out⟩, ⟨by (with_reducible repeat (first | refine blk_drewN ?_ _ | refine blk_drew ?_ | refine blk_alloc ?_ _)); exact BK368.out⟩, ⟨by (with_reducible repeat (first | refine blk_drewN ?_ _ | refine blk_drew ?_ | refine blk_alloc ?_ _)); exact BK369.out⟩, ⟨by (with_reducible repeat (first | refine blk_drewN ?_ _ | refine blk_drew ?_ | refine blk_alloc ?_ _)); exact BK374.out⟩, ⟨by (with_reducible repeat (first | refine blk_drewN ?_ _ | refine blk_drew ?_ | refine blk_alloc ?_ _)); exact BK378.out⟩, ⟨by (with_reducible repeat (first | refine blk_drewN ?_ _ | refine blk_drew ?_ | refine blk_alloc ?_ _)); exact BK383.out⟩, ⟨by (with_reducible repeat (first | refine blk_drewN ?_ _ | refine blk_drew ?_ | refine blk_alloc ?_ _)); exact BK384.out⟩, ⟨by repeat (first | (with_reducible first | exact HB.out | apply below_alloc | apply pw_below_drewN | apply below_drew1 | refine below_set ?_ GE368.out | refine below_set ?_ GE369.out | refine below_set ?_ GE374.out | refine below_set ?_ GE378.out | refine below_set ?_ GE383.out | refine below_set ?_ GE384.out) | exact HB.out)⟩⟩
                        · replace c127 := Bool.eq_false_iff.mpr c127
                          subst c127
                          have H1 : (mandolinelaw01_SpanBytes.j1 k1 a2 false false (rd y391 x45_1) true y391 (y391.length : Int) x45_1 false a0_0 a0_1 a1_0 a1_1 t371 t372 t375 t376 t379 t380 t381 t382) = some r := by rw [if_neg (show ¬ (false = true) by decide)] at H; exact H
                          clear H
                          have H := H1
                          clear H1
                          have H' := Aside0.mk H
                          clear H
                          go_wp2
                          go_meet
                          case rel => exact ⟨_, (false), (by first | rfl | (simp; done) | (simp [*]; done)), H', ⟨by have := HK1.out; first | omega | exact Nat.le_refl _⟩, ⟨by (with_reducible repeat (first | apply Kd.R_alloc | apply Kd.R_drewN | apply Kd.R_drew)); exact HO_43.out⟩, ⟨by (with_reducible repeat (first | refine blk_drewN ?_ _ | refine blk_drew ?_ | refine blk_alloc ?_ _)); exact BK368.out⟩, ⟨by (with_reducible repeat (first | refine blk_drewN ?_ _ | refine blk_drew ?_ | refine blk_alloc ?_ _)); exact BK369.out⟩, ⟨by (with_reducible repeat (first | refine blk_drewN ?_ _ | refine blk_drew ?_ | refine blk_alloc ?_ _)); exact BK374.out⟩, ⟨by (with_reducible repeat (first | refine blk_drewN ?_ _ | refine blk_drew ?_ | refine blk_alloc ?_ _)); exact BK378.out⟩, ⟨by (with_reducible repeat (first | refine blk_drewN ?_ _ | refine blk_drew ?_ | refine blk_alloc ?_ _)); exact BK383.out⟩, ⟨by (with_reducible repeat (first | refine blk_drewN ?_ _ | refine blk_drew ?_ | refine blk_alloc ?_ _)); exact BK384.out⟩, ⟨by repeat (first | (with_reducible first | exact HB.out | apply below_alloc | apply pw_below_drewN | apply below_drew1 | refine below_set ?_ GE368.out | refine below_set ?_ GE369.out | refine below_set ?_ GE374.out | refine below_set ?_ GE378.out | refine below_set ?_ GE383.out | refine below_set ?_ GE384.out) | exact HB.out)⟩⟩
                    · replace c125 := Bool.eq_false_iff.mpr c125
                      subst c125
                      have H1 : (if t377 = true then ((span_Has.f t375 t376 (rd y391 x45_1)).bind fun t401 => (mandolinelaw01_SpanBytes.j1 k1 a2 false t377 (rd y391 x45_1) false y391 (y391.length : Int) x45_1 (t401 != t396) a0_0 a0_1 a1_0 a1_1 t371 t372 t375 t376 t379 t380 t381 t382)) else (mandolinelaw01_SpanBytes.j1 k1 a2 false t377 (rd y391 x45_1) false y391 (y391.length : Int) x45_1 false a0_0 a0_1 a1_0 a1_1 t371 t372 t375 t376 t379 t380 t381 t382)) = some r := by rw [if_neg (show ¬ (false = true) by decide)] at H; exact H
                      clear H
                      have H := H1
                      clear H1
                      by_cases c136 : t377 = true
                      · subst c136
                        have H1 : ((span_Has.f t375 t376 (rd y391 x45_1)).bind fun t401 => (mandolinelaw01_SpanBytes.j1 k1 a2 false true (rd y391 x45_1) false y391 (y391.length : Int) x45_1 (t401 != t396) a0_0 a0_1 a1_0 a1_1 t371 t372 t375 t376 t379 t380 t381 t382)) = some r := by rw [if_pos rfl] at H; exact H
                        clear H
                        have H := H1
                        clear H1
                        replace H := Option.bind_eq_some_iff.mp H
                        obtain ⟨t401, A1370, H⟩ := H
                        replace H : (mandolinelaw01_SpanBytes.j1 k1 a2 false true (rd y391 x45_1) false y391 (y391.length : Int) x45_1 (t401 != t396) a0_0 a0_1 a1_0 a1_1 t371 t372 t375 t376 t379 t380 t381 t382) = some r := H
                        have A137 := Aside0.mk A1370
                        clear A1370
                        have H' := Aside0.mk H
                        clear H
                        have hnb138 := NB378_368.out
                        have hnc138 := NB368_378.out
                        have hnb139 := NB378_369.out
                        have hnc139 := NB369_378.out
                        have hnb140 := NB378_374.out
                        have hnc140 := NB374_378.out
                        have hnb141 := NB378_383.out
                        have hnc141 := NB383_378.out
                        have hnb142 := NB378_384.out
                        have hnc142 := NB384_378.out
                        have hcz143_0 : w61.cell? ⟨gb378, 0, none⟩ = some (.int .i64 t375) := (blk_cell BK378.out 0).trans rfl
                        have hcz143_1 : w61.cell? ⟨gb378, 1, none⟩ = some (.int .i64 t376) := (blk_cell BK378.out 1).trans rfl
                        have hfz143_0 := blk_frozen BK378.out 0
                        have hfz143_1 := blk_frozen BK378.out 1
                        go_wp2_with (first | (go_at_call 17; (with_reducible refine (span_Has.calls t375 t376 (rd y391 x45_1) t401 _ A137.out).mono ?_); rintro e w144 ⟨rfl, hb⟩; have n0_ := Aside0.mk (Kd.R_below (by (with_reducible repeat (first | apply Kd.R_alloc | apply Kd.R_drewN | apply Kd.R_drew)); exact HO_43.out) hb); have n1_ := Aside0.mk (blk_below (g := gb368) (o := .cells #[.int .i64 a0_0, .int .i64 a0_1] 23 (0, 0)) (by (with_reducible repeat (first | refine blk_drewN ?_ _ | refine blk_drew ?_ | refine blk_alloc ?_ _)); exact BK368.out) hb); have n2_ := Aside0.mk (blk_below (g := gb369) (o := .cells #[.int .i64 a1_0, .int .i64 a1_1] 23 (0, 0)) (by (with_reducible repeat (first | refine blk_drewN ?_ _ | refine blk_drew ?_ | refine blk_alloc ?_ _)); exact BK369.out) hb); have n3_ := Aside0.mk (blk_below (g := gb374) (o := .cells #[.int .i64 t371, .int .i64 t372] 23 (0, 0)) (by (with_reducible repeat (first | refine blk_drewN ?_ _ | refine blk_drew ?_ | refine blk_alloc ?_ _)); exact BK374.out) hb); have n4_ := Aside0.mk (blk_below (g := gb378) (o := .cells #[.int .i64 t375, .int .i64 t376] 23 (0, 0)) (by (with_reducible repeat (first | refine blk_drewN ?_ _ | refine blk_drew ?_ | refine blk_alloc ?_ _)); exact BK378.out) hb); have n5_ := Aside0.mk (blk_below (g := gb383) (o := .cells #[.int .i64 t379, .int .i64 t380] 23 (0, 0)) (by (with_reducible repeat (first | refine blk_drewN ?_ _ | refine blk_drew ?_ | refine blk_alloc ?_ _)); exact BK383.out) hb); have n6_ := Aside0.mk (blk_below (g := gb384) (o := .cells #[.int .i64 t381, .int .i64 t382] 23 (0, 0)) (by (with_reducible repeat (first | refine blk_drewN ?_ _ | refine blk_drew ?_ | refine blk_alloc ?_ _)); exact BK384.out) hb); have n7_ := Aside0.mk (below_step (by repeat (first | (with_reducible first | exact HB.out | apply below_alloc | apply pw_below_drewN | apply below_drew1 | refine below_set ?_ GE368.out | refine below_set ?_ GE369.out | refine below_set ?_ GE374.out | refine below_set ?_ GE378.out | refine below_set ?_ GE383.out | refine below_set ?_ GE384.out) | exact HB.out)) hb); clear HO_43; clear BK368; clear BK369; clear BK374; clear BK378; clear BK383; clear BK384; clear HB; have HO_43 := n0_; have BK368 := n1_; have BK369 := n2_; have BK374 := n3_; have BK378 := n4_; have BK383 := n5_; have BK384 := n6_; have HB := n7_; clear n0_ n1_ n2_ n3_ n4_ n5_ n6_ n7_; (try clear hb); (try clear hb2); (try clear hk); (try clear hi)))
                        go_meet
                        case rel => exact ⟨_, ((t401 != t396)), (by first | rfl | (simp; done) | (simp [*]; done)), H', ⟨by have := HK1.out; first | omega | exact Nat.le_refl _⟩, ⟨by (with_reducible repeat (first | apply Kd.R_alloc | apply Kd.R_drewN | apply Kd.R_drew)); exact HO_43.out⟩, ⟨by (with_reducible repeat (first | refine blk_drewN ?_ _ | refine blk_drew ?_ | refine blk_alloc ?_ _)); exact BK368.out⟩, ⟨by (with_reducible repeat (first | refine blk_drewN ?_ _ | refine blk_drew ?_ | refine blk_alloc ?_ _)); exact BK369.out⟩, ⟨by (with_reducible repeat (first | refine blk_drewN ?_ _ | refine blk_drew ?_ | refine blk_alloc ?_ _)); exact BK374.out⟩, ⟨by (with_reducible repeat (first | refine blk_drewN ?_ _ | refine blk_drew ?_ | refine blk_alloc ?_ _)); exact BK378.out⟩, ⟨by (with_reducible repeat (first | refine blk_drewN ?_ _ | refine blk_drew ?_ | refine blk_alloc ?_ _)); exact BK383.out⟩, ⟨by (with_reducible repeat (first | refine blk_drewN ?_ _ | refine blk_drew ?_ | refine blk_alloc ?_ _)); exact BK384.out⟩, ⟨by repeat (first | (with_reducible first | exact HB.out | apply below_alloc | apply pw_below_drewN | apply below_drew1 | refine below_set ?_ GE368.out | refine below_set ?_ GE369.out | refine below_set ?_ GE374.out | refine below_set ?_ GE378.out | refine below_set ?_ GE383.out | refine below_set ?_ GE384.out) | exact HB.out)⟩⟩
                      · replace c136 := Bool.eq_false_iff.mpr c136
                        subst c136
                        have H1 : (mandolinelaw01_SpanBytes.j1 k1 a2 false false (rd y391 x45_1) false y391 (y391.length : Int) x45_1 false a0_0 a0_1 a1_0 a1_1 t371 t372 t375 t376 t379 t380 t381 t382) = some r := by rw [if_neg (show ¬ (false = true) by decide)] at H; exact H
                        clear H
                        have H := H1
                        clear H1
                        have H' := Aside0.mk H
                        clear H
                        go_wp2
                        go_meet
                        case rel => exact ⟨_, (false), (by first | rfl | (simp; done) | (simp [*]; done)), H', ⟨by have := HK1.out; first | omega | exact Nat.le_refl _⟩, ⟨by (with_reducible repeat (first | apply Kd.R_alloc | apply Kd.R_drewN | apply Kd.R_drew)); exact HO_43.out⟩, ⟨by (with_reducible repeat (first | refine blk_drewN ?_ _ | refine blk_drew ?_ | refine blk_alloc ?_ _)); exact BK368.out⟩, ⟨by (with_reducible repeat (first | refine blk_drewN ?_ _ | refine blk_drew ?_ | refine blk_alloc ?_ _)); exact BK369.out⟩, ⟨by (with_reducible repeat (first | refine blk_drewN ?_ _ | refine blk_drew ?_ | refine blk_alloc ?_ _)); exact BK374.out⟩, ⟨by (with_reducible repeat (first | refine blk_drewN ?_ _ | refine blk_drew ?_ | refine blk_alloc ?_ _)); exact BK378.out⟩, ⟨by (with_reducible repeat (first | refine blk_drewN ?_ _ | refine blk_drew ?_ | refine blk_alloc ?_ _)); exact BK383.out⟩, ⟨by (with_reducible repeat (first | refine blk_drewN ?_ _ | refine blk_drew ?_ | refine blk_alloc ?_ _)); exact BK384.out⟩, ⟨by repeat (first | (with_reducible first | exact HB.out | apply below_alloc | apply pw_below_drewN | apply below_drew1 | refine below_set ?_ GE368.out | refine below_set ?_ GE369.out | refine below_set ?_ GE374.out | refine below_set ?_ GE378.out | refine below_set ?_ GE383.out | refine below_set ?_ GE384.out) | exact HB.out)⟩⟩
                case rest =>
                  clear HC58
                  try clear c1
                  try clear c2
                  try clear p2
                  try clear c3
                  try clear p3
                  try clear q3
                  try clear hx3
                  try clear c4
                  try clear c5
                  try clear c6
                  try clear c7
                  try clear c8
                  try clear c9
                  try clear c10
                  try clear c11
                  try clear c12
                  try clear c13
                  try clear c14
                  try clear c17
                  try clear c19
                  try clear c20
                  try clear c23
                  try clear c26
                  try clear c27
                  try clear c28
                  try clear c34
                  try clear c35
                  try clear c36
                  try clear c37
                  try clear c38
                  try clear p39
                  try clear q39
                  try clear hx39
                  try clear c40
                  try clear c41
                  try clear c42
                  try clear c43
                  try clear c53
                  try clear c53b0
                  try clear c54
                  try clear c54b0
                  try clear c55
                  try clear c55b0
                  try clear c62
                  try clear c64
                  try clear c65
                  try clear c65b0
                  try clear c65b1
                  try clear c65b2
                  try clear c66
                  try clear c67
                  try clear c68
                  try clear c69
                  try clear c70
                  try clear c73
                  try clear c75
                  try clear c76
                  try clear c77
                  try clear c78
                  try clear c79
                  try clear c82
                  try clear c83
                  try clear c84
                  try clear c85
                  try clear c88
                  try clear c89
                  try clear c90
                  try clear c91
                  try clear c92
                  try clear c95
                  try clear c95b0
                  try clear c95b1
                  try clear c95b2
                  try clear c96
                  try clear c97
                  try clear c98
                  try clear c99
                  try clear c100
                  try clear c103
                  try clear c105
                  try clear c106
                  try clear c107
                  try clear c108
                  try clear c109
                  try clear c112
                  try clear c113
                  try clear c114
                  try clear c115
                  try clear c118
                  try clear c119
                  try clear c120
                  try clear c121
                  try clear c122
                  try clear c125
                  try clear c126
                  try clear c126b0
                  try clear c126b1
                  try clear c126b2
                  try clear c127
                  try clear c129
                  try clear c130
                  try clear c131
                  try clear c132
                  try clear c133
                  try clear c136
                  try clear c138
                  try clear c139
                  try clear c140
                  try clear c141
                  try clear c142
                  try clear hcz101_0
                  try clear hcz101_1
                  try clear hcz110_0
                  try clear hcz110_1
                  try clear hcz116_0
                  try clear hcz116_1
                  try clear hcz123_0
                  try clear hcz123_1
                  try clear hcz134_0
                  try clear hcz134_1
                  try clear hcz143_0
                  try clear hcz143_1
                  try clear hcz15_0
                  try clear hcz15_1
                  try clear hcz16_0
                  try clear hcz16_1
                  try clear hcz21_0
                  try clear hcz21_1
                  try clear hcz22_0
                  try clear hcz22_1
                  try clear hcz23_0
                  try clear hcz23_1
                  try clear hcz29_0
                  try clear hcz29_1
                  try clear hcz30_0
                  try clear hcz30_1
                  try clear hcz39_0
                  try clear hcz39_1
                  try clear hcz44_0
                  try clear hcz44_1
                  try clear hcz45_0
                  try clear hcz45_1
                  try clear hcz46_0
                  try clear hcz46_1
                  try clear hcz71_0
                  try clear hcz71_1
                  try clear hcz80_0
                  try clear hcz80_1
                  try clear hcz86_0
                  try clear hcz86_1
                  try clear hcz93_0
                  try clear hcz93_1
                  try clear hfz101_0
                  try clear hfz101_1
                  try clear hfz110_0
                  try clear hfz110_1
                  try clear hfz116_0
                  try clear hfz116_1
                  try clear hfz123_0
                  try clear hfz123_1
                  try clear hfz134_0
                  try clear hfz134_1
                  try clear hfz143_0
                  try clear hfz143_1
                  try clear hfz15_0
                  try clear hfz15_1
                  try clear hfz16_0
                  try clear hfz16_1
                  try clear hfz21_0
                  try clear hfz21_1
                  try clear hfz22_0
                  try clear hfz22_1
                  try clear hfz23_0
                  try clear hfz23_1
                  try clear hfz29_0
                  try clear hfz29_1
                  try clear hfz30_0
                  try clear hfz30_1
                  try clear hfz39_0
                  try clear hfz39_1
                  try clear hfz44_0
                  try clear hfz44_1
                  try clear hfz45_0
                  try clear hfz45_1
                  try clear hfz46_0
                  try clear hfz46_1
                  try clear hfz71_0
                  try clear hfz71_1
                  try clear hfz80_0
                  try clear hfz80_1
                  try clear hfz86_0
                  try clear hfz86_1
                  try clear hfz93_0
                  try clear hfz93_1
                  try clear hx394_0
                  try clear p2
                  try clear p394
                  try clear q394
                  obtain ⟨kq, x78_57, rfl, HA, HJ57, HO_43, BK368, BK369, BK374, BK378, BK383, BK384, HB⟩ := hcut
                  cases kq with
                  | zero => exact absurd HA.out (by simp [mandolinelaw01_SpanBytes.j1])
                  | succ kj57 =>
                    have H := HA.out
                    clear HA
                    simp only [mandolinelaw01_SpanBytes.j1] at H
                    by_cases c145 : x78_57 = true
                    · subst c145
                      have H1 : (some false) = some r := by rw [if_pos rfl] at H; exact H
                      clear H
                      have H := H1
                      clear H1
                      obtain rfl := Option.some.inj H
                      go_wp2
                      go_ret
                      exact ⟨by first | rfl | (simp [errW_none, errW_some] <;> rfl) | (simp [*, errW_none, errW_some] <;> rfl), by repeat (first | (with_reducible first | exact HB.out | apply below_alloc | apply pw_below_drewN | apply below_drew1 | refine below_set ?_ GE368.out | refine below_set ?_ GE369.out | refine below_set ?_ GE374.out | refine below_set ?_ GE378.out | refine below_set ?_ GE383.out | refine below_set ?_ GE384.out) | exact HB.out)⟩
                    · replace c145 := Bool.eq_false_iff.mpr c145
                      subst c145
                      have H1 : ((span_Has.f t379 t380 (rd y391 x45_1)).bind fun t402 => (if t395 = true then (if (t402 != (decide ((rd y391 x45_1) < a2))) = true then (some false) else ((span_Has.f t381 t382 (rd y391 x45_1)).bind fun t403 => (if (t403 != (decide ((rd y391 x45_1) ≥ a2))) = true then (some false) else (mandolinelaw01_SpanBytes.l0 kj57 a2 t373 t377 y391 (y391.length : Int) (wrap64 (x45_1 + 1)) a0_0 a0_1 a1_0 a1_1 t371 t372 t375 t376 t379 t380 t381 t382)))) else (if (t402 != false) = true then (some false) else ((span_Has.f t381 t382 (rd y391 x45_1)).bind fun t404 => (if (t404 != false) = true then (some false) else (mandolinelaw01_SpanBytes.l0 kj57 a2 t373 t377 y391 (y391.length : Int) (wrap64 (x45_1 + 1)) a0_0 a0_1 a1_0 a1_1 t371 t372 t375 t376 t379 t380 t381 t382)))))) = some r := by rw [if_neg (show ¬ (false = true) by decide)] at H; exact H
                      clear H
                      have H := H1
                      clear H1
                      replace H := Option.bind_eq_some_iff.mp H
                      obtain ⟨t402, A1460, H⟩ := H
                      replace H : (if t395 = true then (if (t402 != (decide ((rd y391 x45_1) < a2))) = true then (some false) else ((span_Has.f t381 t382 (rd y391 x45_1)).bind fun t403 => (if (t403 != (decide ((rd y391 x45_1) ≥ a2))) = true then (some false) else (mandolinelaw01_SpanBytes.l0 kj57 a2 t373 t377 y391 (y391.length : Int) (wrap64 (x45_1 + 1)) a0_0 a0_1 a1_0 a1_1 t371 t372 t375 t376 t379 t380 t381 t382)))) else (if (t402 != false) = true then (some false) else ((span_Has.f t381 t382 (rd y391 x45_1)).bind fun t404 => (if (t404 != false) = true then (some false) else (mandolinelaw01_SpanBytes.l0 kj57 a2 t373 t377 y391 (y391.length : Int) (wrap64 (x45_1 + 1)) a0_0 a0_1 a1_0 a1_1 t371 t372 t375 t376 t379 t380 t381 t382))))) = some r := H
                      have A146 := Aside0.mk A1460
                      clear A1460
                      by_cases c147 : t395 = true
                      · subst c147
                        have H1 : (if (t402 != (decide ((rd y391 x45_1) < a2))) = true then (some false) else ((span_Has.f t381 t382 (rd y391 x45_1)).bind fun t403 => (if (t403 != (decide ((rd y391 x45_1) ≥ a2))) = true then (some false) else (mandolinelaw01_SpanBytes.l0 kj57 a2 t373 t377 y391 (y391.length : Int) (wrap64 (x45_1 + 1)) a0_0 a0_1 a1_0 a1_1 t371 t372 t375 t376 t379 t380 t381 t382)))) = some r := by rw [if_pos rfl] at H; exact H
                        clear H
                        have H := H1
                        clear H1
                        by_cases c148 : (t402 != (decide ((rd y391 x45_1) < a2))) = true
                        · rw [if_pos c148] at H
                          have c148b0 : (t402 != (decide ((rd y391 x45_1) < a2))) = true := c148
                          (try (have c148b1 : decide (t402 = (decide ((rd y391 x45_1) < a2))) = false := by first | (simp at c148; done) | simpa using c148))
                          (try (have c148b2 : (t402 == (decide ((rd y391 x45_1) < a2))) = false := by first | (simp at c148; done) | simpa using c148))
                          (try (have c148b3 : ¬ (t402 = (decide ((rd y391 x45_1) < a2))) := by first | (simp at c148; done) | simpa using c148))
                          clear c148
                          obtain rfl := Option.some.inj H
                          have hnb149 := NB383_368.out
                          have hnc149 := NB368_383.out
                          have hnb150 := NB383_369.out
                          have hnc150 := NB369_383.out
                          have hnb151 := NB383_374.out
                          have hnc151 := NB374_383.out
                          have hnb152 := NB383_378.out
                          have hnc152 := NB378_383.out
                          have hnb153 := NB383_384.out
                          have hnc153 := NB384_383.out
                          have hcz154_0 : wc.cell? ⟨gb383, 0, none⟩ = some (.int .i64 t379) := (blk_cell BK383.out 0).trans rfl
                          have hcz154_1 : wc.cell? ⟨gb383, 1, none⟩ = some (.int .i64 t380) := (blk_cell BK383.out 1).trans rfl
                          have hfz154_0 := blk_frozen BK383.out 0
                          have hfz154_1 := blk_frozen BK383.out 1
                          go_wp2_with (first | ((first | ((with_reducible refine gate_callee (f := 17) rfl ?_); refine goesL_ (some 81) rfl rfl Tryd.func17 (by kernel_rfl) rfl #[.agg #[.int .i64 t379, .int .i64 t380], .int .i64 (rd y391 x45_1)] rfl (by (try simp only [List.map_toArray, List.map_cons, List.map_nil]); first | done | rfl | (simp only [List.length_drop, List.length_take]; rfl)) ?_; (with_reducible refine (span_Has.calls t379 t380 (rd y391 x45_1) t402 _ A146.out).mono ?_); rintro e w155 ⟨rfl, hb⟩; refine ⟨_, rfl, ?_⟩) | (go_at_call 17; (with_reducible refine (span_Has.calls t379 t380 (rd y391 x45_1) t402 _ A146.out).mono ?_); rintro e w155 ⟨rfl, hb⟩)); have n0_ := Aside0.mk (Kd.R_below (by (with_reducible repeat (first | apply Kd.R_alloc | apply Kd.R_drewN | apply Kd.R_drew)); exact HO_43.out) hb); have n1_ := Aside0.mk (blk_below (g := gb368) (o := .cells #[.int .i64 a0_0, .int .i64 a0_1] 23 (0, 0)) (by (with_reducible repeat (first | refine blk_drewN ?_ _ | refine blk_drew ?_ | refine blk_alloc ?_ _)); exact BK368.out) hb); have n2_ := Aside0.mk (blk_below (g := gb369) (o := .cells #[.int .i64 a1_0, .int .i64 a1_1] 23 (0, 0)) (by (with_reducible repeat (first | refine blk_drewN ?_ _ | refine blk_drew ?_ | refine blk_alloc ?_ _)); exact BK369.out) hb); have n3_ := Aside0.mk (blk_below (g := gb374) (o := .cells #[.int .i64 t371, .int .i64 t372] 23 (0, 0)) (by (with_reducible repeat (first | refine blk_drewN ?_ _ | refine blk_drew ?_ | refine blk_alloc ?_ _)); exact BK374.out) hb); have n4_ := Aside0.mk (blk_below (g := gb378) (o := .cells #[.int .i64 t375, .int .i64 t376] 23 (0, 0)) (by (with_reducible repeat (first | refine blk_drewN ?_ _ | refine blk_drew ?_ | refine blk_alloc ?_ _)); exact BK378.out) hb); have n5_ := Aside0.mk (blk_below (g := gb383) (o := .cells #[.int .i64 t379, .int .i64 t380] 23 (0, 0)) (by (with_reducible repeat (first | refine blk_drewN ?_ _ | refine blk_drew ?_ | refine blk_alloc ?_ _)); exact BK383.out) hb); have n6_ := Aside0.mk (blk_below (g := gb384) (o := .cells #[.int .i64 t381, .int .i64 t382] 23 (0, 0)) (by (with_reducible repeat (first | refine blk_drewN ?_ _ | refine blk_drew ?_ | refine blk_alloc ?_ _)); exact BK384.out) hb); have n7_ := Aside0.mk (below_step (by repeat (first | (with_reducible first | exact HB.out | apply below_alloc | apply pw_below_drewN | apply below_drew1 | refine below_set ?_ GE368.out | refine below_set ?_ GE369.out | refine below_set ?_ GE374.out | refine below_set ?_ GE378.out | refine below_set ?_ GE383.out | refine below_set ?_ GE384.out) | exact HB.out)) hb); clear HO_43; clear BK368; clear BK369; clear BK374; clear BK378; clear BK383; clear BK384; clear HB; have HO_43 := n0_; have BK368 := n1_; have BK369 := n2_; have BK374 := n3_; have BK378 := n4_; have BK383 := n5_; have BK384 := n6_; have HB := n7_; clear n0_ n1_ n2_ n3_ n4_ n5_ n6_ n7_; (try clear hb); (try clear hb2); (try clear hk); (try clear hi)))
                          go_ret
                          exact ⟨by first | rfl | (simp [errW_none, errW_some] <;> rfl) | (simp [*, errW_none, errW_some] <;> rfl), by repeat (first | (with_reducible first | exact HB.out | apply below_alloc | apply pw_below_drewN | apply below_drew1 | refine below_set ?_ GE368.out | refine below_set ?_ GE369.out | refine below_set ?_ GE374.out | refine below_set ?_ GE378.out | refine below_set ?_ GE383.out | refine below_set ?_ GE384.out) | exact HB.out)⟩
                        · rw [if_neg c148] at H
                          have c148b0 : (t402 != (decide ((rd y391 x45_1) < a2))) = false := by first | (simp at c148; done) | simpa using c148
                          (try (have c148b1 : decide (t402 = (decide ((rd y391 x45_1) < a2))) = true := by first | (simp at c148; done) | simpa using c148))
                          (try (have c148b2 : (t402 == (decide ((rd y391 x45_1) < a2))) = true := by first | (simp at c148; done) | simpa using c148))
                          clear c148
                          replace H := Option.bind_eq_some_iff.mp H
                          obtain ⟨t403, A1560, H⟩ := H
                          replace H : (if (t403 != (decide ((rd y391 x45_1) ≥ a2))) = true then (some false) else (mandolinelaw01_SpanBytes.l0 kj57 a2 t373 t377 y391 (y391.length : Int) (wrap64 (x45_1 + 1)) a0_0 a0_1 a1_0 a1_1 t371 t372 t375 t376 t379 t380 t381 t382)) = some r := H
                          have A156 := Aside0.mk A1560
                          clear A1560
                          by_cases c157 : (t403 != (decide ((rd y391 x45_1) ≥ a2))) = true
                          · rw [if_pos c157] at H
                            have c157b0 : (t403 != (decide ((rd y391 x45_1) ≥ a2))) = true := c157
                            (try (have c157b1 : decide (t403 = (decide ((rd y391 x45_1) ≥ a2))) = false := by first | (simp at c157; done) | simpa using c157))
                            (try (have c157b2 : (t403 == (decide ((rd y391 x45_1) ≥ a2))) = false := by first | (simp at c157; done) | simpa using c157))
                            (try (have c157b3 : ¬ (t403 = (decide ((rd y391 x45_1) ≥ a2))) := by first | (simp at c157; done) | simpa using c157))
                            clear c157
                            obtain rfl := Option.some.inj H
                            have hnb158 := NB383_368.out
                            have hnc158 := NB368_383.out
                            have hnb159 := NB383_369.out
                            have hnc159 := NB369_383.out
                            have hnb160 := NB383_374.out
                            have hnc160 := NB374_383.out
                            have hnb161 := NB383_378.out
                            have hnc161 := NB378_383.out
                            have hnb162 := NB383_384.out
                            have hnc162 := NB384_383.out
                            have hcz163_0 : wc.cell? ⟨gb383, 0, none⟩ = some (.int .i64 t379) := (blk_cell BK383.out 0).trans rfl
                            have hcz163_1 : wc.cell? ⟨gb383, 1, none⟩ = some (.int .i64 t380) := (blk_cell BK383.out 1).trans rfl
                            have hfz163_0 := blk_frozen BK383.out 0
                            have hfz163_1 := blk_frozen BK383.out 1
                            go_wp2_with (first | ((first | ((with_reducible refine gate_callee (f := 17) rfl ?_); refine goesL_ (some 81) rfl rfl Tryd.func17 (by kernel_rfl) rfl #[.agg #[.int .i64 t379, .int .i64 t380], .int .i64 (rd y391 x45_1)] rfl (by (try simp only [List.map_toArray, List.map_cons, List.map_nil]); first | done | rfl | (simp only [List.length_drop, List.length_take]; rfl)) ?_; (with_reducible refine (span_Has.calls t379 t380 (rd y391 x45_1) t402 _ A146.out).mono ?_); rintro e w164 ⟨rfl, hb⟩; refine ⟨_, rfl, ?_⟩) | (go_at_call 17; (with_reducible refine (span_Has.calls t379 t380 (rd y391 x45_1) t402 _ A146.out).mono ?_); rintro e w164 ⟨rfl, hb⟩)); have n0_ := Aside0.mk (Kd.R_below (by (with_reducible repeat (first | apply Kd.R_alloc | apply Kd.R_drewN | apply Kd.R_drew)); exact HO_43.out) hb); have n1_ := Aside0.mk (blk_below (g := gb368) (o := .cells #[.int .i64 a0_0, .int .i64 a0_1] 23 (0, 0)) (by (with_reducible repeat (first | refine blk_drewN ?_ _ | refine blk_drew ?_ | refine blk_alloc ?_ _)); exact BK368.out) hb); have n2_ := Aside0.mk (blk_below (g := gb369) (o := .cells #[.int .i64 a1_0, .int .i64 a1_1] 23 (0, 0)) (by (with_reducible repeat (first | refine blk_drewN ?_ _ | refine blk_drew ?_ | refine blk_alloc ?_ _)); exact BK369.out) hb); have n3_ := Aside0.mk (blk_below (g := gb374) (o := .cells #[.int .i64 t371, .int .i64 t372] 23 (0, 0)) (by (with_reducible repeat (first | refine blk_drewN ?_ _ | refine blk_drew ?_ | refine blk_alloc ?_ _)); exact BK374.out) hb); have n4_ := Aside0.mk (blk_below (g := gb378) (o := .cells #[.int .i64 t375, .int .i64 t376] 23 (0, 0)) (by (with_reducible repeat (first | refine blk_drewN ?_ _ | refine blk_drew ?_ | refine blk_alloc ?_ _)); exact BK378.out) hb); have n5_ := Aside0.mk (blk_below (g := gb383) (o := .cells #[.int .i64 t379, .int .i64 t380] 23 (0, 0)) (by (with_reducible repeat (first | refine blk_drewN ?_ _ | refine blk_drew ?_ | refine blk_alloc ?_ _)); exact BK383.out) hb); have n6_ := Aside0.mk (blk_below (g := gb384) (o := .cells #[.int .i64 t381, .int .i64 t382] 23 (0, 0)) (by (with_reducible repeat (first | refine blk_drewN ?_ _ | refine blk_drew ?_ | refine blk_alloc ?_ _)); exact BK384.out) hb); have n7_ := Aside0.mk (below_step (by repeat (first | (with_reducible first | exact HB.out | apply below_alloc | apply pw_below_drewN | apply below_drew1 | refine below_set ?_ GE368.out | refine below_set ?_ GE369.out | refine below_set ?_ GE374.out | refine below_set ?_ GE378.out | refine below_set ?_ GE383.out | refine below_set ?_ GE384.out) | exact HB.out)) hb); clear HO_43; clear BK368; clear BK369; clear BK374; clear BK378; clear BK383; clear BK384; clear HB; have HO_43 := n0_; have BK368 := n1_; have BK369 := n2_; have BK374 := n3_; have BK378 := n4_; have BK383 := n5_; have BK384 := n6_; have HB := n7_; clear n0_ n1_ n2_ n3_ n4_ n5_ n6_ n7_; (try clear hb); (try clear hb2); (try clear hk); (try clear hi); have hnb165 := NB384_368.out; have hnc165 := NB368_384.out; have hnb166 := NB384_369.out; have hnc166 := NB369_384.out; have hnb167 := NB384_374.out; have hnc167 := NB374_384.out; have hnb168 := NB384_378.out; have hnc168 := NB378_384.out; have hcz169_0 : w164.cell? ⟨gb384, 0, none⟩ = some (.int .i64 t381) := (blk_cell BK384.out 0).trans rfl; have hcz169_1 : w164.cell? ⟨gb384, 1, none⟩ = some (.int .i64 t382) := (blk_cell BK384.out 1).trans rfl; have hfz169_0 := blk_frozen BK384.out 0; have hfz169_1 := blk_frozen BK384.out 1) | (go_at_call 17; (with_reducible refine (span_Has.calls t381 t382 (rd y391 x45_1) t403 _ A156.out).mono ?_); rintro e w170 ⟨rfl, hb⟩; have n0_ := Aside0.mk (Kd.R_below (by (with_reducible repeat (first | apply Kd.R_alloc | apply Kd.R_drewN | apply Kd.R_drew)); exact HO_43.out) hb); have n1_ := Aside0.mk (blk_below (g := gb368) (o := .cells #[.int .i64 a0_0, .int .i64 a0_1] 23 (0, 0)) (by (with_reducible repeat (first | refine blk_drewN ?_ _ | refine blk_drew ?_ | refine blk_alloc ?_ _)); exact BK368.out) hb); have n2_ := Aside0.mk (blk_below (g := gb369) (o := .cells #[.int .i64 a1_0, .int .i64 a1_1] 23 (0, 0)) (by (with_reducible repeat (first | refine blk_drewN ?_ _ | refine blk_drew ?_ | refine blk_alloc ?_ _)); exact BK369.out) hb); have n3_ := Aside0.mk (blk_below (g := gb374) (o := .cells #[.int .i64 t371, .int .i64 t372] 23 (0, 0)) (by (with_reducible repeat (first | refine blk_drewN ?_ _ | refine blk_drew ?_ | refine blk_alloc ?_ _)); exact BK374.out) hb); have n4_ := Aside0.mk (blk_below (g := gb378) (o := .cells #[.int .i64 t375, .int .i64 t376] 23 (0, 0)) (by (with_reducible repeat (first | refine blk_drewN ?_ _ | refine blk_drew ?_ | refine blk_alloc ?_ _)); exact BK378.out) hb); have n5_ := Aside0.mk (blk_below (g := gb383) (o := .cells #[.int .i64 t379, .int .i64 t380] 23 (0, 0)) (by (with_reducible repeat (first | refine blk_drewN ?_ _ | refine blk_drew ?_ | refine blk_alloc ?_ _)); exact BK383.out) hb); have n6_ := Aside0.mk (blk_below (g := gb384) (o := .cells #[.int .i64 t381, .int .i64 t382] 23 (0, 0)) (by (with_reducible repeat (first | refine blk_drewN ?_ _ | refine blk_drew ?_ | refine blk_alloc ?_ _)); exact BK384.out) hb); have n7_ := Aside0.mk (below_step (by repeat (first | (with_reducible first | exact HB.out | apply below_alloc | apply pw_below_drewN | apply below_drew1 | refine below_set ?_ GE368.out | refine below_set ?_ GE369.out | refine below_set ?_ GE374.out | refine below_set ?_ GE378.out | refine below_set ?_ GE383.out | refine below_set ?_ GE384.out) | exact HB.out)) hb); clear HO_43; clear BK368; clear BK369; clear BK374; clear BK378; clear BK383; clear BK384; clear HB; have HO_43 := n0_; have BK368 := n1_; have BK369 := n2_; have BK374 := n3_; have BK378 := n4_; have BK383 := n5_; have BK384 := n6_; have HB := n7_; clear n0_ n1_ n2_ n3_ n4_ n5_ n6_ n7_; (try clear hb); (try clear hb2); (try clear hk); (try clear hi)))
                            go_ret
                            exact ⟨by first | rfl | (simp [errW_none, errW_some] <;> rfl) | (simp [*, errW_none, errW_some] <;> rfl), by repeat (first | (with_reducible first | exact HB.out | apply below_alloc | apply pw_below_drewN | apply below_drew1 | refine below_set ?_ GE368.out | refine below_set ?_ GE369.out | refine below_set ?_ GE374.out | refine below_set ?_ GE378.out | refine below_set ?_ GE383.out | refine below_set ?_ GE384.out) | exact HB.out)⟩
                          · rw [if_neg c157] at H
                            have c157b0 : (t403 != (decide ((rd y391 x45_1) ≥ a2))) = false := by first | (simp at c157; done) | simpa using c157
                            (try (have c157b1 : decide (t403 = (decide ((rd y391 x45_1) ≥ a2))) = true := by first | (simp at c157; done) | simpa using c157))
                            (try (have c157b2 : (t403 == (decide ((rd y391 x45_1) ≥ a2))) = true := by first | (simp at c157; done) | simpa using c157))
                            clear c157
                            have H' := Aside0.mk H
                            clear H
                            have hnb171 := NB383_368.out
                            have hnc171 := NB368_383.out
                            have hnb172 := NB383_369.out
                            have hnc172 := NB369_383.out
                            have hnb173 := NB383_374.out
                            have hnc173 := NB374_383.out
                            have hnb174 := NB383_378.out
                            have hnc174 := NB378_383.out
                            have hnb175 := NB383_384.out
                            have hnc175 := NB384_383.out
                            have hcz176_0 : wc.cell? ⟨gb383, 0, none⟩ = some (.int .i64 t379) := (blk_cell BK383.out 0).trans rfl
                            have hcz176_1 : wc.cell? ⟨gb383, 1, none⟩ = some (.int .i64 t380) := (blk_cell BK383.out 1).trans rfl
                            have hfz176_0 := blk_frozen BK383.out 0
                            have hfz176_1 := blk_frozen BK383.out 1
                            go_wp2_with (first | ((first | ((with_reducible refine gate_callee (f := 17) rfl ?_); refine goesL_ (some 81) rfl rfl Tryd.func17 (by kernel_rfl) rfl #[.agg #[.int .i64 t379, .int .i64 t380], .int .i64 (rd y391 x45_1)] rfl (by (try simp only [List.map_toArray, List.map_cons, List.map_nil]); first | done | rfl | (simp only [List.length_drop, List.length_take]; rfl)) ?_; (with_reducible refine (span_Has.calls t379 t380 (rd y391 x45_1) t402 _ A146.out).mono ?_); rintro e w177 ⟨rfl, hb⟩; refine ⟨_, rfl, ?_⟩) | (go_at_call 17; (with_reducible refine (span_Has.calls t379 t380 (rd y391 x45_1) t402 _ A146.out).mono ?_); rintro e w177 ⟨rfl, hb⟩)); have n0_ := Aside0.mk (Kd.R_below (by (with_reducible repeat (first | apply Kd.R_alloc | apply Kd.R_drewN | apply Kd.R_drew)); exact HO_43.out) hb); have n1_ := Aside0.mk (blk_below (g := gb368) (o := .cells #[.int .i64 a0_0, .int .i64 a0_1] 23 (0, 0)) (by (with_reducible repeat (first | refine blk_drewN ?_ _ | refine blk_drew ?_ | refine blk_alloc ?_ _)); exact BK368.out) hb); have n2_ := Aside0.mk (blk_below (g := gb369) (o := .cells #[.int .i64 a1_0, .int .i64 a1_1] 23 (0, 0)) (by (with_reducible repeat (first | refine blk_drewN ?_ _ | refine blk_drew ?_ | refine blk_alloc ?_ _)); exact BK369.out) hb); have n3_ := Aside0.mk (blk_below (g := gb374) (o := .cells #[.int .i64 t371, .int .i64 t372] 23 (0, 0)) (by (with_reducible repeat (first | refine blk_drewN ?_ _ | refine blk_drew ?_ | refine blk_alloc ?_ _)); exact BK374.out) hb); have n4_ := Aside0.mk (blk_below (g := gb378) (o := .cells #[.int .i64 t375, .int .i64 t376] 23 (0, 0)) (by (with_reducible repeat (first | refine blk_drewN ?_ _ | refine blk_drew ?_ | refine blk_alloc ?_ _)); exact BK378.out) hb); have n5_ := Aside0.mk (blk_below (g := gb383) (o := .cells #[.int .i64 t379, .int .i64 t380] 23 (0, 0)) (by (with_reducible repeat (first | refine blk_drewN ?_ _ | refine blk_drew ?_ | refine blk_alloc ?_ _)); exact BK383.out) hb); have n6_ := Aside0.mk (blk_below (g := gb384) (o := .cells #[.int .i64 t381, .int .i64 t382] 23 (0, 0)) (by (with_reducible repeat (first | refine blk_drewN ?_ _ | refine blk_drew ?_ | refine blk_alloc ?_ _)); exact BK384.out) hb); have n7_ := Aside0.mk (below_step (by repeat (first | (with_reducible first | exact HB.out | apply below_alloc | apply pw_below_drewN | apply below_drew1 | refine below_set ?_ GE368.out | refine below_set ?_ GE369.out | refine below_set ?_ GE374.out | refine below_set ?_ GE378.out | refine below_set ?_ GE383.out | refine below_set ?_ GE384.out) | exact HB.out)) hb); clear HO_43; clear BK368; clear BK369; clear BK374; clear BK378; clear BK383; clear BK384; clear HB; have HO_43 := n0_; have BK368 := n1_; have BK369 := n2_; have BK374 := n3_; have BK378 := n4_; have BK383 := n5_; have BK384 := n6_; have HB := n7_; clear n0_ n1_ n2_ n3_ n4_ n5_ n6_ n7_; (try clear hb); (try clear hb2); (try clear hk); (try clear hi); have hnb178 := NB384_368.out; have hnc178 := NB368_384.out; have hnb179 := NB384_369.out; have hnc179 := NB369_384.out; have hnb180 := NB384_374.out; have hnc180 := NB374_384.out; have hnb181 := NB384_378.out; have hnc181 := NB378_384.out; have hcz182_0 : w177.cell? ⟨gb384, 0, none⟩ = some (.int .i64 t381) := (blk_cell BK384.out 0).trans rfl; have hcz182_1 : w177.cell? ⟨gb384, 1, none⟩ = some (.int .i64 t382) := (blk_cell BK384.out 1).trans rfl; have hfz182_0 := blk_frozen BK384.out 0; have hfz182_1 := blk_frozen BK384.out 1) | (go_at_call 17; (with_reducible refine (span_Has.calls t381 t382 (rd y391 x45_1) t403 _ A156.out).mono ?_); rintro e w183 ⟨rfl, hb⟩; have n0_ := Aside0.mk (Kd.R_below (by (with_reducible repeat (first | apply Kd.R_alloc | apply Kd.R_drewN | apply Kd.R_drew)); exact HO_43.out) hb); have n1_ := Aside0.mk (blk_below (g := gb368) (o := .cells #[.int .i64 a0_0, .int .i64 a0_1] 23 (0, 0)) (by (with_reducible repeat (first | refine blk_drewN ?_ _ | refine blk_drew ?_ | refine blk_alloc ?_ _)); exact BK368.out) hb); have n2_ := Aside0.mk (blk_below (g := gb369) (o := .cells #[.int .i64 a1_0, .int .i64 a1_1] 23 (0, 0)) (by (with_reducible repeat (first | refine blk_drewN ?_ _ | refine blk_drew ?_ | refine blk_alloc ?_ _)); exact BK369.out) hb); have n3_ := Aside0.mk (blk_below (g := gb374) (o := .cells #[.int .i64 t371, .int .i64 t372] 23 (0, 0)) (by (with_reducible repeat (first | refine blk_drewN ?_ _ | refine blk_drew ?_ | refine blk_alloc ?_ _)); exact BK374.out) hb); have n4_ := Aside0.mk (blk_below (g := gb378) (o := .cells #[.int .i64 t375, .int .i64 t376] 23 (0, 0)) (by (with_reducible repeat (first | refine blk_drewN ?_ _ | refine blk_drew ?_ | refine blk_alloc ?_ _)); exact BK378.out) hb); have n5_ := Aside0.mk (blk_below (g := gb383) (o := .cells #[.int .i64 t379, .int .i64 t380] 23 (0, 0)) (by (with_reducible repeat (first | refine blk_drewN ?_ _ | refine blk_drew ?_ | refine blk_alloc ?_ _)); exact BK383.out) hb); have n6_ := Aside0.mk (blk_below (g := gb384) (o := .cells #[.int .i64 t381, .int .i64 t382] 23 (0, 0)) (by (with_reducible repeat (first | refine blk_drewN ?_ _ | refine blk_drew ?_ | refine blk_alloc ?_ _)); exact BK384.out) hb); have n7_ := Aside0.mk (below_step (by repeat (first | (with_reducible first | exact HB.out | apply below_alloc | apply pw_below_drewN | apply below_drew1 | refine below_set ?_ GE368.out | refine below_set ?_ GE369.out | refine below_set ?_ GE374.out | refine below_set ?_ GE378.out | refine below_set ?_ GE383.out | refine below_set ?_ GE384.out) | exact HB.out)) hb); clear HO_43; clear BK368; clear BK369; clear BK374; clear BK378; clear BK383; clear BK384; clear HB; have HO_43 := n0_; have BK368 := n1_; have BK369 := n2_; have BK374 := n3_; have BK378 := n4_; have BK383 := n5_; have BK384 := n6_; have HB := n7_; clear n0_ n1_ n2_ n3_ n4_ n5_ n6_ n7_; (try clear hb); (try clear hb2); (try clear hk); (try clear hi)))
                            go_roundg kj57
                            case measure => have := HK1.out; have := HJ57.out; omega
                            case rel => exact ⟨(wrap64 (x45_1 + 1)), (by first | rfl | (simp; done) | (simp [*]; done)), H', ⟨by have := HK1.out; have := HJ57.out; omega⟩, ⟨by (with_reducible repeat (first | apply Kd.R_alloc | apply Kd.R_drewN | apply Kd.R_drew)); exact HO_43.out⟩, ⟨by (with_reducible repeat (first | refine blk_drewN ?_ _ | refine blk_drew ?_ | refine blk_alloc ?_ _)); exact BK368.out⟩, ⟨by (with_reducible repeat (first | refine blk_drewN ?_ _ | refine blk_drew ?_ | refine blk_alloc ?_ _)); exact BK369.out⟩, ⟨by (with_reducible repeat (first | refine blk_drewN ?_ _ | refine blk_drew ?_ | refine blk_alloc ?_ _)); exact BK374.out⟩, ⟨by (with_reducible repeat (first | refine blk_drewN ?_ _ | refine blk_drew ?_ | refine blk_alloc ?_ _)); exact BK378.out⟩, ⟨by (with_reducible repeat (first | refine blk_drewN ?_ _ | refine blk_drew ?_ | refine blk_alloc ?_ _)); exact BK383.out⟩, ⟨by (with_reducible repeat (first | refine blk_drewN ?_ _ | refine blk_drew ?_ | refine blk_alloc ?_ _)); exact BK384.out⟩, ⟨by repeat (first | (with_reducible first | exact HB.out | apply below_alloc | apply pw_below_drewN | apply below_drew1 | refine below_set ?_ GE368.out | refine below_set ?_ GE369.out | refine below_set ?_ GE374.out | refine below_set ?_ GE378.out | refine below_set ?_ GE383.out | refine below_set ?_ GE384.out) | exact HB.out)⟩⟩
                      · replace c147 := Bool.eq_false_iff.mpr c147
                        subst c147
                        have H1 : (if (t402 != false) = true then (some false) else ((span_Has.f t381 t382 (rd y391 x45_1)).bind fun t404 => (if (t404 != false) = true then (some false) else (mandolinelaw01_SpanBytes.l0 kj57 a2 t373 t377 y391 (y391.length : Int) (wrap64 (x45_1 + 1)) a0_0 a0_1 a1_0 a1_1 t371 t372 t375 t376 t379 t380 t381 t382)))) = some r := by rw [if_neg (show ¬ (false = true) by decide)] at H; exact H
                        clear H
                        have H := H1
                        clear H1
                        by_cases c184 : (t402 != false) = true
                        · rw [if_pos c184] at H
                          have c184b0 : (t402 != false) = true := c184
                          (try (have c184b1 : decide (t402 = false) = false := by first | (simp at c184; done) | simpa using c184))
                          (try (have c184b2 : (t402 == false) = false := by first | (simp at c184; done) | simpa using c184))
                          (try (have c184b3 : ¬ (t402 = false) := by first | (simp at c184; done) | simpa using c184))
                          clear c184
                          obtain rfl := Option.some.inj H
                          have hnb185 := NB383_368.out
                          have hnc185 := NB368_383.out
                          have hnb186 := NB383_369.out
                          have hnc186 := NB369_383.out
                          have hnb187 := NB383_374.out
                          have hnc187 := NB374_383.out
                          have hnb188 := NB383_378.out
                          have hnc188 := NB378_383.out
                          have hnb189 := NB383_384.out
                          have hnc189 := NB384_383.out
                          have hcz190_0 : wc.cell? ⟨gb383, 0, none⟩ = some (.int .i64 t379) := (blk_cell BK383.out 0).trans rfl
                          have hcz190_1 : wc.cell? ⟨gb383, 1, none⟩ = some (.int .i64 t380) := (blk_cell BK383.out 1).trans rfl
                          have hfz190_0 := blk_frozen BK383.out 0
                          have hfz190_1 := blk_frozen BK383.out 1
                          go_wp2_with (first | ((first | ((with_reducible refine gate_callee (f := 17) rfl ?_); refine goesL_ (some 81) rfl rfl Tryd.func17 (by kernel_rfl) rfl #[.agg #[.int .i64 t379, .int .i64 t380], .int .i64 (rd y391 x45_1)] rfl (by (try simp only [List.map_toArray, List.map_cons, List.map_nil]); first | done | rfl | (simp only [List.length_drop, List.length_take]; rfl)) ?_; (with_reducible refine (span_Has.calls t379 t380 (rd y391 x45_1) t402 _ A146.out).mono ?_); rintro e w191 ⟨rfl, hb⟩; refine ⟨_, rfl, ?_⟩) | (go_at_call 17; (with_reducible refine (span_Has.calls t379 t380 (rd y391 x45_1) t402 _ A146.out).mono ?_); rintro e w191 ⟨rfl, hb⟩)); have n0_ := Aside0.mk (Kd.R_below (by (with_reducible repeat (first | apply Kd.R_alloc | apply Kd.R_drewN | apply Kd.R_drew)); exact HO_43.out) hb); have n1_ := Aside0.mk (blk_below (g := gb368) (o := .cells #[.int .i64 a0_0, .int .i64 a0_1] 23 (0, 0)) (by (with_reducible repeat (first | refine blk_drewN ?_ _ | refine blk_drew ?_ | refine blk_alloc ?_ _)); exact BK368.out) hb); have n2_ := Aside0.mk (blk_below (g := gb369) (o := .cells #[.int .i64 a1_0, .int .i64 a1_1] 23 (0, 0)) (by (with_reducible repeat (first | refine blk_drewN ?_ _ | refine blk_drew ?_ | refine blk_alloc ?_ _)); exact BK369.out) hb); have n3_ := Aside0.mk (blk_below (g := gb374) (o := .cells #[.int .i64 t371, .int .i64 t372] 23 (0, 0)) (by (with_reducible repeat (first | refine blk_drewN ?_ _ | refine blk_drew ?_ | refine blk_alloc ?_ _)); exact BK374.out) hb); have n4_ := Aside0.mk (blk_below (g := gb378) (o := .cells #[.int .i64 t375, .int .i64 t376] 23 (0, 0)) (by (with_reducible repeat (first | refine blk_drewN ?_ _ | refine blk_drew ?_ | refine blk_alloc ?_ _)); exact BK378.out) hb); have n5_ := Aside0.mk (blk_below (g := gb383) (o := .cells #[.int .i64 t379, .int .i64 t380] 23 (0, 0)) (by (with_reducible repeat (first | refine blk_drewN ?_ _ | refine blk_drew ?_ | refine blk_alloc ?_ _)); exact BK383.out) hb); have n6_ := Aside0.mk (blk_below (g := gb384) (o := .cells #[.int .i64 t381, .int .i64 t382] 23 (0, 0)) (by (with_reducible repeat (first | refine blk_drewN ?_ _ | refine blk_drew ?_ | refine blk_alloc ?_ _)); exact BK384.out) hb); have n7_ := Aside0.mk (below_step (by repeat (first | (with_reducible first | exact HB.out | apply below_alloc | apply pw_below_drewN | apply below_drew1 | refine below_set ?_ GE368.out | refine below_set ?_ GE369.out | refine below_set ?_ GE374.out | refine below_set ?_ GE378.out | refine below_set ?_ GE383.out | refine below_set ?_ GE384.out) | exact HB.out)) hb); clear HO_43; clear BK368; clear BK369; clear BK374; clear BK378; clear BK383; clear BK384; clear HB; have HO_43 := n0_; have BK368 := n1_; have BK369 := n2_; have BK374 := n3_; have BK378 := n4_; have BK383 := n5_; have BK384 := n6_; have HB := n7_; clear n0_ n1_ n2_ n3_ n4_ n5_ n6_ n7_; (try clear hb); (try clear hb2); (try clear hk); (try clear hi)))
                          go_ret
                          exact ⟨by first | rfl | (simp [errW_none, errW_some] <;> rfl) | (simp [*, errW_none, errW_some] <;> rfl), by repeat (first | (with_reducible first | exact HB.out | apply below_alloc | apply pw_below_drewN | apply below_drew1 | refine below_set ?_ GE368.out | refine below_set ?_ GE369.out | refine below_set ?_ GE374.out | refine below_set ?_ GE378.out | refine below_set ?_ GE383.out | refine below_set ?_ GE384.out) | exact HB.out)⟩
                        · rw [if_neg c184] at H
                          have c184b0 : (t402 != false) = false := by first | (simp at c184; done) | simpa using c184
                          (try (have c184b1 : decide (t402 = false) = true := by first | (simp at c184; done) | simpa using c184))
                          (try (have c184b2 : (t402 == false) = true := by first | (simp at c184; done) | simpa using c184))
                          clear c184
                          replace H := Option.bind_eq_some_iff.mp H
                          obtain ⟨t404, A1920, H⟩ := H
                          replace H : (if (t404 != false) = true then (some false) else (mandolinelaw01_SpanBytes.l0 kj57 a2 t373 t377 y391 (y391.length : Int) (wrap64 (x45_1 + 1)) a0_0 a0_1 a1_0 a1_1 t371 t372 t375 t376 t379 t380 t381 t382)) = some r := H
                          have A192 := Aside0.mk A1920
                          clear A1920
                          by_cases c193 : (t404 != false) = true
                          · rw [if_pos c193] at H
                            have c193b0 : (t404 != false) = true := c193
                            (try (have c193b1 : decide (t404 = false) = false := by first | (simp at c193; done) | simpa using c193))
                            (try (have c193b2 : (t404 == false) = false := by first | (simp at c193; done) | simpa using c193))
                            (try (have c193b3 : ¬ (t404 = false) := by first | (simp at c193; done) | simpa using c193))
                            clear c193
                            obtain rfl := Option.some.inj H
                            have hnb194 := NB383_368.out
                            have hnc194 := NB368_383.out
                            have hnb195 := NB383_369.out
                            have hnc195 := NB369_383.out
                            have hnb196 := NB383_374.out
                            have hnc196 := NB374_383.out
                            have hnb197 := NB383_378.out
                            have hnc197 := NB378_383.out
                            have hnb198 := NB383_384.out
                            have hnc198 := NB384_383.out
                            have hcz199_0 : wc.cell? ⟨gb383, 0, none⟩ = some (.int .i64 t379) := (blk_cell BK383.out 0).trans rfl
                            have hcz199_1 : wc.cell? ⟨gb383, 1, none⟩ = some (.int .i64 t380) := (blk_cell BK383.out 1).trans rfl
                            have hfz199_0 := blk_frozen BK383.out 0
                            have hfz199_1 := blk_frozen BK383.out 1
                            go_wp2_with (first | ((first | ((with_reducible refine gate_callee (f := 17) rfl ?_); refine goesL_ (some 81) rfl rfl Tryd.func17 (by kernel_rfl) rfl #[.agg #[.int .i64 t379, .int .i64 t380], .int .i64 (rd y391 x45_1)] rfl (by (try simp only [List.map_toArray, List.map_cons, List.map_nil]); first | done | rfl | (simp only [List.length_drop, List.length_take]; rfl)) ?_; (with_reducible refine (span_Has.calls t379 t380 (rd y391 x45_1) t402 _ A146.out).mono ?_); rintro e w200 ⟨rfl, hb⟩; refine ⟨_, rfl, ?_⟩) | (go_at_call 17; (with_reducible refine (span_Has.calls t379 t380 (rd y391 x45_1) t402 _ A146.out).mono ?_); rintro e w200 ⟨rfl, hb⟩)); have n0_ := Aside0.mk (Kd.R_below (by (with_reducible repeat (first | apply Kd.R_alloc | apply Kd.R_drewN | apply Kd.R_drew)); exact HO_43.out) hb); have n1_ := Aside0.mk (blk_below (g := gb368) (o := .cells #[.int .i64 a0_0, .int .i64 a0_1] 23 (0, 0)) (by (with_reducible repeat (first | refine blk_drewN ?_ _ | refine blk_drew ?_ | refine blk_alloc ?_ _)); exact BK368.out) hb); have n2_ := Aside0.mk (blk_below (g := gb369) (o := .cells #[.int .i64 a1_0, .int .i64 a1_1] 23 (0, 0)) (by (with_reducible repeat (first | refine blk_drewN ?_ _ | refine blk_drew ?_ | refine blk_alloc ?_ _)); exact BK369.out) hb); have n3_ := Aside0.mk (blk_below (g := gb374) (o := .cells #[.int .i64 t371, .int .i64 t372] 23 (0, 0)) (by (with_reducible repeat (first | refine blk_drewN ?_ _ | refine blk_drew ?_ | refine blk_alloc ?_ _)); exact BK374.out) hb); have n4_ := Aside0.mk (blk_below (g := gb378) (o := .cells #[.int .i64 t375, .int .i64 t376] 23 (0, 0)) (by (with_reducible repeat (first | refine blk_drewN ?_ _ | refine blk_drew ?_ | refine blk_alloc ?_ _)); exact BK378.out) hb); have n5_ := Aside0.mk (blk_below (g := gb383) (o := .cells #[.int .i64 t379, .int .i64 t380] 23 (0, 0)) (by (with_reducible repeat (first | refine blk_drewN ?_ _ | refine blk_drew ?_ | refine blk_alloc ?_ _)); exact BK383.out) hb); have n6_ := Aside0.mk (blk_below (g := gb384) (o := .cells #[.int .i64 t381, .int .i64 t382] 23 (0, 0)) (by (with_reducible repeat (first | refine blk_drewN ?_ _ | refine blk_drew ?_ | refine blk_alloc ?_ _)); exact BK384.out) hb); have n7_ := Aside0.mk (below_step (by repeat (first | (with_reducible first | exact HB.out | apply below_alloc | apply pw_below_drewN | apply below_drew1 | refine below_set ?_ GE368.out | refine below_set ?_ GE369.out | refine below_set ?_ GE374.out | refine below_set ?_ GE378.out | refine below_set ?_ GE383.out | refine below_set ?_ GE384.out) | exact HB.out)) hb); clear HO_43; clear BK368; clear BK369; clear BK374; clear BK378; clear BK383; clear BK384; clear HB; have HO_43 := n0_; have BK368 := n1_; have BK369 := n2_; have BK374 := n3_; have BK378 := n4_; have BK383 := n5_; have BK384 := n6_; have HB := n7_; clear n0_ n1_ n2_ n3_ n4_ n5_ n6_ n7_; (try clear hb); (try clear hb2); (try clear hk); (try clear hi); have hnb201 := NB384_368.out; have hnc201 := NB368_384.out; have hnb202 := NB384_369.out; have hnc202 := NB369_384.out; have hnb203 := NB384_374.out; have hnc203 := NB374_384.out; have hnb204 := NB384_378.out; have hnc204 := NB378_384.out; have hcz205_0 : w200.cell? ⟨gb384, 0, none⟩ = some (.int .i64 t381) := (blk_cell BK384.out 0).trans rfl; have hcz205_1 : w200.cell? ⟨gb384, 1, none⟩ = some (.int .i64 t382) := (blk_cell BK384.out 1).trans rfl; have hfz205_0 := blk_frozen BK384.out 0; have hfz205_1 := blk_frozen BK384.out 1) | (go_at_call 17; (with_reducible refine (span_Has.calls t381 t382 (rd y391 x45_1) t404 _ A192.out).mono ?_); rintro e w206 ⟨rfl, hb⟩; have n0_ := Aside0.mk (Kd.R_below (by (with_reducible repeat (first | apply Kd.R_alloc | apply Kd.R_drewN | apply Kd.R_drew)); exact HO_43.out) hb); have n1_ := Aside0.mk (blk_below (g := gb368) (o := .cells #[.int .i64 a0_0, .int .i64 a0_1] 23 (0, 0)) (by (with_reducible repeat (first | refine blk_drewN ?_ _ | refine blk_drew ?_ | refine blk_alloc ?_ _)); exact BK368.out) hb); have n2_ := Aside0.mk (blk_below (g := gb369) (o := .cells #[.int .i64 a1_0, .int .i64 a1_1] 23 (0, 0)) (by (with_reducible repeat (first | refine blk_drewN ?_ _ | refine blk_drew ?_ | refine blk_alloc ?_ _)); exact BK369.out) hb); have n3_ := Aside0.mk (blk_below (g := gb374) (o := .cells #[.int .i64 t371, .int .i64 t372] 23 (0, 0)) (by (with_reducible repeat (first | refine blk_drewN ?_ _ | refine blk_drew ?_ | refine blk_alloc ?_ _)); exact BK374.out) hb); have n4_ := Aside0.mk (blk_below (g := gb378) (o := .cells #[.int .i64 t375, .int .i64 t376] 23 (0, 0)) (by (with_reducible repeat (first | refine blk_drewN ?_ _ | refine blk_drew ?_ | refine blk_alloc ?_ _)); exact BK378.out) hb); have n5_ := Aside0.mk (blk_below (g := gb383) (o := .cells #[.int .i64 t379, .int .i64 t380] 23 (0, 0)) (by (with_reducible repeat (first | refine blk_drewN ?_ _ | refine blk_drew ?_ | refine blk_alloc ?_ _)); exact BK383.out) hb); have n6_ := Aside0.mk (blk_below (g := gb384) (o := .cells #[.int .i64 t381, .int .i64 t382] 23 (0, 0)) (by (with_reducible repeat (first | refine blk_drewN ?_ _ | refine blk_drew ?_ | refine blk_alloc ?_ _)); exact BK384.out) hb); have n7_ := Aside0.mk (below_step (by repeat (first | (with_reducible first | exact HB.out | apply below_alloc | apply pw_below_drewN | apply below_drew1 | refine below_set ?_ GE368.out | refine below_set ?_ GE369.out | refine below_set ?_ GE374.out | refine below_set ?_ GE378.out | refine below_set ?_ GE383.out | refine below_set ?_ GE384.out) | exact HB.out)) hb); clear HO_43; clear BK368; clear BK369; clear BK374; clear BK378; clear BK383; clear BK384; clear HB; have HO_43 := n0_; have BK368 := n1_; have BK369 := n2_; have BK374 := n3_; have BK378 := n4_; have BK383 := n5_; have BK384 := n6_; have HB := n7_; clear n0_ n1_ n2_ n3_ n4_ n5_ n6_ n7_; (try clear hb); (try clear hb2); (try clear hk); (try clear hi)))
                            go_ret
                            exact ⟨by first | rfl | (simp [errW_none, errW_some] <;> rfl) | (simp [*, errW_none, errW_some] <;> rfl), by repeat (first | (with_reducible first | exact HB.out | apply below_alloc | apply pw_below_drewN | apply below_drew1 | refine below_set ?_ GE368.out | refine below_set ?_ GE369.out | refine below_set ?_ GE374.out | refine below_set ?_ GE378.out | refine below_set ?_ GE383.out | refine below_set ?_ GE384.out) | exact HB.out)⟩
                          · rw [if_neg c193] at H
                            have c193b0 : (t404 != false) = false := by first | (simp at c193; done) | simpa using c193
                            (try (have c193b1 : decide (t404 = false) = true := by first | (simp at c193; done) | simpa using c193))
                            (try (have c193b2 : (t404 == false) = true := by first | (simp at c193; done) | simpa using c193))
                            clear c193
                            have H' := Aside0.mk H
                            clear H
                            have hnb207 := NB383_368.out
                            have hnc207 := NB368_383.out
                            have hnb208 := NB383_369.out
                            have hnc208 := NB369_383.out
                            have hnb209 := NB383_374.out
                            have hnc209 := NB374_383.out
                            have hnb210 := NB383_378.out
                            have hnc210 := NB378_383.out
                            have hnb211 := NB383_384.out
                            have hnc211 := NB384_383.out
                            have hcz212_0 : wc.cell? ⟨gb383, 0, none⟩ = some (.int .i64 t379) := (blk_cell BK383.out 0).trans rfl
                            have hcz212_1 : wc.cell? ⟨gb383, 1, none⟩ = some (.int .i64 t380) := (blk_cell BK383.out 1).trans rfl
                            have hfz212_0 := blk_frozen BK383.out 0
                            have hfz212_1 := blk_frozen BK383.out 1
                            go_wp2_with (first | ((first | ((with_reducible refine gate_callee (f := 17) rfl ?_); refine goesL_ (some 81) rfl rfl Tryd.func17 (by kernel_rfl) rfl #[.agg #[.int .i64 t379, .int .i64 t380], .int .i64 (rd y391 x45_1)] rfl (by (try simp only [List.map_toArray, List.map_cons, List.map_nil]); first | done | rfl | (simp only [List.length_drop, List.length_take]; rfl)) ?_; (with_reducible refine (span_Has.calls t379 t380 (rd y391 x45_1) t402 _ A146.out).mono ?_); rintro e w213 ⟨rfl, hb⟩; refine ⟨_, rfl, ?_⟩) | (go_at_call 17; (with_reducible refine (span_Has.calls t379 t380 (rd y391 x45_1) t402 _ A146.out).mono ?_); rintro e w213 ⟨rfl, hb⟩)); have n0_ := Aside0.mk (Kd.R_below (by (with_reducible repeat (first | apply Kd.R_alloc | apply Kd.R_drewN | apply Kd.R_drew)); exact HO_43.out) hb); have n1_ := Aside0.mk (blk_below (g := gb368) (o := .cells #[.int .i64 a0_0, .int .i64 a0_1] 23 (0, 0)) (by (with_reducible repeat (first | refine blk_drewN ?_ _ | refine blk_drew ?_ | refine blk_alloc ?_ _)); exact BK368.out) hb); have n2_ := Aside0.mk (blk_below (g := gb369) (o := .cells #[.int .i64 a1_0, .int .i64 a1_1] 23 (0, 0)) (by (with_reducible repeat (first | refine blk_drewN ?_ _ | refine blk_drew ?_ | refine blk_alloc ?_ _)); exact BK369.out) hb); have n3_ := Aside0.mk (blk_below (g := gb374) (o := .cells #[.int .i64 t371, .int .i64 t372] 23 (0, 0)) (by (with_reducible repeat (first | refine blk_drewN ?_ _ | refine blk_drew ?_ | refine blk_alloc ?_ _)); exact BK374.out) hb); have n4_ := Aside0.mk (blk_below (g := gb378) (o := .cells #[.int .i64 t375, .int .i64 t376] 23 (0, 0)) (by (with_reducible repeat (first | refine blk_drewN ?_ _ | refine blk_drew ?_ | refine blk_alloc ?_ _)); exact BK378.out) hb); have n5_ := Aside0.mk (blk_below (g := gb383) (o := .cells #[.int .i64 t379, .int .i64 t380] 23 (0, 0)) (by (with_reducible repeat (first | refine blk_drewN ?_ _ | refine blk_drew ?_ | refine blk_alloc ?_ _)); exact BK383.out) hb); have n6_ := Aside0.mk (blk_below (g := gb384) (o := .cells #[.int .i64 t381, .int .i64 t382] 23 (0, 0)) (by (with_reducible repeat (first | refine blk_drewN ?_ _ | refine blk_drew ?_ | refine blk_alloc ?_ _)); exact BK384.out) hb); have n7_ := Aside0.mk (below_step (by repeat (first | (with_reducible first | exact HB.out | apply below_alloc | apply pw_below_drewN | apply below_drew1 | refine below_set ?_ GE368.out | refine below_set ?_ GE369.out | refine below_set ?_ GE374.out | refine below_set ?_ GE378.out | refine below_set ?_ GE383.out | refine below_set ?_ GE384.out) | exact HB.out)) hb); clear HO_43; clear BK368; clear BK369; clear BK374; clear BK378; clear BK383; clear BK384; clear HB; have HO_43 := n0_; have BK368 := n1_; have BK369 := n2_; have BK374 := n3_; have BK378 := n4_; have BK383 := n5_; have BK384 := n6_; have HB := n7_; clear n0_ n1_ n2_ n3_ n4_ n5_ n6_ n7_; (try clear hb); (try clear hb2); (try clear hk); (try clear hi); have hnb214 := NB384_368.out; have hnc214 := NB368_384.out; have hnb215 := NB384_369.out; have hnc215 := NB369_384.out; have hnb216 := NB384_374.out; have hnc216 := NB374_384.out; have hnb217 := NB384_378.out; have hnc217 := NB378_384.out; have hcz218_0 : w213.cell? ⟨gb384, 0, none⟩ = some (.int .i64 t381) := (blk_cell BK384.out 0).trans rfl; have hcz218_1 : w213.cell? ⟨gb384, 1, none⟩ = some (.int .i64 t382) := (blk_cell BK384.out 1).trans rfl; have hfz218_0 := blk_frozen BK384.out 0; have hfz218_1 := blk_frozen BK384.out 1) | (go_at_call 17; (with_reducible refine (span_Has.calls t381 t382 (rd y391 x45_1) t404 _ A192.out).mono ?_); rintro e w219 ⟨rfl, hb⟩; have n0_ := Aside0.mk (Kd.R_below (by (with_reducible repeat (first | apply Kd.R_alloc | apply Kd.R_drewN | apply Kd.R_drew)); exact HO_43.out) hb); have n1_ := Aside0.mk (blk_below (g := gb368) (o := .cells #[.int .i64 a0_0, .int .i64 a0_1] 23 (0, 0)) (by (with_reducible repeat (first | refine blk_drewN ?_ _ | refine blk_drew ?_ | refine blk_alloc ?_ _)); exact BK368.out) hb); have n2_ := Aside0.mk (blk_below (g := gb369) (o := .cells #[.int .i64 a1_0, .int .i64 a1_1] 23 (0, 0)) (by (with_reducible repeat (first | refine blk_drewN ?_ _ | refine blk_drew ?_ | refine blk_alloc ?_ _)); exact BK369.out) hb); have n3_ := Aside0.mk (blk_below (g := gb374) (o := .cells #[.int .i64 t371, .int .i64 t372] 23 (0, 0)) (by (with_reducible repeat (first | refine blk_drewN ?_ _ | refine blk_drew ?_ | refine blk_alloc ?_ _)); exact BK374.out) hb); have n4_ := Aside0.mk (blk_below (g := gb378) (o := .cells #[.int .i64 t375, .int .i64 t376] 23 (0, 0)) (by (with_reducible repeat (first | refine blk_drewN ?_ _ | refine blk_drew ?_ | refine blk_alloc ?_ _)); exact BK378.out) hb); have n5_ := Aside0.mk (blk_below (g := gb383) (o := .cells #[.int .i64 t379, .int .i64 t380] 23 (0, 0)) (by (with_reducible repeat (first | refine blk_drewN ?_ _ | refine blk_drew ?_ | refine blk_alloc ?_ _)); exact BK383.out) hb); have n6_ := Aside0.mk (blk_below (g := gb384) (o := .cells #[.int .i64 t381, .int .i64 t382] 23 (0, 0)) (by (with_reducible repeat (first | refine blk_drewN ?_ _ | refine blk_drew ?_ | refine blk_alloc ?_ _)); exact BK384.out) hb); have n7_ := Aside0.mk (below_step (by repeat (first | (with_reducible first | exact HB.out | apply below_alloc | apply pw_below_drewN | apply below_drew1 | refine below_set ?_ GE368.out | refine below_set ?_ GE369.out | refine below_set ?_ GE374.out | refine below_set ?_ GE378.out | refine below_set ?_ GE383.out | refine below_set ?_ GE384.out) | exact HB.out)) hb); clear HO_43; clear BK368; clear BK369; clear BK374; clear BK378; clear BK383; clear BK384; clear HB; have HO_43 := n0_; have BK368 := n1_; have BK369 := n2_; have BK374 := n3_; have BK378 := n4_; have BK383 := n5_; have BK384 := n6_; have HB := n7_; clear n0_ n1_ n2_ n3_ n4_ n5_ n6_ n7_; (try clear hb); (try clear hb2); (try clear hk); (try clear hi)))
                            go_roundg kj57
                            case measure => have := HK1.out; have := HJ57.out; omega
                            case rel => exact ⟨(wrap64 (x45_1 + 1)), (by first | rfl | (simp; done) | (simp [*]; done)), H', ⟨by have := HK1.out; have := HJ57.out; omega⟩, ⟨by (with_reducible repeat (first | apply Kd.R_alloc | apply Kd.R_drewN | apply Kd.R_drew)); exact HO_43.out⟩, ⟨by (with_reducible repeat (first | refine blk_drewN ?_ _ | refine blk_drew ?_ | refine blk_alloc ?_ _)); exact BK368.out⟩, ⟨by (with_reducible repeat (first | refine blk_drewN ?_ _ | refine blk_drew ?_ | refine blk_alloc ?_ _)); exact BK369.out⟩, ⟨by (with_reducible repeat (first | refine blk_drewN ?_ _ | refine blk_drew ?_ | refine blk_alloc ?_ _)); exact BK374.out⟩, ⟨by (with_reducible repeat (first | refine blk_drewN ?_ _ | refine blk_drew ?_ | refine blk_alloc ?_ _)); exact BK378.out⟩, ⟨by (with_reducible repeat (first | refine blk_drewN ?_ _ | refine blk_drew ?_ | refine blk_alloc ?_ _)); exact BK383.out⟩, ⟨by (with_reducible repeat (first | refine blk_drewN ?_ _ | refine blk_drew ?_ | refine blk_alloc ?_ _)); exact BK384.out⟩, ⟨by repeat (first | (with_reducible first | exact HB.out | apply below_alloc | apply pw_below_drewN | apply below_drew1 | refine below_set ?_ GE368.out | refine below_set ?_ GE369.out | refine below_set ?_ GE374.out | refine below_set ?_ GE378.out | refine below_set ?_ GE383.out | refine below_set ?_ GE384.out) | exact HB.out)⟩⟩
              · rw [if_neg c55] at H
                exact absurd H (by simp)
            · rw [if_neg c54] at H
              exact absurd H (by simp)
          · rw [if_neg c53] at H
            have c53b0 : decide (x45_1 < (y391.length : Int)) = false := decide_eq_false c53
            clear c53
            obtain rfl := Option.some.inj H
            go_wp2
            go_ret
            exact ⟨by first | rfl | (simp [errW_none, errW_some] <;> rfl) | (simp [*, errW_none, errW_some] <;> rfl), by repeat (first | (with_reducible first | exact HB.out | apply below_alloc | apply pw_below_drewN | apply below_drew1 | refine below_set ?_ GE368.out | refine below_set ?_ GE369.out | refine below_set ?_ GE374.out | refine below_set ?_ GE378.out | refine below_set ?_ GE383.out | refine below_set ?_ GE384.out) | exact HB.out)⟩
    · rw [if_neg c10] at H
      exact absurd H (by simp)
  · replace c5 := Bool.eq_false_iff.mpr c5
    subst c5
    have H1 : (some false) = some r := by rw [if_neg (show ¬ (false = true) by decide)] at H; exact H
    clear H
    have H := H1
    clear H1
    obtain rfl := Option.some.inj H
    go_enter Tryd.func10, Tryd.ntmps10
    go_wp2_with (first | ((with_reducible refine gate_dst (N := 3) rfl ?_); refine box_event ?hg (N := 3) ?hd (cs := #[.int .i64 a0_0, .int .i64 a0_1]) (t := 23) ?hr ?_; (case hd => rfl); (case hg => rfl); (case hr => first | (go_simp; done) | (go_simp; rfl)); intro gb368 hg w220 hbox hb; have n0_ := Aside0.mk (below_step (by repeat (first | (with_reducible first | exact HB.out | apply below_alloc | apply pw_below_drewN | apply below_drew1) | exact HB.out)) hb); have n1_ := Aside0.mk (hbox); have n2_ := Aside0.mk ((by rw [hg]; exact (below_size (by repeat (first | (with_reducible first | exact HB.out | apply below_alloc | apply pw_below_drewN | apply below_drew1) | exact HB.out))) : w.heap.size ≤ gb368)); have n3_ := Aside0.mk ((by rw [hg]; exact (below_size (by repeat (first | (with_reducible first | exact HB.out | apply below_alloc | apply pw_below_drewN | apply below_drew1) | exact HB.out))) : w.heap.size ≤ gb368)); clear HB; have HB := n0_; have BK368 := n1_; have GW368 := n2_; have GE368 := n3_; clear n0_ n1_ n2_ n3_; clear hb hbox hg) | ((with_reducible refine gate_dst (N := 4) rfl ?_); refine box_event ?hg (N := 4) ?hd (cs := #[.int .i64 a1_0, .int .i64 a1_1]) (t := 23) ?hr ?_; (case hd => rfl); (case hg => rfl); (case hr => first | (go_simp; done) | (go_simp; rfl)); intro gb369 hg w221 hbox hb; have n0_ := Aside0.mk (blk_below (g := gb368) (o := .cells #[.int .i64 a0_0, .int .i64 a0_1] 23 (0, 0)) (by (with_reducible repeat (first | refine blk_drewN ?_ _ | refine blk_drew ?_ | refine blk_alloc ?_ _)); exact BK368.out) hb); have n1_ := Aside0.mk (below_step (by repeat (first | (with_reducible first | exact HB.out | apply below_alloc | apply pw_below_drewN | apply below_drew1 | refine below_set ?_ GE368.out) | exact HB.out)) hb); have n2_ := Aside0.mk (hbox); have n3_ := Aside0.mk ((by rw [hg]; exact (below_size (by repeat (first | (with_reducible first | exact HB.out | apply below_alloc | apply pw_below_drewN | apply below_drew1 | refine below_set ?_ GE368.out) | exact HB.out))) : w.heap.size ≤ gb369)); have n4_ := Aside0.mk ((by rw [hg]; exact (below_size (by repeat (first | (with_reducible first | exact HB.out | apply below_alloc | apply pw_below_drewN | apply below_drew1 | refine below_set ?_ GE368.out) | exact HB.out))) : w.heap.size ≤ gb369)); have n5_ := Aside0.mk ((by rw [hg]; exact Nat.ne_of_lt (blk_lt (g := gb368) (o := .cells #[.int .i64 a0_0, .int .i64 a0_1] 23 (0, 0)) (by (with_reducible repeat (first | refine blk_drewN ?_ _ | refine blk_drew ?_ | refine blk_alloc ?_ _)); exact BK368.out)) : gb368 ≠ gb369)); have n6_ := Aside0.mk ((by rw [hg]; exact Nat.ne_of_gt (blk_lt (g := gb368) (o := .cells #[.int .i64 a0_0, .int .i64 a0_1] 23 (0, 0)) (by (with_reducible repeat (first | refine blk_drewN ?_ _ | refine blk_drew ?_ | refine blk_alloc ?_ _)); exact BK368.out)) : gb369 ≠ gb368)); clear BK368; clear HB; have BK368 := n0_; have HB := n1_; have BK369 := n2_; have GW369 := n3_; have GE369 := n4_; have NB368_369 := n5_; have NB369_368 := n6_; clear n0_ n1_ n2_ n3_ n4_ n5_ n6_; clear hb hbox hg) | ((first | ((with_reducible refine gate_callee (f := 12) rfl ?_); refine goesL_ (some 17) rfl rfl Tryd.func12 (by kernel_rfl) rfl #[] rfl (by (try simp only [List.map_toArray, List.map_cons, List.map_nil]); first | done | rfl | (simp only [List.length_drop, List.length_take]; rfl)) ?_; (with_reducible refine (mandolinelaw01_awake.calls k  false _ ?side1 A4.out).mono ?_); (case side1 => exact Glob.below HG.out (by repeat (first | (with_reducible first | exact HB.out | apply below_alloc | apply pw_below_drewN | apply below_drew1 | refine below_set ?_ GE368.out | refine below_set ?_ GE369.out) | exact HB.out))); rintro e w222 ⟨rfl, hb⟩; refine ⟨_, rfl, ?_⟩) | (go_at_call 12; (with_reducible refine (mandolinelaw01_awake.calls k  false _ ?side1 A4.out).mono ?_); (case side1 => exact Glob.below HG.out (by repeat (first | (with_reducible first | exact HB.out | apply below_alloc | apply pw_below_drewN | apply below_drew1 | refine below_set ?_ GE368.out | refine below_set ?_ GE369.out) | exact HB.out))); rintro e w222 ⟨rfl, hb⟩)); have n0_ := Aside0.mk (blk_below (g := gb368) (o := .cells #[.int .i64 a0_0, .int .i64 a0_1] 23 (0, 0)) (by (with_reducible repeat (first | refine blk_drewN ?_ _ | refine blk_drew ?_ | refine blk_alloc ?_ _)); exact BK368.out) hb); have n1_ := Aside0.mk (blk_below (g := gb369) (o := .cells #[.int .i64 a1_0, .int .i64 a1_1] 23 (0, 0)) (by (with_reducible repeat (first | refine blk_drewN ?_ _ | refine blk_drew ?_ | refine blk_alloc ?_ _)); exact BK369.out) hb); have n2_ := Aside0.mk (below_step (by repeat (first | (with_reducible first | exact HB.out | apply below_alloc | apply pw_below_drewN | apply below_drew1 | refine below_set ?_ GE368.out | refine below_set ?_ GE369.out) | exact HB.out)) hb); clear BK368; clear BK369; clear HB; have BK368 := n0_; have BK369 := n1_; have HB := n2_; clear n0_ n1_ n2_; (try clear hb); (try clear hb2); (try clear hk); (try clear hi)))
    go_ret
    exact ⟨by first | rfl | (simp [errW_none, errW_some] <;> rfl) | (simp [*, errW_none, errW_some] <;> rfl), by repeat (first | (with_reducible first | exact HB.out | apply below_alloc | apply pw_below_drewN | apply below_drew1 | refine below_set ?_ GE368.out | refine below_set ?_ GE369.out) | exact HB.out)⟩

end Go.Proofs.YtigfmjmdacligaaDoor.X
