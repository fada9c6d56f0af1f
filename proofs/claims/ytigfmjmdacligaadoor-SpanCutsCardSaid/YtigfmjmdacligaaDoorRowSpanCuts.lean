/- SpanCuts: the row and the card of the law, out of its printed walk and its pure statement: for every input that the row speaks of, the law returns true and leaves its arguments as they read. -/
import Derived.Test.YtigfmjmdacligaaDoorRows
import Derived.Test.YtigfmjmdacligaaDoorCards
import Derived.Test.YtigfmjmdacligaaDoorTie
import Derived.Test.YtigfmjmdacligaaDoorOpen
import Derived.Test.YtigfmjmdacligaaDoorX18
import Derived.Test.YtigfmjmdacligaaDoorPureSpanCuts
import Derived.Test.YtigfmjmdacligaaDoorGlob
import Derived.WalkKit
import Derived.ProofKit
import Derived.OpenShut
import Derived.ShutString
import Derived.ChangeOld
import Derived.Below
import Derived.SizedLaws
import Derived.Deep.DeepHandedRow
import Derived.Lib.LaidTab
import Derived.SevenTiedAt
import Derived.Lay
namespace Go.Proofs.YtigfmjmdacligaaDoor.spanCuts
open Go.ChangeShapes Go.WideShapes Go.ChangeAt Go.RowKit Go.Proofs.YtigfmjmdacligaaDoor Go.Proofs.YtigfmjmdacligaaDoor.X Go.Proofs.YtigfmjmdacligaaDoorW.PrintWords
set_option linter.unusedVariables false
set_option maxRecDepth 100000
theorem own : ownKnob Tryd.prog.godebug = none := by kernel_rfl
theorem laidOut : laidOutB Tryd.prog = true := by kernel_rfl
theorem o2 : Opens Tryd.prog 2 (Kd.int .i64) (fun a => (Lit.int .i64 a).wf = true) := Opens.int Tryd.underlying2 (by kernel_rfl)
theorem o23 : Opens Tryd.prog 23 k23 (fun a => ((Lit.int .i64 a.f0).wf = true) ∧ ((Lit.int .i64 a.f1).wf = true)) := Opens.iso (fun x : S23 => (x.f0, x.f1)) (fun p => ⟨p.1, p.2⟩) (fun _ => rfl) (Opens.struct Tryd.underlying23 (by kernel_rfl) (OpensFs.cons rfl o2 (OpensFs.one rfl o2)))
theorem contract (H : Type) (enc : TypeId × Value → H) (W : World) (base : Nat) (args : Array Value) (ds gs : List (DataW H)) (before : List MemPlace)
    (hval : ∀ (j : Nat) t v, Tryd.f6.params[j]? = some t → args[j]? = some v → Value.okWide Tryd.prog W .any base t v)
    (hW : DataW.Whole enc Tryd.prog Tryd.f6.params.toList Rows.spanCutsSpec.vars false W args.toList ds gs before) (hsz0 : (DataW.weightsEach Tryd.prog (Tryd.f6.params.toList ++ (OpenSpec.ofChange Rows.spanCutsSpec).bare.plain.varTypes Tryd.prog) (ds ++ gs)).all (· ≤ reachBytes) = true)
    (hL : laidMetH Tryd.prog Rows.spanCutsRow.laid W) (hsh : W.ShapedOpen Tryd.prog) :
    Calls Tryd.prog 6 args W fun e W' => ∃ v, e = .returned v ∧ Rows.spanCutsSpec.post enc Tryd.prog Tryd.f6 false true false false W args v W' := by
  have hsz : (DataW.weightsEach Tryd.prog (Tryd.f6.params.toList ++ (OpenSpec.ofChange Rows.spanCutsSpec).bare.plain.varTypes Tryd.prog) (ds ++ gs)).all (· ≤ reachBytes) = true := hsz0
  have hW' := hW
  obtain ⟨p, q, hA0, hV, rfl, hfz, hnd⟩ := hW
  have hA : DataW.TrodAll enc Tryd.prog W 0 (fun _ => true) true Tryd.f6.params.toList args.toList ds p := hA0
  rw [Tryd.params6] at hA hval hsz
  obtain ⟨v0, vs0, d0, ds0, p0, q0, hargs, rfl, rfl, h0, r0⟩ := trodAll_cons hA
  obtain ⟨v1, vs1, d1, ds1, p1, q1, rfl, rfl, rfl, h1, r1⟩ := trodAll_cons r0
  obtain ⟨rfl, rfl, rfl⟩ := trodAll_nil r1
  obtain rfl : args = #[v0, v1] := by cases args; simp_all
  obtain ⟨rfl, rfl⟩ := trodVars_none hV
  have k0 := h0
  have lt0 : ∀ x ∈ p0, x.block < W.heap.size := by obtain ⟨m, hm⟩ := k0; exact DataW.trod_lt m _ _ _ hm
  obtain ⟨cs0, a0, rfl, hk0, g0⟩ := Opens.argAgg Tryd.underlying23 o23 (hval 0 23 v0 rfl rfl) h0 hsz (j := 0) (t := 23) rfl rfl
  obtain rfl := k23_open hk0
  have k1 := h1
  have lt1 : ∀ x ∈ p1, x.block < W.heap.size := by obtain ⟨m, hm⟩ := k1; exact DataW.trod_lt m _ _ _ hm
  obtain ⟨a1, rfl, g1⟩ := Opens.argInt Tryd.underlying2 o2 (hval 1 2 v1 rfl rfl) h1 hsz (j := 1) (t := 2) rfl rfl
  clear hA0 hsz0 hsz
  obtain ⟨k, h⟩ := Pure.SpanCuts a0 a1 g0 g1
  have hG : Glob W := Glob.start hsh (show laidMet Tryd.prog Rows.spanCutsRow.laid W from hL) (by simp [Rows.spanCutsRow]) (by simp [Rows.spanCutsRow]) (by simp [Rows.spanCutsRow])
  refine (mandolinelaw01_SpanCuts.calls k a0.f0 a0.f1 a1 true W hG  h).mono fun e W' ⟨he, bel⟩ => ?_
  subst he
  exact ⟨_, rfl, _, _, _, [], _, [], hW', trodAll_mk1 (shut_bool Tryd.underlying4 _), (trodAll_cons_mk (Below.trod laidOut (by kernel_rfl) (of_decide_eq_true (by kernel_rfl)) k0 bel lt0) (trodAll_cons_mk (Below.trod laidOut (by kernel_rfl) (of_decide_eq_true (by kernel_rfl)) k1 bel lt1) trodAll_mk0)), rfl, bel.frame _, fun h => by cases h⟩
/-- A world for the witness: the settled one, the listed variables holding what they list (Derived/Lay.lean). -/
noncomputable def laidWorld (os : Os) : World := World.laidAll Tryd.prog os Rows.spanCutsRow.laid
theorem laid_met (os : Os) : laidMet Tryd.prog Rows.spanCutsRow.laid ((laidWorld os).forCall (fun _ _ => 0) ⟨#[], #[.agg #[.int .i64 0, .int .i64 0], .int .i64 0], []⟩).memory := laidMet_laidAll _ (by kernel_rfl) (by kernel_rfl)
theorem reads (os : Os) {H : Type} (enc : TypeId × Value → H) : ∃ places, DataW.whole enc Tryd.prog ((laidWorld os).forCall (fun _ _ => 0) ⟨#[], #[.agg #[.int .i64 0, .int .i64 0], .int .i64 0], []⟩).memory Tryd.f6.params.toList Rows.spanCutsSpec.vars false (#[.agg #[.int .i64 0, .int .i64 0], .int .i64 0] : Array Value).toList 8 = some ([.agg [.lit (.int .i64 0), .lit (.int .i64 0)], .lit (.int .i64 0)], [], places) := ⟨[], by kernel_rfl⟩
theorem lifted (os : Os) (started : os.Started) (H : Type) (enc : TypeId × Value → H) (F : Stop.Interp) :
    ReturnsInHanded {} Tryd.checked os 6 .any ((OpenSpec.ofChange Rows.spanCutsSpec).preRow enc Tryd.prog Tryd.f6 Rows.spanCutsRow.domain false Rows.spanCutsRow.laid) (((OpenSpec.ofChange Rows.spanCutsSpec).at F).post enc Tryd.prog Tryd.f6 false true false false) := by
  obtain ⟨places, hx⟩ := reads os enc
  refine returnsInHanded_of_row (C := Tryd.checked) (s := OpenSpec.ofChange Rows.spanCutsSpec) own started (by kernel_rfl) Tryd.func6
    (witness_row_at (enc := enc) (C := Tryd.checked) false (laidWorld os) #[.agg #[.int .i64 0, .int .i64 0], .int .i64 0] (World.laidAll_os _ _ _) (by kernel_rfl) (by kernel_rfl) (by kernel_rfl)
      (OpenSpec.preRow_of_cond 8 hx (by kernel_rfl) (fun k hk => by cases hk) (by kernel_rfl) (laid_met os))) ?_
  intro W base args ds gs before hval hW _ _ hsz hL hsh _
  exact contract H enc W base args ds gs before hval hW hsz hL hsh
theorem said : Rows.SpanCutsSaid :=
  OpenClaim.holds_of_cond 6 Tryd.f6 rfl rfl rfl rfl rfl rfl rfl ⟨rfl, rfl, rfl, rfl, rfl⟩ rfl rfl rfl rfl rfl (by kernel_rfl) Tryd.func6 (by kernel_rfl)
    (of_decide_eq_true (by kernel_rfl)) (by unfold Func.isWrapper; first | (rw [if_pos (by decide +kernel)]; kernel_rfl) | (rw [if_neg (by decide +kernel)]; exact ⟨rfl, rfl⟩))
    (fun os started H enc _ F => by rw [OpenClaim.pre_eq_preRow]; exact lifted os started H enc F)
/-- No parameter wants a stand-in; the program's own looks are off. -/
theorem plain (f : FuncId) (fn : Func) (hf : Tryd.pinned.checked.prog.funcNamed "mandoline/mandolinelaw01.SpanCuts" = some f) (hfn : Tryd.pinned.checked.prog.funcs[f]? = some fn) :
    true = Tryd.pinned.checked.prog.looks [] ∧ ∀ (j : Nat) t, fn.params[j]? = some t → Tryd.pinned.checked.prog.wantsStandIn t = false := by
  obtain rfl : f = 6 := Option.some.inj ((show Tryd.prog.funcNamed "mandoline/mandolinelaw01.SpanCuts" = some 6 by kernel_rfl).symm.trans hf) |>.symm
  obtain rfl : fn = Tryd.f6 := (Option.some.inj (Tryd.func6.symm.trans hfn)).symm
  refine ⟨by kernel_rfl, fun j t ht => ?_⟩
  rw [Tryd.params6] at ht
  have hm : t ∈ [23, 2] := by simpa using Array.mem_of_getElem? ht
  have hall : ([23, 2].all fun u => !Tryd.prog.wantsStandIn u) = true := by kernel_rfl
  exact (show Tryd.prog.wantsStandIn t = false by simpa using List.all_eq_true.1 hall t hm)
theorem card : Rows.SpanCutsCardSaid :=
  Claim7.holds_tied_plain_at .later [] _ _ _ _ said (fun _ h => by cases h) (by kernel_rfl) (fun _ h => by cases h) spanCuts_row_tie rfl ⟨rfl, rfl⟩ (by kernel_rfl) rfl plain (by kernel_rfl)
end Go.Proofs.YtigfmjmdacligaaDoor.spanCuts
namespace Go.Proofs.YtigfmjmdacligaaDoor
/-- The statement, under a short name, for the claim. -/
theorem spanCuts_holds : Rows.SpanCutsCardSaid := spanCuts.card
#print axioms spanCuts_holds
end Go.Proofs.YtigfmjmdacligaaDoor
