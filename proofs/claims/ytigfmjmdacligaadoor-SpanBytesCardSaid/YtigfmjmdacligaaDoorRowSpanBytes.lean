/- SpanBytes: the row and the card of the law, out of its printed walk and its pure statement: for every input that the row speaks of, the law returns true and leaves its arguments as they read. -/
import Derived.Test.YtigfmjmdacligaaDoorRows
import Derived.Test.YtigfmjmdacligaaDoorCards
import Derived.Test.YtigfmjmdacligaaDoorTie
import Derived.Test.YtigfmjmdacligaaDoorOpen
import Derived.Test.YtigfmjmdacligaaDoorX28
import Derived.Test.YtigfmjmdacligaaDoorPureSpanBytes
import Derived.Test.YtigfmjmdacligaaDoorGlob
import Derived.WalkKit
import Derived.ProofKit
import Derived.OpenShut
import Derived.ShutString
import Derived.ChangeOld
import Derived.Below
import Derived.SizedLaws
import Derived.Deep.DeepHandedRow
import Derived.Lib.LaidTab
import Derived.SevenTiedAt
import Derived.Lay
namespace Go.Proofs.YtigfmjmdacligaaDoor.spanBytes
open Go.ChangeShapes Go.WideShapes Go.ChangeAt Go.RowKit Go.Proofs.YtigfmjmdacligaaDoor Go.Proofs.YtigfmjmdacligaaDoor.X Go.Proofs.YtigfmjmdacligaaDoorW.PrintWords
set_option linter.unusedVariables false
set_option maxRecDepth 100000
theorem own : ownKnob Tryd.prog.godebug = none := by kernel_rfl
theorem laidOut : laidOutB Tryd.prog = true := by kernel_rfl
theorem o2 : Opens Tryd.prog 2 (Kd.int .i64) (fun a => (Lit.int .i64 a).wf = true) := Opens.int Tryd.underlying2 (by kernel_rfl)
theorem o23 : Opens Tryd.prog 23 k23 (fun a => ((Lit.int .i64 a.f0).wf = true) ∧ ((Lit.int .i64 a.f1).wf = true)) := Opens.iso (fun x : S23 => (x.f0, x.f1)) (fun p => ⟨p.1, p.2⟩) (fun _ => rfl) (Opens.struct Tryd.underlying23 (by kernel_rfl) (OpensFs.cons rfl o2 (OpensFs.one rfl o2)))
theorem contract (H : Type) (enc : TypeId × Value → H) (W : World) (base : Nat) (args : Array Value) (ds gs : List (DataW H)) (before : List MemPlace)
    (hval : ∀ (j : Nat) t v, Tryd.f10.params[j]? = some t → args[j]? = some v → Value.okWide Tryd.prog W .any base t v)
    (hW : DataW.Whole enc Tryd.prog Tryd.f10.params.toList Rows.spanBytesSpec.vars false W args.toList ds gs before) (hsz0 : (DataW.weightsEach Tryd.prog (Tryd.f10.params.toList ++ (OpenSpec.ofChange Rows.spanBytesSpec).bare.plain.varTypes Tryd.prog) (ds ++ gs)).all (· ≤ reachBytes) = true)
    (hL : laidMetH Tryd.prog Rows.spanBytesRow.laid W) (hsh : W.ShapedOpen Tryd.prog) :
    Calls Tryd.prog 10 args W fun e W' => ∃ v, e = .returned v ∧ Rows.spanBytesSpec.post enc Tryd.prog Tryd.f10 false true false false W args v W' := by
  have hsz : (DataW.weightsEach Tryd.prog (Tryd.f10.params.toList ++ (OpenSpec.ofChange Rows.spanBytesSpec).bare.plain.varTypes Tryd.prog) (ds ++ gs)).all (· ≤ reachBytes) = true := hsz0
  have hW' := hW
  obtain ⟨p, q, hA0, hV, rfl, hfz, hnd⟩ := hW
  have hA : DataW.TrodAll enc Tryd.prog W 0 (fun _ => true) true Tryd.f10.params.toList args.toList ds p := hA0
  rw [Tryd.params10] at hA hval hsz
  obtain ⟨v0, vs0, d0, ds0, p0, q0, hargs, rfl, rfl, h0, r0⟩ := trodAll_cons hA
  obtain ⟨v1, vs1, d1, ds1, p1, q1, rfl, rfl, rfl, h1, r1⟩ := trodAll_cons r0
  obtain ⟨v2, vs2, d2, ds2, p2, q2, rfl, rfl, rfl, h2, r2⟩ := trodAll_cons r1
  obtain ⟨rfl, rfl, rfl⟩ := trodAll_nil r2
  obtain rfl : args = #[v0, v1, v2] := by cases args; simp_all
  obtain ⟨rfl, rfl⟩ := trodVars_none hV
  have k0 := h0
  have lt0 : ∀ x ∈ p0, x.block < W.heap.size := by obtain ⟨m, hm⟩ := k0; exact DataW.trod_lt m _ _ _ hm
  obtain ⟨cs0, a0, rfl, hk0, g0⟩ := Opens.argAgg Tryd.underlying23 o23 (hval 0 23 v0 rfl rfl) h0 hsz (j := 0) (t := 23) rfl rfl
  obtain rfl := k23_open hk0
  have k1 := h1
  have lt1 : ∀ x ∈ p1, x.block < W.heap.size := by obtain ⟨m, hm⟩ := k1; exact DataW.trod_lt m _ _ _ hm
  obtain ⟨cs1, a1, rfl, hk1, g1⟩ := Opens.argAgg Tryd.underlying23 o23 (hval 1 23 v1 rfl rfl) h1 hsz (j := 1) (t := 23) rfl rfl
  obtain rfl := k23_open hk1
  have k2 := h2
  have lt2 : ∀ x ∈ p2, x.block < W.heap.size := by obtain ⟨m, hm⟩ := k2; exact DataW.trod_lt m _ _ _ hm
  obtain ⟨a2, rfl, g2⟩ := Opens.argInt Tryd.underlying2 o2 (hval 2 2 v2 rfl rfl) h2 hsz (j := 2) (t := 2) rfl rfl
  clear hA0 hsz0 hsz
  obtain ⟨k, h⟩ := Pure.SpanBytes a0 a1 a2 g0 g1 g2
  have hG : Glob W := Glob.start hsh (show laidMet Tryd.prog Rows.spanBytesRow.laid W from hL) (by simp [Rows.spanBytesRow]) (by simp [Rows.spanBytesRow]) (by simp [Rows.spanBytesRow])
  refine (mandolinelaw01_SpanBytes.calls k a0.f0 a0.f1 a1.f0 a1.f1 a2 true W hG  h).mono fun e W' ⟨he, bel⟩ => ?_
  subst he
  exact ⟨_, rfl, _, _, _, [], _, [], hW', trodAll_mk1 (shut_bool Tryd.underlying4 _), (trodAll_cons_mk (Below.trod laidOut (by kernel_rfl) (of_decide_eq_true (by kernel_rfl)) k0 bel lt0) (trodAll_cons_mk (Below.trod laidOut (by kernel_rfl) (of_decide_eq_true (by kernel_rfl)) k1 bel lt1) (trodAll_cons_mk (Below.trod laidOut (by kernel_rfl) (of_decide_eq_true (by kernel_rfl)) k2 bel lt2) trodAll_mk0))), rfl, bel.frame _, fun h => by cases h⟩
/-- A world for the witness: the settled one, the listed variables holding what they list (Derived/Lay.lean). -/
noncomputable def laidWorld (os : Os) : World := World.laidAll Tryd.prog os Rows.spanBytesRow.laid
theorem laid_met (os : Os) : laidMet Tryd.prog Rows.spanBytesRow.laid ((laidWorld os).forCall (fun _ _ => 0) ⟨#[], #[.agg #[.int .i64 0, .int .i64 0], .agg #[.int .i64 0, .int .i64 0], .int .i64 0], []⟩).memory := laidMet_laidAll _ (by kernel_rfl) (by kernel_rfl)
theorem reads (os : Os) {H : Type} (enc : TypeId × Value → H) : ∃ places, DataW.whole enc Tryd.prog ((laidWorld os).forCall (fun _ _ => 0) ⟨#[], #[.agg #[.int .i64 0, .int .i64 0], .agg #[.int .i64 0, .int .i64 0], .int .i64 0], []⟩).memory Tryd.f10.params.toList Rows.spanBytesSpec.vars false (#[.agg #[.int .i64 0, .int .i64 0], .agg #[.int .i64 0, .int .i64 0], .int .i64 0] : Array Value).toList 8 = some ([.agg [.lit (.int .i64 0), .lit (.int .i64 0)], .agg [.lit (.int .i64 0), .lit (.int .i64 0)], .lit (.int .i64 0)], [], places) := ⟨[], by kernel_rfl⟩
theorem lifted (os : Os) (started : os.Started) (H : Type) (enc : TypeId × Value → H) (F : Stop.Interp) :
    ReturnsInHanded {} Tryd.checked os 10 .any ((OpenSpec.ofChange Rows.spanBytesSpec).preRow enc Tryd.prog Tryd.f10 Rows.spanBytesRow.domain false Rows.spanBytesRow.laid) (((OpenSpec.ofChange Rows.spanBytesSpec).at F).post enc Tryd.prog Tryd.f10 false true false false) := by
  obtain ⟨places, hx⟩ := reads os enc
  refine returnsInHanded_of_row (C := Tryd.checked) (s := OpenSpec.ofChange Rows.spanBytesSpec) own started (by kernel_rfl) Tryd.func10
    (witness_row_at (enc := enc) (C := Tryd.checked) false (laidWorld os) #[.agg #[.int .i64 0, .int .i64 0], .agg #[.int .i64 0, .int .i64 0], .int .i64 0] (World.laidAll_os _ _ _) (by kernel_rfl) (by kernel_rfl) (by kernel_rfl)
      (OpenSpec.preRow_of_cond 8 hx (by kernel_rfl) (fun k hk => by cases hk) (by kernel_rfl) (laid_met os))) ?_
  intro W base args ds gs before hval hW _ _ hsz hL hsh _
  exact contract H enc W base args ds gs before hval hW hsz hL hsh
theorem said : Rows.SpanBytesSaid :=
  OpenClaim.holds_of_cond 10 Tryd.f10 rfl rfl rfl rfl rfl rfl rfl ⟨rfl, rfl, rfl, rfl, rfl⟩ rfl rfl rfl rfl rfl (by kernel_rfl) Tryd.func10 (by kernel_rfl)
    (of_decide_eq_true (by kernel_rfl)) (by unfold Func.isWrapper; first | (rw [if_pos (by decide +kernel)]; kernel_rfl) | (rw [if_neg (by decide +kernel)]; exact ⟨rfl, rfl⟩))
    (fun os started H enc _ F => by rw [OpenClaim.pre_eq_preRow]; exact lifted os started H enc F)
/-- No parameter wants a stand-in; the program's own looks are off. -/
theorem plain (f : FuncId) (fn : Func) (hf : Tryd.pinned.checked.prog.funcNamed "mandoline/mandolinelaw01.SpanBytes" = some f) (hfn : Tryd.pinned.checked.prog.funcs[f]? = some fn) :
    true = Tryd.pinned.checked.prog.looks [] ∧ ∀ (j : Nat) t, fn.params[j]? = some t → Tryd.pinned.checked.prog.wantsStandIn t = false := by
  obtain rfl : f = 10 := Option.some.inj ((show Tryd.prog.funcNamed "mandoline/mandolinelaw01.SpanBytes" = some 10 by kernel_rfl).symm.trans hf) |>.symm
  obtain rfl : fn = Tryd.f10 := (Option.some.inj (Tryd.func10.symm.trans hfn)).symm
  refine ⟨by kernel_rfl, fun j t ht => ?_⟩
  rw [Tryd.params10] at ht
  have hm : t ∈ [23, 2] := by simpa using Array.mem_of_getElem? ht
  have hall : ([23, 2].all fun u => !Tryd.prog.wantsStandIn u) = true := by kernel_rfl
  exact (show Tryd.prog.wantsStandIn t = false by simpa using List.all_eq_true.1 hall t hm)
theorem card : Rows.SpanBytesCardSaid :=
  Claim7.holds_tied_plain_at .later [] _ _ _ _ said (fun _ h => by cases h) (by kernel_rfl) (fun _ h => by cases h) spanBytes_row_tie rfl ⟨rfl, rfl⟩ (by kernel_rfl) rfl plain (by kernel_rfl)
end Go.Proofs.YtigfmjmdacligaaDoor.spanBytes
namespace Go.Proofs.YtigfmjmdacligaaDoor
/-- The statement, under a short name, for the claim. -/
theorem spanBytes_holds : Rows.SpanBytesCardSaid := spanBytes.card
#print axioms spanBytes_holds
end Go.Proofs.YtigfmjmdacligaaDoor
