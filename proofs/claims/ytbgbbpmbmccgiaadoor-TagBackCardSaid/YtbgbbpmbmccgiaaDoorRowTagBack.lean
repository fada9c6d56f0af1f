/- TagBack: the row and the card of the law, out of its printed walk and its pure statement: for every input that the row speaks of, the law returns true and leaves its arguments as they read. -/
import Derived.Test.YtbgbbpmbmccgiaaDoorRows
import Derived.Test.YtbgbbpmbmccgiaaDoorCards
import Derived.Test.YtbgbbpmbmccgiaaDoorTie
import Derived.Test.YtbgbbpmbmccgiaaDoorOpen
import Derived.Test.YtbgbbpmbmccgiaaDoorX21
import Derived.Test.YtbgbbpmbmccgiaaDoorPureTagBack
import Derived.WalkKit
import Derived.ProofKit
import Derived.OpenShut
import Derived.ShutString
import Derived.ChangeOld
import Derived.Below
import Derived.SizedLaws
import Derived.Deep.DeepHandedRow
import Derived.Lib.LaidTab
import Derived.SevenTiedAt
namespace Go.Proofs.YtbgbbpmbmccgiaaDoor.tagBack
open Go.ChangeShapes Go.WideShapes Go.ChangeAt Go.RowKit Go.Proofs.YtbgbbpmbmccgiaaDoor Go.Proofs.YtbgbbpmbmccgiaaDoor.X Go.Proofs.YtbgbbpmbmccgiaaDoorW.PrintWords
set_option linter.unusedVariables false
set_option maxRecDepth 100000
theorem own : ownKnob Tryd.prog.godebug = none := by kernel_rfl
theorem laidOut : laidOutB Tryd.prog = true := by kernel_rfl
theorem o9 : Opens Tryd.prog 9 Kd.string (fun a => a.size ≤ reachBytes) := Opens.string Tryd.underlying9 (by kernel_rfl)
theorem o4 : Opens Tryd.prog 4 Kd.bool (fun a => True) := Opens.bool Tryd.underlying4 (by kernel_rfl)
theorem o23 : Opens Tryd.prog 23 k23 (fun a => (a.f0.size ≤ reachBytes) ∧ (True)) := Opens.iso (fun x : S23 => (x.f0, x.f1)) (fun p => ⟨p.1, p.2⟩) (fun _ => rfl) (Opens.struct Tryd.underlying23 (by kernel_rfl) (OpensFs.cons rfl o9 (OpensFs.one rfl o4)))
theorem o30 : Opens Tryd.prog 30 (Kd.slice 23 k23) (fun a => a.length * 24 ≤ reachBytes ∧ ∀ a2 ∈ a, (a2.f0.size ≤ reachBytes) ∧ (True)) := Opens.slice Tryd.underlying30 (by kernel_rfl) (B := 24) (by kernel_rfl) o23
theorem contract (H : Type) (enc : TypeId × Value → H) (W : World) (base : Nat) (args : Array Value) (ds gs : List (DataW H)) (before : List MemPlace)
    (hval : ∀ (j : Nat) t v, Tryd.f6.params[j]? = some t → args[j]? = some v → Value.okWide Tryd.prog W .any base t v)
    (hW : DataW.Whole enc Tryd.prog Tryd.f6.params.toList Rows.tagBackSpec.vars false W args.toList ds gs before) (hsz0 : (DataW.weightsEach Tryd.prog (Tryd.f6.params.toList ++ (OpenSpec.ofChange Rows.tagBackSpec).bare.plain.varTypes Tryd.prog) (ds ++ gs)).all (· ≤ reachBytes) = true)
    (hL : laidMetH Tryd.prog Rows.tagBackRow.laid W) (hsh : W.ShapedOpen Tryd.prog) :
    Calls Tryd.prog 6 args W fun e W' => ∃ v, e = .returned v ∧ Rows.tagBackSpec.post enc Tryd.prog Tryd.f6 false true false false W args v W' := by
  have hsz : (DataW.weightsEach Tryd.prog (Tryd.f6.params.toList ++ (OpenSpec.ofChange Rows.tagBackSpec).bare.plain.varTypes Tryd.prog) (ds ++ gs)).all (· ≤ reachBytes) = true := hsz0
  have hW' := hW
  obtain ⟨p, q, hA0, hV, rfl, hfz, hnd⟩ := hW
  have hA : DataW.TrodAll enc Tryd.prog W 0 (fun _ => true) true Tryd.f6.params.toList args.toList ds p := hA0
  rw [Tryd.params6] at hA hval hsz
  obtain ⟨v0, vs0, d0, ds0, p0, q0, hargs, rfl, rfl, h0, r0⟩ := trodAll_cons hA
  obtain ⟨rfl, rfl, rfl⟩ := trodAll_nil r0
  obtain rfl : args = #[v0] := by cases args; simp_all
  obtain ⟨rfl, rfl⟩ := trodVars_none hV
  have k0 := h0
  have lt0 : ∀ x ∈ p0, x.block < W.heap.size := by obtain ⟨m, hm⟩ := k0; exact DataW.trod_lt m _ _ _ hm
  obtain ⟨A0, c0, a0, rfl, hc0, hr0, g0⟩ := Opens.argSlice Tryd.underlying30 o30 (hval 0 30 v0 rfl rfl) h0 hsz (j := 0) (t := 30) rfl rfl
  clear hA0 hsz0 hsz
  obtain ⟨k, h⟩ := Pure.TagBack a0 g0
  refine (mandolinelaw05_TagBack.calls k A0 c0 a0 true W  hr0 hc0 h).mono fun e W' ⟨he, bel⟩ => ?_
  subst he
  exact ⟨_, rfl, _, _, _, [], _, [], hW', trodAll_mk1 (shut_bool Tryd.underlying4 _), (trodAll_cons_mk (Below.trod laidOut (by kernel_rfl) (of_decide_eq_true (by kernel_rfl)) k0 bel lt0) trodAll_mk0), rfl, bel.frame _, fun h => by cases h⟩
/-- A world for the witness: the settled one, the listed tables holding what they list. -/
noncomputable def laidWorld (os : Os) : World := { World.holding Tryd.prog os ⟨#[], #[], []⟩ with heap := (((World.holding Tryd.prog os ⟨#[], #[], []⟩).heap).modify ((Tryd.prog.globalNamed "unicode/utf8.acceptRanges").getD 0) (lay Rows.laid_unicode_utf8_acceptRanges)).modify ((Tryd.prog.globalNamed "unicode/utf8.first").getD 0) (lay Rows.laid_unicode_utf8_first) }
theorem laid_met (os : Os) : laidMet Tryd.prog Rows.tagBackRow.laid ((laidWorld os).forCall (fun _ _ => 0) ⟨#[], #[.slice none 0 0], []⟩).memory := laidMet_of_run' 8 (by kernel_rfl) (by kernel_rfl)
theorem reads (os : Os) {H : Type} (enc : TypeId × Value → H) : ∃ places, DataW.whole enc Tryd.prog ((laidWorld os).forCall (fun _ _ => 0) ⟨#[], #[.slice none 0 0], []⟩).memory Tryd.f6.params.toList Rows.tagBackSpec.vars false (#[.slice none 0 0] : Array Value).toList 8 = some ([.nil], [], places) := ⟨[], by kernel_rfl⟩
theorem lifted (os : Os) (started : os.Started) (H : Type) (enc : TypeId × Value → H) (F : Stop.Interp) :
    ReturnsInHanded {} Tryd.checked os 6 .any ((OpenSpec.ofChange Rows.tagBackSpec).preRow enc Tryd.prog Tryd.f6 Rows.tagBackRow.domain false Rows.tagBackRow.laid) (((OpenSpec.ofChange Rows.tagBackSpec).at F).post enc Tryd.prog Tryd.f6 false true false false) := by
  obtain ⟨places, hx⟩ := reads os enc
  refine returnsInHanded_of_row (C := Tryd.checked) (s := OpenSpec.ofChange Rows.tagBackSpec) own started (by kernel_rfl) Tryd.func6
    (witness_row_at (enc := enc) (C := Tryd.checked) false (laidWorld os) #[.slice none 0 0] rfl (by kernel_rfl) (by kernel_rfl) (by kernel_rfl)
      (OpenSpec.preRow_of_cond 8 hx (by kernel_rfl) (fun k hk => by cases hk) (by kernel_rfl) (laid_met os))) ?_
  intro W base args ds gs before hval hW _ _ hsz hL hsh _
  exact contract H enc W base args ds gs before hval hW hsz hL hsh
theorem said : Rows.TagBackSaid :=
  OpenClaim.holds_of_cond 6 Tryd.f6 rfl rfl rfl rfl rfl rfl rfl ⟨rfl, rfl, rfl, rfl, rfl⟩ rfl rfl rfl rfl rfl (by kernel_rfl) Tryd.func6 (by kernel_rfl)
    (of_decide_eq_true (by kernel_rfl)) (by unfold Func.isWrapper; first | (rw [if_pos (by decide +kernel)]; kernel_rfl) | (rw [if_neg (by decide +kernel)]; exact ⟨rfl, rfl⟩))
    (fun os started H enc _ F => by rw [OpenClaim.pre_eq_preRow]; exact lifted os started H enc F)
/-- No parameter wants a stand-in; the program's own looks are off. -/
theorem plain (f : FuncId) (fn : Func) (hf : Tryd.pinned.checked.prog.funcNamed "mandoline/mandolinelaw05.TagBack" = some f) (hfn : Tryd.pinned.checked.prog.funcs[f]? = some fn) :
    false = Tryd.pinned.checked.prog.looks [] ∧ ∀ (j : Nat) t, fn.params[j]? = some t → Tryd.pinned.checked.prog.wantsStandIn t = false := by
  obtain rfl : f = 6 := Option.some.inj ((show Tryd.prog.funcNamed "mandoline/mandolinelaw05.TagBack" = some 6 by kernel_rfl).symm.trans hf) |>.symm
  obtain rfl : fn = Tryd.f6 := (Option.some.inj (Tryd.func6.symm.trans hfn)).symm
  refine ⟨by kernel_rfl, fun j t ht => ?_⟩
  rw [Tryd.params6] at ht
  have hm : t ∈ [30] := by simpa using Array.mem_of_getElem? ht
  have hall : ([30].all fun u => !Tryd.prog.wantsStandIn u) = true := by kernel_rfl
  exact (show Tryd.prog.wantsStandIn t = false by simpa using List.all_eq_true.1 hall t hm)
theorem card : Rows.TagBackCardSaid :=
  Claim7.holds_tied_plain_at .later [] _ _ _ _ said (fun _ h => by cases h) (by kernel_rfl) (fun _ h => by cases h) tagBack_row_tie rfl ⟨rfl, rfl⟩ (by kernel_rfl) rfl plain (by kernel_rfl)
end Go.Proofs.YtbgbbpmbmccgiaaDoor.tagBack
namespace Go.Proofs.YtbgbbpmbmccgiaaDoor
/-- The statement, under a short name, for the claim. -/
theorem tagBack_holds : Rows.TagBackCardSaid := tagBack.card
#print axioms tagBack_holds
end Go.Proofs.YtbgbbpmbmccgiaaDoor
