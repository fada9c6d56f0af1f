/- What package-level variables hold that the library's contracts ask of: drawn out of a row's first world, kept by what makes new blocks alone. Written by globgen.py. -/
import Derived.Test.YtiifmbajiibciaaDoorRows
import Derived.Shelf.Vars
import Derived.RowKit
import Derived.Below
import Derived.Lib.LaidTab
import Derived.Lib.ItoaNum
import Derived.Lib.SmallJoins
import Derived.Stop.LaidErr
namespace Go.Proofs.YtiifmbajiibciaaDoor
open Go.RowKit Go.Proofs
set_option linter.unusedVariables false
theorem laid_at {P : Program} {x : String × DataW Unit} {W : World} : ∀ {l : List (String × DataW Unit)}, laidMet P l W → x ∈ l → ∃ r, laidMet P (x :: r) W
  | y :: l, h, hm => by
    rcases List.mem_cons.1 hm with rfl | hm
    · exact ⟨l, h⟩
    · exact laid_at (laidMet.tail h) hm
theorem tab_of_laid {P : Program} {W : World} {l : List (String × DataW Unit)} {name : String} {k : IntKind} {zs : List Int} {g : Nat} {t e : TypeId} {n : Nat}
    (hg : P.globalNamed name = some g) (hty : (P.globals[g]?).map (·.type) = some t) (ht : P.underlying t = some (.array n e)) (he : P.underlying e = some (.int k)) (hce : P.cellsOf e = 1) (hct : P.cellsOf t = n)
    (h : laidMet P l W) (hm : (name, Lib.tabData k zs) ∈ l) : Lib.TabIs P W name k zs := by
  obtain ⟨r, h'⟩ := laid_at h hm
  exact Lib.tabIs_of_head hg hty ht he hce hct h'
theorem iface_of_laid {P : Program} {W : World} {l : List (String × DataW Unit)} {name nm : String} {d : DataW Unit} {g : Nat} {t : TypeId} {ms : Array (String × TypeId)}
    (hg : P.globalNamed name = some g) (hty : (P.globals[g]?).map (·.type) = some t) (ht : P.underlying t = some (.interface ms))
    (h : laidMet P l W) (hm : (name, DataW.iface nm d) ∈ l) : ∃ ev, W.cell? ⟨g, 0, none⟩ = some ev ∧ (ev = .nilIface ∨ ∃ te pe, ev = .iface te pe) := by
  obtain ⟨r, ps, ⟨g', t', cs, fuel, p, q, hg', ht', hvar, hd, _, _⟩, _⟩ := laid_at h hm
  obtain rfl := Option.some.inj (hg.symm.trans hg')
  obtain rfl := Option.some.inj (hty.symm.trans ht')
  obtain ⟨cs⟩ := cs
  have hform : ∃ u v, cs = [.iface u v] := by
    cases fuel with
    | zero => simp [DataW.trod] at hd
    | succ fuel =>
      simp only [DataW.trod, ht] at hd
      split at hd <;> first | exact ⟨_, _, rfl⟩ | (exfalso; injections; done) | exact absurd hd (by simp)
  obtain ⟨u, v, rfl⟩ := hform
  exact ⟨_, by simpa using World.var?_cell hg hvar 0, .inr ⟨u, v, rfl⟩⟩
structure Glob (w : World) : Prop where
  maxLen : ∃ m, w.cell? ⟨2, 0, none⟩ = some (.int .i64 m)
  pow10 : Lib.TabIs Tryd.prog w "internal/strconv.uint64pow10" .u64 Lib.pow10Tab
  errSyntax : ∃ ev, w.cell? ⟨0, 0, none⟩ = some ev ∧ (ev = .nilIface ∨ ∃ te pe, ev = .iface te pe)
  errRange : ∃ ev, w.cell? ⟨1, 0, none⟩ = some ev ∧ (ev = .nilIface ∨ ∃ te pe, ev = .iface te pe)
theorem Glob.below {w w' : World} (h : Glob w) (hb : Below w.heap.size w w') : Glob w' :=
  ⟨by obtain ⟨m, hm⟩ := h.maxLen; exact ⟨m, (hb.cell (World.block_lt_of_cell? w _ hm)).trans hm⟩,
   Go.Joins.tab_stays (g := 3) (by kernel_rfl) h.pow10 hb (Nat.le_refl _),
   by obtain ⟨ev, h1, h2⟩ := h.errSyntax; exact ⟨ev, (hb.cell (World.block_lt_of_cell? w _ h1)).trans h1, h2⟩,
   by obtain ⟨ev, h1, h2⟩ := h.errRange; exact ⟨ev, (hb.cell (World.block_lt_of_cell? w _ h1)).trans h1, h2⟩⟩
theorem Glob.start {w : World} {l : List (String × DataW Unit)} (h : w.ShapedOpen Tryd.prog) (hL : laidMet Tryd.prog l w) (h1 : ("internal/strconv.uint64pow10", (Rows.laid_internal_strconv_uint64pow10 : DataW Unit)) ∈ l) (herrSyntax : ("strconv.ErrSyntax", (Rows.laid_strconv_ErrSyntax : DataW Unit)) ∈ l) (herrRange : ("strconv.ErrRange", (Rows.laid_strconv_ErrRange : DataW Unit)) ∈ l) : Glob w :=
  ⟨cell_of_shapedOpen_int (zero := #[.int .i64 0]) (t := 3) h (of_decide_eq_true (by kernel_rfl)) (by kernel_rfl) rfl (by kernel_rfl) (by kernel_rfl) Tryd.underlying3,
   tab_of_laid (g := 3) (t := 103) (e := 87) (n := 20) (by kernel_rfl) (by kernel_rfl) Tryd.underlying103 Tryd.underlying87 (by kernel_rfl) (by kernel_rfl) hL h1,
   iface_of_laid (g := 0) (t := 53) (by kernel_rfl) (by kernel_rfl) Tryd.underlying53 hL herrSyntax,
   iface_of_laid (g := 1) (t := 53) (by kernel_rfl) (by kernel_rfl) Tryd.underlying53 hL herrRange⟩
end Go.Proofs.YtiifmbajiibciaaDoor
