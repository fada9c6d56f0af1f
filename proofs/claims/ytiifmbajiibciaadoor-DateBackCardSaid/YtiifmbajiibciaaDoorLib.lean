/- Small lemmas between the print's words and the shelf's contracts: a slice of strings that is read, cell by cell. No condition. -/
import Derived.Test.YtiifmbajiibciaaDoorWWords
import Derived.Shelf.Strings.SlTrimAscii
import Derived.Test.YtiifmbajiibciaaDoorShelf
namespace Go.Proofs.YtiifmbajiibciaaDoor
open Go.RowKit Go.Proofs.YtiifmbajiibciaaDoorW.PrintWords

theorem Strs.cells {w : World} {A : Option Addr} {l : List ByteArray} (h : Kd.C Kd.string w A l.length l) (h0 : 0 < l.length) :
    ∃ bk o, A = some ⟨bk, o, none⟩ ∧ ∀ (j : Nat) x, l[j]? = some x → w.cell? ⟨bk, o + j, none⟩ = some (.string x) := by
  obtain ⟨ad, e, hc⟩ := h.2.2 h0
  have hat : ∀ (j : Nat) x, l[j]? = some x → w.cell? (ad.add j) = some (.string x) := by
    intro j x hx
    obtain ⟨c, _, hk, hcell⟩ := hc j x hx
    obtain rfl : c = [.string x] := hk
    have := hcell 0 _ rfl
    rwa [show Kd.string.sz = 1 from rfl, Nat.mul_one, Nat.add_zero] at this
  obtain ⟨b, off, spot⟩ := ad
  have hspot : spot = none := by
    have := World.cell?_spot (hat 0 _ (List.getElem?_eq_getElem h0))
    simpa [Addr.add] using this
  subst hspot
  exact ⟨b, off, e, fun j x hx => by rw [← Go.WideShapes.add_plain]; exact hat j x hx⟩
theorem Strs.lt {w : World} {l : List ByteArray} {bk o : Nat} (h : ∀ (j : Nat) x, l[j]? = some x → w.cell? ⟨bk, o + j, none⟩ = some (.string x)) (h0 : 0 < l.length) : bk < w.heap.size :=
  World.block_lt_of_cell? w _ (h 0 _ (List.getElem?_eq_getElem h0))
end Go.Proofs.YtiifmbajiibciaaDoor
