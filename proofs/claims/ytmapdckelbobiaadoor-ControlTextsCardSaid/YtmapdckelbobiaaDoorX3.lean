-- Printed by a program of this session (pp.py: the kit's print.py, run with contracts of its own) out of the translation. Not trusted: Lean checks it.
import Derived.Test.YtmapdckelbobiaaDoorX0
import Derived.Test.YtmapdckelbobiaaDoorX2
namespace Go.Proofs.YtmapdckelbobiaaDoor.X
open Go.RowKit Go.Proofs.YtmapdckelbobiaaDoorW.PrintWords Go.Proofs.YtmapdckelbobiaaDoorW.PrintLast Go.Proofs.YtmapdckelbobiaaDoorW.PrintMore
attribute [local go_sem] max2_int min2_int max_two min_two max_three min_three max_four min_four   -- for this text's walks alone
set_option linter.unusedVariables false
set_option linter.unusedSimpArgs false

/-! ### control_Rule_say: function 27 -/
/-- A state of type 27 at block g of W; what its slices lead to came in by w0. -/
def IsS27 (w0 W : World) (g : Nat) (f0 : Int) (f1 : Int) (f2 : Int) (f3 : Int) (f4 : Bool) (f5 : Bool) (f6 : Bool) : Prop := W.heap[g]? = some (.cells #[.int .i64 f0, .int .i64 f1, .int .i64 f2, .int .i64 f3, .bool f4, .bool f5, .bool f6] 27 (0, 0)) ∧ w0.heap.size ≤ g
theorem IsS27.grown {w0 W : World} {g : Nat} {f0 : Int} {f1 : Int} {f2 : Int} {f3 : Int} {f4 : Bool} {f5 : Bool} {f6 : Bool} {W1 : World} {row : Option Nat} (h : IsS27 w0 W g f0 f1 f2 f3 f4 f5 f6) (hw : W.grownBy W1 row) (hne : some g ≠ row) : IsS27 w0 W1 g f0 f1 f2 f3 f4 f5 f6 := by
  obtain ⟨hb, hg⟩ := h
  exact ⟨blk_grown hb hw hne, hg⟩
theorem IsS27.own_neN {w0 W : World} {g : Nat} {f0 : Int} {f1 : Int} {f2 : Int} {f3 : Int} {f4 : Bool} {f5 : Bool} {f6 : Bool} {α : Type} {d : Kd α} {e : Nat} {base : Nat} {ok : Nat → Prop} {v : Value} {xs : List α} (h : IsS27 w0 W g f0 f1 f2 f3 f4 f5 f6) (ho : Kd.N d e W base ok v xs) (ht : e ≠ 27) : some g ≠ v.ownBlock := by
  obtain ⟨hb, hg⟩ := h
  exact Kd.N_ne ho hb ht
theorem IsS27.fresh {w0 W : World} {g : Nat} {f0 : Int} {f1 : Int} {f2 : Int} {f3 : Int} {f4 : Bool} {f5 : Bool} {f6 : Bool} (h : IsS27 w0 W g f0 f1 f2 f3 f4 f5 f6) : ∀ k, W.heap.size ≤ k → k ≠ g := by
  obtain ⟨hb, hg⟩ := h
  exact Kd.freshB hb
theorem IsS27.kept {w0 W : World} {g : Nat} {f0 : Int} {f1 : Int} {f2 : Int} {f3 : Int} {f4 : Bool} {f5 : Bool} {f6 : Bool} {W1 : World} {S : Nat → Prop} (h : IsS27 w0 W g f0 f1 f2 f3 f4 f5 f6) (hk : Kept W W1 S) (hne : ¬ S g) : IsS27 w0 W1 g f0 f1 f2 f3 f4 f5 f6 := by
  obtain ⟨hb, hg⟩ := h
  exact ⟨blk_kept hb hk hne, hg⟩
theorem IsS27.below {w0 W : World} {g : Nat} {f0 : Int} {f1 : Int} {f2 : Int} {f3 : Int} {f4 : Bool} {f5 : Bool} {f6 : Bool} {W1 : World} (h : IsS27 w0 W g f0 f1 f2 f3 f4 f5 f6) (hw : Below W.heap.size W W1) : IsS27 w0 W1 g f0 f1 f2 f3 f4 f5 f6 := h.grown (grown_of_below hw none) (by simp)
theorem IsS27.alloc {w0 W : World} {g : Nat} {f0 : Int} {f1 : Int} {f2 : Int} {f3 : Int} {f4 : Bool} {f5 : Bool} {f6 : Bool} (h : IsS27 w0 W g f0 f1 f2 f3 f4 f5 f6) (o : Obj) : IsS27 w0 (W.alloc o) g f0 f1 f2 f3 f4 f5 f6 := h.below (below_alloc (Below.refl _ _) o)
theorem IsS27.drewN {w0 W : World} {g : Nat} {f0 : Int} {f1 : Int} {f2 : Int} {f3 : Int} {f4 : Bool} {f5 : Bool} {f6 : Bool} (h : IsS27 w0 W g f0 f1 f2 f3 f4 f5 f6) (m : Nat) : IsS27 w0 (W.drewN m) g f0 f1 f2 f3 f4 f5 f6 := h
theorem IsS27.drew {w0 W : World} {g : Nat} {f0 : Int} {f1 : Int} {f2 : Int} {f3 : Int} {f4 : Bool} {f5 : Bool} {f6 : Bool} (h : IsS27 w0 W g f0 f1 f2 f3 f4 f5 f6) : IsS27 w0 W.drew g f0 f1 f2 f3 f4 f5 f6 := h
theorem IsS27.at_ {w0 W : World} {g : Nat} {f0 : Int} {f1 : Int} {f2 : Int} {f3 : Int} {f4 : Bool} {f5 : Bool} {f6 : Bool} {w' : World} {m : Nat} (hq : W.drewN m = w') (h : IsS27 w0 W g f0 f1 f2 f3 f4 f5 f6) : IsS27 w0 w' g f0 f1 f2 f3 f4 f5 f6 := by subst hq; exact IsS27.drewN h m
theorem IsS27.apart {w0 W : World} {g : Nat} {f0 : Int} {f1 : Int} {f2 : Int} {f3 : Int} {f4 : Bool} {f5 : Bool} {f6 : Bool} {α : Type} {d : Kd α} {e : Nat} {base : Nat} {ok : Nat → Prop} {v : Value} {xs : List α} (h : IsS27 w0 W g f0 f1 f2 f3 f4 f5 f6) (ho : d.R e W base ok v xs) (ht : ∀ q, q ∈ e :: d.E → q ≠ 27) : d.R e W base (fun k => ok k ∧ k ≠ g) v xs := by
  obtain ⟨hb, hg⟩ := h
  exact Kd.R_types ho hb ht
theorem IsS27.own_ne {w0 W : World} {g : Nat} {f0 : Int} {f1 : Int} {f2 : Int} {f3 : Int} {f4 : Bool} {f5 : Bool} {f6 : Bool} {α : Type} {d : Kd α} {e : Nat} {base : Nat} {ok : Nat → Prop} {v : Value} {xs : List α} (h : IsS27 w0 W g f0 f1 f2 f3 f4 f5 f6) (ho : d.R e W base ok v xs) (ht : e ≠ 27) : some g ≠ v.ownBlock := by
  obtain ⟨hb, hg⟩ := h
  exact Kd.R_ne ho hb ht
theorem IsS27.apartQ {w0 W : World} {g : Nat} {f0 : Int} {f1 : Int} {f2 : Int} {f3 : Int} {f4 : Bool} {f5 : Bool} {f6 : Bool} {α : Type} {d : Kd α} {e : Nat} {base : Nat} {ok : Nat → Prop} {v : Value} {xs : List α} (h : IsS27 w0 W g f0 f1 f2 f3 f4 f5 f6) (ho : d.Q e W base ok v xs) (ht : ∀ q, q ∈ e :: d.E → q ≠ 27) : d.Q e W base (fun k => ok k ∧ k ≠ g) v xs := by
  obtain ⟨hb, hg⟩ := h
  exact Kd.Q_types ho hb ht
theorem IsS27.own_neQ {w0 W : World} {g : Nat} {f0 : Int} {f1 : Int} {f2 : Int} {f3 : Int} {f4 : Bool} {f5 : Bool} {f6 : Bool} {α : Type} {d : Kd α} {e : Nat} {base : Nat} {ok : Nat → Prop} {v : Value} {xs : List α} (h : IsS27 w0 W g f0 f1 f2 f3 f4 f5 f6) (ho : d.Q e W base ok v xs) (ht : e ≠ 27) : some g ≠ v.ownBlock := by
  obtain ⟨hb, hg⟩ := h
  exact Kd.Q_ne ho hb ht
theorem IsS27.apartS {w0 W : World} {g : Nat} {f0 : Int} {f1 : Int} {f2 : Int} {f3 : Int} {f4 : Bool} {f5 : Bool} {f6 : Bool} {α : Type} {d : Kd α} {e : Nat} {base : Nat} {ok : Nat → Prop} {v : Value} {xs : List α} (h : IsS27 w0 W g f0 f1 f2 f3 f4 f5 f6) (ho : d.S e W base ok v xs) (ht : ∀ q, q ∈ e :: d.E → q ≠ 27) : d.S e W base (fun k => ok k ∧ k ≠ g) v xs := by
  obtain ⟨hb, hg⟩ := h
  exact Kd.S_types ho hb ht
theorem IsS27.own_neS {w0 W : World} {g : Nat} {f0 : Int} {f1 : Int} {f2 : Int} {f3 : Int} {f4 : Bool} {f5 : Bool} {f6 : Bool} {α : Type} {d : Kd α} {e : Nat} {base : Nat} {ok : Nat → Prop} {v : Value} {xs : List α} (h : IsS27 w0 W g f0 f1 f2 f3 f4 f5 f6) (ho : d.S e W base ok v xs) (ht : e ≠ 27) : some g ≠ v.ownBlock := by
  obtain ⟨hb, hg⟩ := h
  exact Kd.S_ne ho hb ht
theorem IsS27.lt {w0 W : World} {g : Nat} {f0 : Int} {f1 : Int} {f2 : Int} {f3 : Int} {f4 : Bool} {f5 : Bool} {f6 : Bool} (h : IsS27 w0 W g f0 f1 f2 f3 f4 f5 f6) : g < W.heap.size := by
  obtain ⟨hb, hg⟩ := h
  exact blk_lt hb
theorem IsS27.ge {w0 W : World} {g : Nat} {f0 : Int} {f1 : Int} {f2 : Int} {f3 : Int} {f4 : Bool} {f5 : Bool} {f6 : Bool} (h : IsS27 w0 W g f0 f1 f2 f3 f4 f5 f6) : w0.heap.size ≤ g := by
  obtain ⟨hb, hg⟩ := h
  exact hg
theorem IsS27.ne_blk {w0 W : World} {g : Nat} {f0 : Int} {f1 : Int} {f2 : Int} {f3 : Int} {f4 : Bool} {f5 : Bool} {f6 : Bool} {a : Nat} {cs : Array Value} {t : TypeId} {fr : Nat × Nat} (h : IsS27 w0 W g f0 f1 f2 f3 f4 f5 f6) (hb2 : W.heap[a]? = some (.cells cs t fr)) (ht : t ≠ 27) : g ≠ a := by
  obtain ⟨hb, hg⟩ := h
  rintro rfl
  rw [hb] at hb2
  injection hb2 with hb2
  injection hb2 with _ ht2
  exact ht ht2.symm
theorem IsS27.far {w0 W : World} {g : Nat} {f0 : Int} {f1 : Int} {f2 : Int} {f3 : Int} {f4 : Bool} {f5 : Bool} {f6 : Bool} {p : Addr} (h : IsS27 w0 W g f0 f1 f2 f3 f4 f5 f6) (hne : g ≠ p.block) (u : Value) : IsS27 w0 (W.setCell p u) g f0 f1 f2 f3 f4 f5 f6 := by
  obtain ⟨hb, hg⟩ := h
  exact ⟨blk_far hb hne u, hg⟩
theorem cellS27_0 {W : World} {g : Nat} {f0 : Int} {f1 : Int} {f2 : Int} {f3 : Int} {f4 : Bool} {f5 : Bool} {f6 : Bool} (h : W.heap[g]? = some (.cells #[.int .i64 f0, .int .i64 f1, .int .i64 f2, .int .i64 f3, .bool f4, .bool f5, .bool f6] 27 (0, 0))) : W.cell? ⟨g, 0, none⟩ = some (.int .i64 f0) := (blk_cell h 0).trans rfl
theorem IsS27.set_0 {w0 W : World} {g : Nat} {f0 : Int} {f1 : Int} {f2 : Int} {f3 : Int} {f4 : Bool} {f5 : Bool} {f6 : Bool} (h : IsS27 w0 W g f0 f1 f2 f3 f4 f5 f6) (x : Int) : IsS27 w0 (W.setCell ⟨g, 0, none⟩ (.int .i64 x)) g x f1 f2 f3 f4 f5 f6 := by
  obtain ⟨hb, hg⟩ := h
  exact ⟨by simpa using blk_set hb 0 (.int .i64 x), hg⟩
theorem cellS27_1 {W : World} {g : Nat} {f0 : Int} {f1 : Int} {f2 : Int} {f3 : Int} {f4 : Bool} {f5 : Bool} {f6 : Bool} (h : W.heap[g]? = some (.cells #[.int .i64 f0, .int .i64 f1, .int .i64 f2, .int .i64 f3, .bool f4, .bool f5, .bool f6] 27 (0, 0))) : W.cell? ⟨g, 1, none⟩ = some (.int .i64 f1) := (blk_cell h 1).trans rfl
theorem IsS27.set_1 {w0 W : World} {g : Nat} {f0 : Int} {f1 : Int} {f2 : Int} {f3 : Int} {f4 : Bool} {f5 : Bool} {f6 : Bool} (h : IsS27 w0 W g f0 f1 f2 f3 f4 f5 f6) (x : Int) : IsS27 w0 (W.setCell ⟨g, 1, none⟩ (.int .i64 x)) g f0 x f2 f3 f4 f5 f6 := by
  obtain ⟨hb, hg⟩ := h
  exact ⟨by simpa using blk_set hb 1 (.int .i64 x), hg⟩
theorem cellS27_2 {W : World} {g : Nat} {f0 : Int} {f1 : Int} {f2 : Int} {f3 : Int} {f4 : Bool} {f5 : Bool} {f6 : Bool} (h : W.heap[g]? = some (.cells #[.int .i64 f0, .int .i64 f1, .int .i64 f2, .int .i64 f3, .bool f4, .bool f5, .bool f6] 27 (0, 0))) : W.cell? ⟨g, 2, none⟩ = some (.int .i64 f2) := (blk_cell h 2).trans rfl
theorem IsS27.set_2 {w0 W : World} {g : Nat} {f0 : Int} {f1 : Int} {f2 : Int} {f3 : Int} {f4 : Bool} {f5 : Bool} {f6 : Bool} (h : IsS27 w0 W g f0 f1 f2 f3 f4 f5 f6) (x : Int) : IsS27 w0 (W.setCell ⟨g, 2, none⟩ (.int .i64 x)) g f0 f1 x f3 f4 f5 f6 := by
  obtain ⟨hb, hg⟩ := h
  exact ⟨by simpa using blk_set hb 2 (.int .i64 x), hg⟩
theorem cellS27_3 {W : World} {g : Nat} {f0 : Int} {f1 : Int} {f2 : Int} {f3 : Int} {f4 : Bool} {f5 : Bool} {f6 : Bool} (h : W.heap[g]? = some (.cells #[.int .i64 f0, .int .i64 f1, .int .i64 f2, .int .i64 f3, .bool f4, .bool f5, .bool f6] 27 (0, 0))) : W.cell? ⟨g, 3, none⟩ = some (.int .i64 f3) := (blk_cell h 3).trans rfl
theorem IsS27.set_3 {w0 W : World} {g : Nat} {f0 : Int} {f1 : Int} {f2 : Int} {f3 : Int} {f4 : Bool} {f5 : Bool} {f6 : Bool} (h : IsS27 w0 W g f0 f1 f2 f3 f4 f5 f6) (x : Int) : IsS27 w0 (W.setCell ⟨g, 3, none⟩ (.int .i64 x)) g f0 f1 f2 x f4 f5 f6 := by
  obtain ⟨hb, hg⟩ := h
  exact ⟨by simpa using blk_set hb 3 (.int .i64 x), hg⟩
theorem cellS27_4 {W : World} {g : Nat} {f0 : Int} {f1 : Int} {f2 : Int} {f3 : Int} {f4 : Bool} {f5 : Bool} {f6 : Bool} (h : W.heap[g]? = some (.cells #[.int .i64 f0, .int .i64 f1, .int .i64 f2, .int .i64 f3, .bool f4, .bool f5, .bool f6] 27 (0, 0))) : W.cell? ⟨g, 4, none⟩ = some (.bool f4) := (blk_cell h 4).trans rfl
theorem IsS27.set_4 {w0 W : World} {g : Nat} {f0 : Int} {f1 : Int} {f2 : Int} {f3 : Int} {f4 : Bool} {f5 : Bool} {f6 : Bool} (h : IsS27 w0 W g f0 f1 f2 f3 f4 f5 f6) (x : Bool) : IsS27 w0 (W.setCell ⟨g, 4, none⟩ (.bool x)) g f0 f1 f2 f3 x f5 f6 := by
  obtain ⟨hb, hg⟩ := h
  exact ⟨by simpa using blk_set hb 4 (.bool x), hg⟩
theorem cellS27_5 {W : World} {g : Nat} {f0 : Int} {f1 : Int} {f2 : Int} {f3 : Int} {f4 : Bool} {f5 : Bool} {f6 : Bool} (h : W.heap[g]? = some (.cells #[.int .i64 f0, .int .i64 f1, .int .i64 f2, .int .i64 f3, .bool f4, .bool f5, .bool f6] 27 (0, 0))) : W.cell? ⟨g, 5, none⟩ = some (.bool f5) := (blk_cell h 5).trans rfl
theorem IsS27.set_5 {w0 W : World} {g : Nat} {f0 : Int} {f1 : Int} {f2 : Int} {f3 : Int} {f4 : Bool} {f5 : Bool} {f6 : Bool} (h : IsS27 w0 W g f0 f1 f2 f3 f4 f5 f6) (x : Bool) : IsS27 w0 (W.setCell ⟨g, 5, none⟩ (.bool x)) g f0 f1 f2 f3 f4 x f6 := by
  obtain ⟨hb, hg⟩ := h
  exact ⟨by simpa using blk_set hb 5 (.bool x), hg⟩
theorem cellS27_6 {W : World} {g : Nat} {f0 : Int} {f1 : Int} {f2 : Int} {f3 : Int} {f4 : Bool} {f5 : Bool} {f6 : Bool} (h : W.heap[g]? = some (.cells #[.int .i64 f0, .int .i64 f1, .int .i64 f2, .int .i64 f3, .bool f4, .bool f5, .bool f6] 27 (0, 0))) : W.cell? ⟨g, 6, none⟩ = some (.bool f6) := (blk_cell h 6).trans rfl
theorem IsS27.set_6 {w0 W : World} {g : Nat} {f0 : Int} {f1 : Int} {f2 : Int} {f3 : Int} {f4 : Bool} {f5 : Bool} {f6 : Bool} (h : IsS27 w0 W g f0 f1 f2 f3 f4 f5 f6) (x : Bool) : IsS27 w0 (W.setCell ⟨g, 6, none⟩ (.bool x)) g f0 f1 f2 f3 f4 f5 x := by
  obtain ⟨hb, hg⟩ := h
  exact ⟨by simpa using blk_set hb 6 (.bool x), hg⟩
theorem IsS27.new (w0 W : World) (f0 : Int) (f1 : Int) (f2 : Int) (f3 : Int) (f4 : Bool) (f5 : Bool) (f6 : Bool) (hB : Below w0.heap.size w0 W) : IsS27 w0 (W.alloc (.cells #[.int .i64 f0, .int .i64 f1, .int .i64 f2, .int .i64 f3, .bool f4, .bool f5, .bool f6] 27)) W.heap.size f0 f1 f2 f3 f4 f5 f6 := ⟨by simpa using heap_alloc_new W _, hB.size⟩

/-- What stands within quotes, or the text as it is. -/
def control_Rule_say.arg (l : List UInt8) : List UInt8 := if 2 ≤ l.length ∧ l.head? = some 34 ∧ l.getLast? = some 34 then (l.drop 1).dropLast else l
def control_Rule_say.less (ok : Bool) (n x : Int) : Int := if ok = true ∧ (x < 0 ∨ n < x) then n else x
def control_Rule_say.upd (nm : List UInt8) (ok : Bool) (n : Int) (s0 s1 s2 s3 : Int) (s4 s5 s6 : Bool) : Int × Int × Int × Int × Bool × Bool × Bool :=
  if nm = [109, 97, 120, 45, 97, 103, 101] then (control_Rule_say.less ok n s0, s1, s2, s3, s4, s5, s6) else if nm = [115, 45, 109, 97, 120, 97, 103, 101] then (s0, control_Rule_say.less ok n s1, s2, s3, s4, s5, s6) else if nm = [115, 116, 97, 108, 101, 45, 119, 104, 105, 108, 101, 45, 114, 101, 118, 97, 108, 105, 100, 97, 116, 101] then (s0, s1, control_Rule_say.less ok n s2, s3, s4, s5, s6) else if nm = [115, 116, 97, 108, 101, 45, 105, 102, 45, 101, 114, 114, 111, 114] then (s0, s1, s2, control_Rule_say.less ok n s3, s4, s5, s6) else if nm = [110, 111, 45, 115, 116, 111, 114, 101] then (s0, s1, s2, s3, true, s5, s6) else if nm = [110, 111, 45, 99, 97, 99, 104, 101] then (s0, s1, s2, s3, s4, true, s6) else if nm = [112, 114, 105, 118, 97, 116, 101] then (s0, s1, s2, s3, s4, s5, true) else (s0, s1, s2, s3, s4, s5, s6)
def control_Rule_say.f (k : Nat) (s0 s1 s2 s3 : Int) (s4 s5 s6 : Bool) (a1 : ByteArray) : Option (Int × Int × Int × Int × Bool × Bool × Bool) := if a1.size < 4294967281 then
    (control_low.f ⟨(Lib.cut a1.data.toList [61]).1.toArray⟩).bind fun nm => (control_number.f k ⟨(control_Rule_say.arg (Lib.cut a1.data.toList [61]).2.1).toArray⟩).bind fun q => some (control_Rule_say.upd nm.data.toList q.2 q.1 s0 s1 s2 s3 s4 s5 s6)
  else none
theorem control_Rule_say.mono : ∀ s0 s1 s2 s3 s4 s5 s6 a1 k, LeO (control_Rule_say.f k s0 s1 s2 s3 s4 s5 s6 a1) (control_Rule_say.f (k + 1) s0 s1 s2 s3 s4 s5 s6 a1) := by
  intro s0 s1 s2 s3 s4 s5 s6 a1 k
  unfold control_Rule_say.f
  exact LeO.ite (LeO.bind (LeO.refl _) (fun _ => LeO.bind (control_number.mono _ k) (fun _ => LeO.refl _))) (LeO.refl _)
theorem control_Rule_say.toL (s : ByteArray) : s.toList = s.data.toList := by
  have loop : ∀ (n i : Nat) (r : List UInt8), s.size - i = n → ByteArray.toList.loop s i r = r.reverse ++ s.data.toList.drop i := by
    intro n
    induction n with
    | zero =>
      intro i r h
      have h1 : s.size = s.data.toList.length := by rw [Array.length_toList]; rfl
      rw [ByteArray.toList.loop, if_neg (by omega), List.drop_of_length_le (by omega), List.append_nil]
    | succ n ih =>
      intro i r h
      have h1 : s.size = s.data.toList.length := by rw [Array.length_toList]; rfl
      have hi : i < s.data.toList.length := by omega
      rw [ByteArray.toList.loop, if_pos (by omega), ih (i + 1) _ (by omega), List.drop_eq_getElem_cons hi, List.reverse_cons, List.append_assoc]
      congr 2
      have hs : i < s.data.size := by simpa using hi
      have e : s.get! i = s.data.toList[i] := by
        show s.data[i]! = s.data.toList[i]
        rw [getElem!_pos s.data i hs]
        rfl
      rw [e]
      rfl
  rw [ByteArray.toList, loop s.size 0 [] (by omega)]
  simp
theorem control_Rule_say.kset {w w1 : World} {g : Nat} (h : KeepBut w w1 g none) (j : Nat) (u : Value) : KeepBut w (w1.setCell ⟨g, j, none⟩ u) g none := ⟨by simpa [World.setCell] using h.1, fun i hi hg hr => (Below.heap_setCell w1 ⟨g, j, none⟩ u i hg).trans (h.2 i hi hg hr)⟩
theorem control_Rule_say.arg_ext (s : ByteArray) (h : 2 ≤ s.size) : (s.extract 1 (s.size - 1)).data.toList = (s.data.toList.drop 1).dropLast := by
  rw [ByteArray.data_extract, Array.toList_extract, List.dropLast_eq_take, List.length_drop, Array.length_toList]
  rfl

set_option maxHeartbeats 16000000 in
set_option maxRecDepth 100000 in
theorem control_Rule_say.walk (k : Nat) (g : Nat) (s0 s1 s2 s3 : Int) (s4 s5 s6 : Bool) (a1 c1 c2 ar nm : ByteArray) (c3 ok : Bool) (n : Int) (w0 w : World) (hI : IsS27 w0 w g s0 s1 s2 s3 s4 s5 s6) (hB : Below w0.heap.size w0 w) (hG : Glob w)
    (hcut : strings_Cut.f a1 ⟨#[61]⟩ = some (c1, c2, c3)) (hlow : control_low.f c1 = some nm) (hnum : control_number.f k ar = some (n, ok)) (har : ar.data.toList = control_Rule_say.arg c2.data.toList) (hz : c2.size < 4294967281) (q0 q1 q2 q3 : Int) (q4 q5 q6 : Bool) (hu : control_Rule_say.upd nm.data.toList ok n s0 s1 s2 s3 s4 s5 s6 = (q0, q1, q2, q3, q4, q5, q6)) :
    Calls Tryd.prog 27 #[.pointer (some ⟨g, 0, none⟩), .string a1] w fun e w' => e = .returned (.tuple #[]) ∧ IsS27 w0 w' g q0 q1 q2 q3 q4 q5 q6 ∧ Below w0.heap.size w0 w' ∧ KeepBut w w' g none := by
  have HI := Aside0.mk hI
  have HB := Aside0.mk hB
  have HG := Aside0.mk hG
  have HCUT := Aside0.mk hcut
  have HLOW := Aside0.mk hlow
  have HNUM := Aside0.mk hnum
  have HU := Aside0.mk hu
  have HAR := Aside0.mk har
  have hz1 : (c2.size : Int) ≤ 9223372036854775807 := by omega
  have hz0 : (0 : Int) ≤ (c2.size : Int) := by omega
  clear hI hB hG hcut hlow hnum har hz hu
  have hlen : c2.data.toList.length = c2.size := by simp
  have HLEN := Aside0.mk hlen
  clear hlen
  go_enter Tryd.func27, Tryd.ntmps27
  obtain ⟨q, hq⟩ : ∃ q : Bool, q = decide (2 ≤ c2.data.toList.length ∧ c2.data.toList.head? = some 34 ∧ c2.data.toList.getLast? = some 34) := ⟨_, rfl⟩
  have HQ := Aside0.mk hq
  clear hq
  go_upto_region 1 with (go_at_call 41; (with_reducible refine (strings_Cut.calls a1 ⟨#[61]⟩ c1 c2 c3 _ HG.out HCUT.out).mono ?_); rintro e w1 ⟨rfl, hb⟩; have HI1 := Aside0.mk (HI.out.below hb); have HB1 := Aside0.mk (HB.out.trans (hb.mono HB.out.size)); have HK1 := Aside0.mk (KeepBut.of_below hb g none); clear hb)
  go_cut [31] (fun v31 wc => v31 = .bool q ∧ w1 = wc)
  case first =>
    by_cases h2 : 2 ≤ c2.size
    · have h2i : (2 : Int) ≤ (c2.size : Int) := by omega
      have g0 : 0 < c2.size := by omega
      have g9 : c2.size - 1 < c2.size := by omega
      have e1 : ((c2.size : Int) - 1).toNat = c2.size - 1 := by omega
      have e2 : (0 : Int) ≤ (c2.size : Int) - 1 := by omega
      have e3 : (c2.size : Int) - 1 < (c2.size : Int) := by omega
      obtain ⟨b0, hx0, hb0⟩ : ∃ b : UInt8, (∀ h : 0 < c2.size, ((c2[0]'h).toNat : Int) = (b.toNat : Int)) ∧ c2.data.toList.head? = some b := ⟨c2[0], fun h => rfl, by
        rw [List.head?_eq_getElem?, List.getElem?_eq_getElem (by have := HLEN.out; omega)]; rfl⟩
      obtain ⟨b9, hx9, hb9⟩ : ∃ b : UInt8, (∀ h : c2.size - 1 < c2.size, ((c2[c2.size - 1]'h).toNat : Int) = (b.toNat : Int)) ∧ c2.data.toList.getLast? = some b := ⟨c2[c2.size - 1], fun h => rfl, by
        rw [List.getLast?_eq_getElem?, List.getElem?_eq_getElem (by have := HLEN.out; omega)]
        have : c2.data.toList.length - 1 = c2.size - 1 := by rw [HLEN.out]
        simp only [this]; rfl⟩
      have H0 := Aside0.mk hb0
      have H9 := Aside0.mk hb9
      clear hb0 hb9
      go_wp2
      · go_meet
        case rel =>
          refine ⟨congrArg Value.bool ?_, rfl⟩
          rw [HQ.out, HLEN.out, H0.out, H9.out]
          have hb0 : b0 = 34 := UInt8.toNat_inj.1 (by have : (34 : UInt8).toNat = 34 := rfl; omega)
          rw [Bool.eq_iff_iff]
          simp only [beq_iff_eq, decide_eq_true_eq, Option.some.injEq]
          constructor
          · intro h; exact ⟨h2, hb0, UInt8.toNat_inj.1 (by have : (34 : UInt8).toNat = 34 := rfl; omega)⟩
          · rintro ⟨_, _, h⟩; rw [h]; rfl
      · go_meet
        case rel =>
          refine ⟨congrArg Value.bool ?_, rfl⟩
          rename_i hn0
          rw [HQ.out, H0.out]
          exact (decide_eq_false (fun e => hn0 (by rw [Option.some.inj e.2.1]; rfl))).symm
    · go_wp2
      go_meet
      case rel =>
        refine ⟨congrArg Value.bool ?_, rfl⟩
        rw [HQ.out]
        exact (decide_eq_false (fun e => h2 (by have := HLEN.out; omega))).symm
  case rest =>
    obtain ⟨rfl, rfl⟩ := hcut
    go_upto_if 31 with (fail)
    go_cut [5] (fun v5 wc => v5 = .string ar ∧ w1 = wc)
    case first =>
      cases q with
      | true =>
        have hq := of_decide_eq_true HQ.out.symm
        have h2 : 2 ≤ c2.size := by have := HLEN.out; omega
        have e1 : ((c2.size : Int) - 1).toNat = c2.size - 1 := by omega
        have e2 : (0 : Int) ≤ (c2.size : Int) - 1 := by omega
        have e3 : (1 : Int) ≤ (c2.size : Int) - 1 := by omega
        have e4 : (2 : Int) ≤ (c2.size : Int) := by omega
        have e5 : (1 : Int) ≤ (c2.size : Int) := by omega
        have e6 : (c2.size : Int) - 1 ≤ (c2.size : Int) := by omega
        have ha : c2.extract 1 (c2.size - 1) = ar := by
          have h1 := control_Rule_say.arg_ext c2 h2
          have h3 := HAR.out
          unfold control_Rule_say.arg at h3
          rw [if_pos hq, ← h1] at h3
          obtain ⟨⟨x⟩⟩ := ar
          generalize c2.extract 1 (c2.size - 1) = y at h3 ⊢
          obtain ⟨⟨y⟩⟩ := y
          simpa using h3.symm
        have HA2 := Aside0.mk ha
        clear ha hq
        go_wp2
        go_meet
        case rel => exact ⟨by rw [← HA2.out], rfl⟩
      | false =>
        have hq := of_decide_eq_false HQ.out.symm
        have ha : c2 = ar := by
          have h3 := HAR.out
          unfold control_Rule_say.arg at h3
          rw [if_neg hq] at h3
          obtain ⟨⟨x⟩⟩ := ar
          obtain ⟨⟨y⟩⟩ := c2
          simpa using h3.symm
        have HA2 := Aside0.mk ha
        clear ha hq
        go_wp2
        go_meet
        case rel => exact ⟨by rw [← HA2.out], rfl⟩
    case rest =>
      obtain ⟨rfl, rfl⟩ := hcut
      clear hz1 hz0
      have hnm := control_Rule_say.toL nm
      have HNM := Aside0.mk hnm
      clear hnm
      by_cases c0 : nm.data.toList = ([109, 97, 120, 45, 97, 103, 101] : List UInt8)
      · have hu := HU.out
        unfold control_Rule_say.upd at hu
        rw [if_pos c0] at hu
        simp only [Prod.mk.injEq] at hu
        have t0 : (nm.toList == ([109, 97, 120, 45, 97, 103, 101] : List UInt8)) = true := by rw [HNM.out]; exact beq_iff_eq.mpr c0
        clear c0
        obtain ⟨rfl, rfl, rfl, rfl, rfl, rfl, rfl⟩ := hu
        cases ok with
        | false =>
          go_wp2_with (first | (go_at_call 42; (with_reducible refine (control_low.calls c1 nm _ HLOW.out).mono ?_); rintro e w2 ⟨rfl, hb⟩; have HI2 := Aside0.mk (HI1.out.below hb); have HB2 := Aside0.mk (HB1.out.trans (hb.mono HB1.out.size)); have HK2 := Aside0.mk (HK1.out.trans (KeepBut.of_below hb g none) (.inl rfl)); have k2_ := blk_cell HI2.out.1 0; have f2_ := blk_frozen HI2.out.1 0; replace k2_ : w2.cell? ⟨g, 0, none⟩ = some (.int .i64 s0) := k2_; clear hb) | (go_at_call 37; (with_reducible refine (control_number.calls k ar n _ _ HNUM.out).mono ?_); rintro e w3 ⟨rfl, hb⟩; have HI3 := Aside0.mk (IsS27.below HI2.out hb); have HB3 := Aside0.mk (Below.trans HB2.out (hb.mono (Below.size HB2.out))); have HK3 := Aside0.mk (KeepBut.trans HK2.out (KeepBut.of_below hb g none) (.inl rfl)); have k3_ := blk_cell HI3.out.1 0; have f3_ := blk_frozen HI3.out.1 0; replace k3_ : w3.cell? ⟨g, 0, none⟩ = some (.int .i64 s0) := k3_; clear hb))
          go_end0
          refine ⟨rfl, ?_, HB3.out, HK3.out⟩
          have e : control_Rule_say.less false n s0 = s0 := by unfold control_Rule_say.less; rw [if_neg (by simp)]
          rw [e]
          exact HI3.out
        | true =>
          by_cases hl : s0 < 0
          · have hd1 : decide (s0 < 0) = true := decide_eq_true hl
            have e : control_Rule_say.less true n s0 = n := by unfold control_Rule_say.less; rw [if_pos ⟨rfl, .inl hl⟩]
            have HE := Aside0.mk e
            clear e
            go_wp2_with (first | (go_at_call 42; (with_reducible refine (control_low.calls c1 nm _ HLOW.out).mono ?_); rintro e w2 ⟨rfl, hb⟩; have HI2 := Aside0.mk (HI1.out.below hb); have HB2 := Aside0.mk (HB1.out.trans (hb.mono HB1.out.size)); have HK2 := Aside0.mk (HK1.out.trans (KeepBut.of_below hb g none) (.inl rfl)); have k2_ := blk_cell HI2.out.1 0; have f2_ := blk_frozen HI2.out.1 0; replace k2_ : w2.cell? ⟨g, 0, none⟩ = some (.int .i64 s0) := k2_; clear hb) | (go_at_call 37; (with_reducible refine (control_number.calls k ar n _ _ HNUM.out).mono ?_); rintro e w3 ⟨rfl, hb⟩; have HI3 := Aside0.mk (IsS27.below HI2.out hb); have HB3 := Aside0.mk (Below.trans HB2.out (hb.mono (Below.size HB2.out))); have HK3 := Aside0.mk (KeepBut.trans HK2.out (KeepBut.of_below hb g none) (.inl rfl)); have k3_ := blk_cell HI3.out.1 0; have f3_ := blk_frozen HI3.out.1 0; replace k3_ : w3.cell? ⟨g, 0, none⟩ = some (.int .i64 s0) := k3_; clear hb))
            go_end0
            refine ⟨rfl, ?_, HB3.out.setCell HI3.out.2 _, control_Rule_say.kset HK3.out 0 _⟩
            rw [HE.out]
            exact HI3.out.set_0 n
          · have hd1 : decide (s0 < 0) = false := decide_eq_false hl
            by_cases hl2 : n < s0
            · have hd2 : decide (n < s0) = true := decide_eq_true hl2
              have e : control_Rule_say.less true n s0 = n := by unfold control_Rule_say.less; rw [if_pos ⟨rfl, .inr hl2⟩]
              have HE := Aside0.mk e
              clear e
              go_wp2_with (first | (go_at_call 42; (with_reducible refine (control_low.calls c1 nm _ HLOW.out).mono ?_); rintro e w2 ⟨rfl, hb⟩; have HI2 := Aside0.mk (HI1.out.below hb); have HB2 := Aside0.mk (HB1.out.trans (hb.mono HB1.out.size)); have HK2 := Aside0.mk (HK1.out.trans (KeepBut.of_below hb g none) (.inl rfl)); have k2_ := blk_cell HI2.out.1 0; have f2_ := blk_frozen HI2.out.1 0; replace k2_ : w2.cell? ⟨g, 0, none⟩ = some (.int .i64 s0) := k2_; clear hb) | (go_at_call 37; (with_reducible refine (control_number.calls k ar n _ _ HNUM.out).mono ?_); rintro e w3 ⟨rfl, hb⟩; have HI3 := Aside0.mk (IsS27.below HI2.out hb); have HB3 := Aside0.mk (Below.trans HB2.out (hb.mono (Below.size HB2.out))); have HK3 := Aside0.mk (KeepBut.trans HK2.out (KeepBut.of_below hb g none) (.inl rfl)); have k3_ := blk_cell HI3.out.1 0; have f3_ := blk_frozen HI3.out.1 0; replace k3_ : w3.cell? ⟨g, 0, none⟩ = some (.int .i64 s0) := k3_; clear hb))
              go_end0
              refine ⟨rfl, ?_, HB3.out.setCell HI3.out.2 _, control_Rule_say.kset HK3.out 0 _⟩
              rw [HE.out]
              exact HI3.out.set_0 n
            · have hd2 : decide (n < s0) = false := decide_eq_false hl2
              have e : control_Rule_say.less true n s0 = s0 := by unfold control_Rule_say.less; rw [if_neg (by rintro ⟨_, h | h⟩ <;> omega)]
              have HE := Aside0.mk e
              clear e
              go_wp2_with (first | (go_at_call 42; (with_reducible refine (control_low.calls c1 nm _ HLOW.out).mono ?_); rintro e w2 ⟨rfl, hb⟩; have HI2 := Aside0.mk (HI1.out.below hb); have HB2 := Aside0.mk (HB1.out.trans (hb.mono HB1.out.size)); have HK2 := Aside0.mk (HK1.out.trans (KeepBut.of_below hb g none) (.inl rfl)); have k2_ := blk_cell HI2.out.1 0; have f2_ := blk_frozen HI2.out.1 0; replace k2_ : w2.cell? ⟨g, 0, none⟩ = some (.int .i64 s0) := k2_; clear hb) | (go_at_call 37; (with_reducible refine (control_number.calls k ar n _ _ HNUM.out).mono ?_); rintro e w3 ⟨rfl, hb⟩; have HI3 := Aside0.mk (IsS27.below HI2.out hb); have HB3 := Aside0.mk (Below.trans HB2.out (hb.mono (Below.size HB2.out))); have HK3 := Aside0.mk (KeepBut.trans HK2.out (KeepBut.of_below hb g none) (.inl rfl)); have k3_ := blk_cell HI3.out.1 0; have f3_ := blk_frozen HI3.out.1 0; replace k3_ : w3.cell? ⟨g, 0, none⟩ = some (.int .i64 s0) := k3_; clear hb))
              go_end0
              refine ⟨rfl, ?_, HB3.out, HK3.out⟩
              rw [HE.out]
              exact HI3.out
      by_cases c1 : nm.data.toList = ([115, 45, 109, 97, 120, 97, 103, 101] : List UInt8)
      · have hu := HU.out
        unfold control_Rule_say.upd at hu
        rw [if_neg c0, if_pos c1] at hu
        simp only [Prod.mk.injEq] at hu
        have t0 : (nm.toList == ([109, 97, 120, 45, 97, 103, 101] : List UInt8)) = false := by rw [HNM.out]; exact beq_eq_false_iff_ne.mpr c0
        have t1 : (nm.toList == ([115, 45, 109, 97, 120, 97, 103, 101] : List UInt8)) = true := by rw [HNM.out]; exact beq_iff_eq.mpr c1
        clear c0 c1
        obtain ⟨rfl, rfl, rfl, rfl, rfl, rfl, rfl⟩ := hu
        cases ok with
        | false =>
          go_wp2_with (first | (go_at_call 42; (with_reducible refine (control_low.calls c1 nm _ HLOW.out).mono ?_); rintro e w2 ⟨rfl, hb⟩; have HI2 := Aside0.mk (HI1.out.below hb); have HB2 := Aside0.mk (HB1.out.trans (hb.mono HB1.out.size)); have HK2 := Aside0.mk (HK1.out.trans (KeepBut.of_below hb g none) (.inl rfl)); have k2_ := blk_cell HI2.out.1 0; have f2_ := blk_frozen HI2.out.1 0; replace k2_ : w2.cell? ⟨g, 0, none⟩ = some (.int .i64 s0) := k2_; clear hb) | (go_at_call 37; (with_reducible refine (control_number.calls k ar n _ _ HNUM.out).mono ?_); rintro e w3 ⟨rfl, hb⟩; have HI3 := Aside0.mk (IsS27.below HI2.out hb); have HB3 := Aside0.mk (Below.trans HB2.out (hb.mono (Below.size HB2.out))); have HK3 := Aside0.mk (KeepBut.trans HK2.out (KeepBut.of_below hb g none) (.inl rfl)); have k3_ := blk_cell HI3.out.1 1; have f3_ := blk_frozen HI3.out.1 1; replace k3_ : w3.cell? ⟨g, 1, none⟩ = some (.int .i64 s1) := k3_; clear hb))
          go_end0
          refine ⟨rfl, ?_, HB3.out, HK3.out⟩
          have e : control_Rule_say.less false n s1 = s1 := by unfold control_Rule_say.less; rw [if_neg (by simp)]
          rw [e]
          exact HI3.out
        | true =>
          by_cases hl : s1 < 0
          · have hd1 : decide (s1 < 0) = true := decide_eq_true hl
            have e : control_Rule_say.less true n s1 = n := by unfold control_Rule_say.less; rw [if_pos ⟨rfl, .inl hl⟩]
            have HE := Aside0.mk e
            clear e
            go_wp2_with (first | (go_at_call 42; (with_reducible refine (control_low.calls c1 nm _ HLOW.out).mono ?_); rintro e w2 ⟨rfl, hb⟩; have HI2 := Aside0.mk (HI1.out.below hb); have HB2 := Aside0.mk (HB1.out.trans (hb.mono HB1.out.size)); have HK2 := Aside0.mk (HK1.out.trans (KeepBut.of_below hb g none) (.inl rfl)); have k2_ := blk_cell HI2.out.1 0; have f2_ := blk_frozen HI2.out.1 0; replace k2_ : w2.cell? ⟨g, 0, none⟩ = some (.int .i64 s0) := k2_; clear hb) | (go_at_call 37; (with_reducible refine (control_number.calls k ar n _ _ HNUM.out).mono ?_); rintro e w3 ⟨rfl, hb⟩; have HI3 := Aside0.mk (IsS27.below HI2.out hb); have HB3 := Aside0.mk (Below.trans HB2.out (hb.mono (Below.size HB2.out))); have HK3 := Aside0.mk (KeepBut.trans HK2.out (KeepBut.of_below hb g none) (.inl rfl)); have k3_ := blk_cell HI3.out.1 1; have f3_ := blk_frozen HI3.out.1 1; replace k3_ : w3.cell? ⟨g, 1, none⟩ = some (.int .i64 s1) := k3_; clear hb))
            go_end0
            refine ⟨rfl, ?_, HB3.out.setCell HI3.out.2 _, control_Rule_say.kset HK3.out 1 _⟩
            rw [HE.out]
            exact HI3.out.set_1 n
          · have hd1 : decide (s1 < 0) = false := decide_eq_false hl
            by_cases hl2 : n < s1
            · have hd2 : decide (n < s1) = true := decide_eq_true hl2
              have e : control_Rule_say.less true n s1 = n := by unfold control_Rule_say.less; rw [if_pos ⟨rfl, .inr hl2⟩]
              have HE := Aside0.mk e
              clear e
              go_wp2_with (first | (go_at_call 42; (with_reducible refine (control_low.calls c1 nm _ HLOW.out).mono ?_); rintro e w2 ⟨rfl, hb⟩; have HI2 := Aside0.mk (HI1.out.below hb); have HB2 := Aside0.mk (HB1.out.trans (hb.mono HB1.out.size)); have HK2 := Aside0.mk (HK1.out.trans (KeepBut.of_below hb g none) (.inl rfl)); have k2_ := blk_cell HI2.out.1 0; have f2_ := blk_frozen HI2.out.1 0; replace k2_ : w2.cell? ⟨g, 0, none⟩ = some (.int .i64 s0) := k2_; clear hb) | (go_at_call 37; (with_reducible refine (control_number.calls k ar n _ _ HNUM.out).mono ?_); rintro e w3 ⟨rfl, hb⟩; have HI3 := Aside0.mk (IsS27.below HI2.out hb); have HB3 := Aside0.mk (Below.trans HB2.out (hb.mono (Below.size HB2.out))); have HK3 := Aside0.mk (KeepBut.trans HK2.out (KeepBut.of_below hb g none) (.inl rfl)); have k3_ := blk_cell HI3.out.1 1; have f3_ := blk_frozen HI3.out.1 1; replace k3_ : w3.cell? ⟨g, 1, none⟩ = some (.int .i64 s1) := k3_; clear hb))
              go_end0
              refine ⟨rfl, ?_, HB3.out.setCell HI3.out.2 _, control_Rule_say.kset HK3.out 1 _⟩
              rw [HE.out]
              exact HI3.out.set_1 n
            · have hd2 : decide (n < s1) = false := decide_eq_false hl2
              have e : control_Rule_say.less true n s1 = s1 := by unfold control_Rule_say.less; rw [if_neg (by rintro ⟨_, h | h⟩ <;> omega)]
              have HE := Aside0.mk e
              clear e
              go_wp2_with (first | (go_at_call 42; (with_reducible refine (control_low.calls c1 nm _ HLOW.out).mono ?_); rintro e w2 ⟨rfl, hb⟩; have HI2 := Aside0.mk (HI1.out.below hb); have HB2 := Aside0.mk (HB1.out.trans (hb.mono HB1.out.size)); have HK2 := Aside0.mk (HK1.out.trans (KeepBut.of_below hb g none) (.inl rfl)); have k2_ := blk_cell HI2.out.1 0; have f2_ := blk_frozen HI2.out.1 0; replace k2_ : w2.cell? ⟨g, 0, none⟩ = some (.int .i64 s0) := k2_; clear hb) | (go_at_call 37; (with_reducible refine (control_number.calls k ar n _ _ HNUM.out).mono ?_); rintro e w3 ⟨rfl, hb⟩; have HI3 := Aside0.mk (IsS27.below HI2.out hb); have HB3 := Aside0.mk (Below.trans HB2.out (hb.mono (Below.size HB2.out))); have HK3 := Aside0.mk (KeepBut.trans HK2.out (KeepBut.of_below hb g none) (.inl rfl)); have k3_ := blk_cell HI3.out.1 1; have f3_ := blk_frozen HI3.out.1 1; replace k3_ : w3.cell? ⟨g, 1, none⟩ = some (.int .i64 s1) := k3_; clear hb))
              go_end0
              refine ⟨rfl, ?_, HB3.out, HK3.out⟩
              rw [HE.out]
              exact HI3.out
      by_cases c2 : nm.data.toList = ([115, 116, 97, 108, 101, 45, 119, 104, 105, 108, 101, 45, 114, 101, 118, 97, 108, 105, 100, 97, 116, 101] : List UInt8)
      · have hu := HU.out
        unfold control_Rule_say.upd at hu
        rw [if_neg c0, if_neg c1, if_pos c2] at hu
        simp only [Prod.mk.injEq] at hu
        have t0 : (nm.toList == ([109, 97, 120, 45, 97, 103, 101] : List UInt8)) = false := by rw [HNM.out]; exact beq_eq_false_iff_ne.mpr c0
        have t1 : (nm.toList == ([115, 45, 109, 97, 120, 97, 103, 101] : List UInt8)) = false := by rw [HNM.out]; exact beq_eq_false_iff_ne.mpr c1
        have t2 : (nm.toList == ([115, 116, 97, 108, 101, 45, 119, 104, 105, 108, 101, 45, 114, 101, 118, 97, 108, 105, 100, 97, 116, 101] : List UInt8)) = true := by rw [HNM.out]; exact beq_iff_eq.mpr c2
        clear c0 c1 c2
        obtain ⟨rfl, rfl, rfl, rfl, rfl, rfl, rfl⟩ := hu
        cases ok with
        | false =>
          go_wp2_with (first | (go_at_call 42; (with_reducible refine (control_low.calls c1 nm _ HLOW.out).mono ?_); rintro e w2 ⟨rfl, hb⟩; have HI2 := Aside0.mk (HI1.out.below hb); have HB2 := Aside0.mk (HB1.out.trans (hb.mono HB1.out.size)); have HK2 := Aside0.mk (HK1.out.trans (KeepBut.of_below hb g none) (.inl rfl)); have k2_ := blk_cell HI2.out.1 0; have f2_ := blk_frozen HI2.out.1 0; replace k2_ : w2.cell? ⟨g, 0, none⟩ = some (.int .i64 s0) := k2_; clear hb) | (go_at_call 37; (with_reducible refine (control_number.calls k ar n _ _ HNUM.out).mono ?_); rintro e w3 ⟨rfl, hb⟩; have HI3 := Aside0.mk (IsS27.below HI2.out hb); have HB3 := Aside0.mk (Below.trans HB2.out (hb.mono (Below.size HB2.out))); have HK3 := Aside0.mk (KeepBut.trans HK2.out (KeepBut.of_below hb g none) (.inl rfl)); have k3_ := blk_cell HI3.out.1 2; have f3_ := blk_frozen HI3.out.1 2; replace k3_ : w3.cell? ⟨g, 2, none⟩ = some (.int .i64 s2) := k3_; clear hb))
          go_end0
          refine ⟨rfl, ?_, HB3.out, HK3.out⟩
          have e : control_Rule_say.less false n s2 = s2 := by unfold control_Rule_say.less; rw [if_neg (by simp)]
          rw [e]
          exact HI3.out
        | true =>
          by_cases hl : s2 < 0
          · have hd1 : decide (s2 < 0) = true := decide_eq_true hl
            have e : control_Rule_say.less true n s2 = n := by unfold control_Rule_say.less; rw [if_pos ⟨rfl, .inl hl⟩]
            have HE := Aside0.mk e
            clear e
            go_wp2_with (first | (go_at_call 42; (with_reducible refine (control_low.calls c1 nm _ HLOW.out).mono ?_); rintro e w2 ⟨rfl, hb⟩; have HI2 := Aside0.mk (HI1.out.below hb); have HB2 := Aside0.mk (HB1.out.trans (hb.mono HB1.out.size)); have HK2 := Aside0.mk (HK1.out.trans (KeepBut.of_below hb g none) (.inl rfl)); have k2_ := blk_cell HI2.out.1 0; have f2_ := blk_frozen HI2.out.1 0; replace k2_ : w2.cell? ⟨g, 0, none⟩ = some (.int .i64 s0) := k2_; clear hb) | (go_at_call 37; (with_reducible refine (control_number.calls k ar n _ _ HNUM.out).mono ?_); rintro e w3 ⟨rfl, hb⟩; have HI3 := Aside0.mk (IsS27.below HI2.out hb); have HB3 := Aside0.mk (Below.trans HB2.out (hb.mono (Below.size HB2.out))); have HK3 := Aside0.mk (KeepBut.trans HK2.out (KeepBut.of_below hb g none) (.inl rfl)); have k3_ := blk_cell HI3.out.1 2; have f3_ := blk_frozen HI3.out.1 2; replace k3_ : w3.cell? ⟨g, 2, none⟩ = some (.int .i64 s2) := k3_; clear hb))
            go_end0
            refine ⟨rfl, ?_, HB3.out.setCell HI3.out.2 _, control_Rule_say.kset HK3.out 2 _⟩
            rw [HE.out]
            exact HI3.out.set_2 n
          · have hd1 : decide (s2 < 0) = false := decide_eq_false hl
            by_cases hl2 : n < s2
            · have hd2 : decide (n < s2) = true := decide_eq_true hl2
              have e : control_Rule_say.less true n s2 = n := by unfold control_Rule_say.less; rw [if_pos ⟨rfl, .inr hl2⟩]
              have HE := Aside0.mk e
              clear e
              go_wp2_with (first | (go_at_call 42; (with_reducible refine (control_low.calls c1 nm _ HLOW.out).mono ?_); rintro e w2 ⟨rfl, hb⟩; have HI2 := Aside0.mk (HI1.out.below hb); have HB2 := Aside0.mk (HB1.out.trans (hb.mono HB1.out.size)); have HK2 := Aside0.mk (HK1.out.trans (KeepBut.of_below hb g none) (.inl rfl)); have k2_ := blk_cell HI2.out.1 0; have f2_ := blk_frozen HI2.out.1 0; replace k2_ : w2.cell? ⟨g, 0, none⟩ = some (.int .i64 s0) := k2_; clear hb) | (go_at_call 37; (with_reducible refine (control_number.calls k ar n _ _ HNUM.out).mono ?_); rintro e w3 ⟨rfl, hb⟩; have HI3 := Aside0.mk (IsS27.below HI2.out hb); have HB3 := Aside0.mk (Below.trans HB2.out (hb.mono (Below.size HB2.out))); have HK3 := Aside0.mk (KeepBut.trans HK2.out (KeepBut.of_below hb g none) (.inl rfl)); have k3_ := blk_cell HI3.out.1 2; have f3_ := blk_frozen HI3.out.1 2; replace k3_ : w3.cell? ⟨g, 2, none⟩ = some (.int .i64 s2) := k3_; clear hb))
              go_end0
              refine ⟨rfl, ?_, HB3.out.setCell HI3.out.2 _, control_Rule_say.kset HK3.out 2 _⟩
              rw [HE.out]
              exact HI3.out.set_2 n
            · have hd2 : decide (n < s2) = false := decide_eq_false hl2
              have e : control_Rule_say.less true n s2 = s2 := by unfold control_Rule_say.less; rw [if_neg (by rintro ⟨_, h | h⟩ <;> omega)]
              have HE := Aside0.mk e
              clear e
              go_wp2_with (first | (go_at_call 42; (with_reducible refine (control_low.calls c1 nm _ HLOW.out).mono ?_); rintro e w2 ⟨rfl, hb⟩; have HI2 := Aside0.mk (HI1.out.below hb); have HB2 := Aside0.mk (HB1.out.trans (hb.mono HB1.out.size)); have HK2 := Aside0.mk (HK1.out.trans (KeepBut.of_below hb g none) (.inl rfl)); have k2_ := blk_cell HI2.out.1 0; have f2_ := blk_frozen HI2.out.1 0; replace k2_ : w2.cell? ⟨g, 0, none⟩ = some (.int .i64 s0) := k2_; clear hb) | (go_at_call 37; (with_reducible refine (control_number.calls k ar n _ _ HNUM.out).mono ?_); rintro e w3 ⟨rfl, hb⟩; have HI3 := Aside0.mk (IsS27.below HI2.out hb); have HB3 := Aside0.mk (Below.trans HB2.out (hb.mono (Below.size HB2.out))); have HK3 := Aside0.mk (KeepBut.trans HK2.out (KeepBut.of_below hb g none) (.inl rfl)); have k3_ := blk_cell HI3.out.1 2; have f3_ := blk_frozen HI3.out.1 2; replace k3_ : w3.cell? ⟨g, 2, none⟩ = some (.int .i64 s2) := k3_; clear hb))
              go_end0
              refine ⟨rfl, ?_, HB3.out, HK3.out⟩
              rw [HE.out]
              exact HI3.out
      by_cases c3 : nm.data.toList = ([115, 116, 97, 108, 101, 45, 105, 102, 45, 101, 114, 114, 111, 114] : List UInt8)
      · have hu := HU.out
        unfold control_Rule_say.upd at hu
        rw [if_neg c0, if_neg c1, if_neg c2, if_pos c3] at hu
        simp only [Prod.mk.injEq] at hu
        have t0 : (nm.toList == ([109, 97, 120, 45, 97, 103, 101] : List UInt8)) = false := by rw [HNM.out]; exact beq_eq_false_iff_ne.mpr c0
        have t1 : (nm.toList == ([115, 45, 109, 97, 120, 97, 103, 101] : List UInt8)) = false := by rw [HNM.out]; exact beq_eq_false_iff_ne.mpr c1
        have t2 : (nm.toList == ([115, 116, 97, 108, 101, 45, 119, 104, 105, 108, 101, 45, 114, 101, 118, 97, 108, 105, 100, 97, 116, 101] : List UInt8)) = false := by rw [HNM.out]; exact beq_eq_false_iff_ne.mpr c2
        have t3 : (nm.toList == ([115, 116, 97, 108, 101, 45, 105, 102, 45, 101, 114, 114, 111, 114] : List UInt8)) = true := by rw [HNM.out]; exact beq_iff_eq.mpr c3
        clear c0 c1 c2 c3
        obtain ⟨rfl, rfl, rfl, rfl, rfl, rfl, rfl⟩ := hu
        cases ok with
        | false =>
          go_wp2_with (first | (go_at_call 42; (with_reducible refine (control_low.calls c1 nm _ HLOW.out).mono ?_); rintro e w2 ⟨rfl, hb⟩; have HI2 := Aside0.mk (HI1.out.below hb); have HB2 := Aside0.mk (HB1.out.trans (hb.mono HB1.out.size)); have HK2 := Aside0.mk (HK1.out.trans (KeepBut.of_below hb g none) (.inl rfl)); have k2_ := blk_cell HI2.out.1 0; have f2_ := blk_frozen HI2.out.1 0; replace k2_ : w2.cell? ⟨g, 0, none⟩ = some (.int .i64 s0) := k2_; clear hb) | (go_at_call 37; (with_reducible refine (control_number.calls k ar n _ _ HNUM.out).mono ?_); rintro e w3 ⟨rfl, hb⟩; have HI3 := Aside0.mk (IsS27.below HI2.out hb); have HB3 := Aside0.mk (Below.trans HB2.out (hb.mono (Below.size HB2.out))); have HK3 := Aside0.mk (KeepBut.trans HK2.out (KeepBut.of_below hb g none) (.inl rfl)); have k3_ := blk_cell HI3.out.1 3; have f3_ := blk_frozen HI3.out.1 3; replace k3_ : w3.cell? ⟨g, 3, none⟩ = some (.int .i64 s3) := k3_; clear hb))
          go_end0
          refine ⟨rfl, ?_, HB3.out, HK3.out⟩
          have e : control_Rule_say.less false n s3 = s3 := by unfold control_Rule_say.less; rw [if_neg (by simp)]
          rw [e]
          exact HI3.out
        | true =>
          by_cases hl : s3 < 0
          · have hd1 : decide (s3 < 0) = true := decide_eq_true hl
            have e : control_Rule_say.less true n s3 = n := by unfold control_Rule_say.less; rw [if_pos ⟨rfl, .inl hl⟩]
            have HE := Aside0.mk e
            clear e
            go_wp2_with (first | (go_at_call 42; (with_reducible refine (control_low.calls c1 nm _ HLOW.out).mono ?_); rintro e w2 ⟨rfl, hb⟩; have HI2 := Aside0.mk (HI1.out.below hb); have HB2 := Aside0.mk (HB1.out.trans (hb.mono HB1.out.size)); have HK2 := Aside0.mk (HK1.out.trans (KeepBut.of_below hb g none) (.inl rfl)); have k2_ := blk_cell HI2.out.1 0; have f2_ := blk_frozen HI2.out.1 0; replace k2_ : w2.cell? ⟨g, 0, none⟩ = some (.int .i64 s0) := k2_; clear hb) | (go_at_call 37; (with_reducible refine (control_number.calls k ar n _ _ HNUM.out).mono ?_); rintro e w3 ⟨rfl, hb⟩; have HI3 := Aside0.mk (IsS27.below HI2.out hb); have HB3 := Aside0.mk (Below.trans HB2.out (hb.mono (Below.size HB2.out))); have HK3 := Aside0.mk (KeepBut.trans HK2.out (KeepBut.of_below hb g none) (.inl rfl)); have k3_ := blk_cell HI3.out.1 3; have f3_ := blk_frozen HI3.out.1 3; replace k3_ : w3.cell? ⟨g, 3, none⟩ = some (.int .i64 s3) := k3_; clear hb))
            go_end0
            refine ⟨rfl, ?_, HB3.out.setCell HI3.out.2 _, control_Rule_say.kset HK3.out 3 _⟩
            rw [HE.out]
            exact HI3.out.set_3 n
          · have hd1 : decide (s3 < 0) = false := decide_eq_false hl
            by_cases hl2 : n < s3
            · have hd2 : decide (n < s3) = true := decide_eq_true hl2
              have e : control_Rule_say.less true n s3 = n := by unfold control_Rule_say.less; rw [if_pos ⟨rfl, .inr hl2⟩]
              have HE := Aside0.mk e
              clear e
              go_wp2_with (first | (go_at_call 42; (with_reducible refine (control_low.calls c1 nm _ HLOW.out).mono ?_); rintro e w2 ⟨rfl, hb⟩; have HI2 := Aside0.mk (HI1.out.below hb); have HB2 := Aside0.mk (HB1.out.trans (hb.mono HB1.out.size)); have HK2 := Aside0.mk (HK1.out.trans (KeepBut.of_below hb g none) (.inl rfl)); have k2_ := blk_cell HI2.out.1 0; have f2_ := blk_frozen HI2.out.1 0; replace k2_ : w2.cell? ⟨g, 0, none⟩ = some (.int .i64 s0) := k2_; clear hb) | (go_at_call 37; (with_reducible refine (control_number.calls k ar n _ _ HNUM.out).mono ?_); rintro e w3 ⟨rfl, hb⟩; have HI3 := Aside0.mk (IsS27.below HI2.out hb); have HB3 := Aside0.mk (Below.trans HB2.out (hb.mono (Below.size HB2.out))); have HK3 := Aside0.mk (KeepBut.trans HK2.out (KeepBut.of_below hb g none) (.inl rfl)); have k3_ := blk_cell HI3.out.1 3; have f3_ := blk_frozen HI3.out.1 3; replace k3_ : w3.cell? ⟨g, 3, none⟩ = some (.int .i64 s3) := k3_; clear hb))
              go_end0
              refine ⟨rfl, ?_, HB3.out.setCell HI3.out.2 _, control_Rule_say.kset HK3.out 3 _⟩
              rw [HE.out]
              exact HI3.out.set_3 n
            · have hd2 : decide (n < s3) = false := decide_eq_false hl2
              have e : control_Rule_say.less true n s3 = s3 := by unfold control_Rule_say.less; rw [if_neg (by rintro ⟨_, h | h⟩ <;> omega)]
              have HE := Aside0.mk e
              clear e
              go_wp2_with (first | (go_at_call 42; (with_reducible refine (control_low.calls c1 nm _ HLOW.out).mono ?_); rintro e w2 ⟨rfl, hb⟩; have HI2 := Aside0.mk (HI1.out.below hb); have HB2 := Aside0.mk (HB1.out.trans (hb.mono HB1.out.size)); have HK2 := Aside0.mk (HK1.out.trans (KeepBut.of_below hb g none) (.inl rfl)); have k2_ := blk_cell HI2.out.1 0; have f2_ := blk_frozen HI2.out.1 0; replace k2_ : w2.cell? ⟨g, 0, none⟩ = some (.int .i64 s0) := k2_; clear hb) | (go_at_call 37; (with_reducible refine (control_number.calls k ar n _ _ HNUM.out).mono ?_); rintro e w3 ⟨rfl, hb⟩; have HI3 := Aside0.mk (IsS27.below HI2.out hb); have HB3 := Aside0.mk (Below.trans HB2.out (hb.mono (Below.size HB2.out))); have HK3 := Aside0.mk (KeepBut.trans HK2.out (KeepBut.of_below hb g none) (.inl rfl)); have k3_ := blk_cell HI3.out.1 3; have f3_ := blk_frozen HI3.out.1 3; replace k3_ : w3.cell? ⟨g, 3, none⟩ = some (.int .i64 s3) := k3_; clear hb))
              go_end0
              refine ⟨rfl, ?_, HB3.out, HK3.out⟩
              rw [HE.out]
              exact HI3.out
      by_cases c4 : nm.data.toList = ([110, 111, 45, 115, 116, 111, 114, 101] : List UInt8)
      · have hu := HU.out
        unfold control_Rule_say.upd at hu
        rw [if_neg c0, if_neg c1, if_neg c2, if_neg c3, if_pos c4] at hu
        simp only [Prod.mk.injEq] at hu
        have t0 : (nm.toList == ([109, 97, 120, 45, 97, 103, 101] : List UInt8)) = false := by rw [HNM.out]; exact beq_eq_false_iff_ne.mpr c0
        have t1 : (nm.toList == ([115, 45, 109, 97, 120, 97, 103, 101] : List UInt8)) = false := by rw [HNM.out]; exact beq_eq_false_iff_ne.mpr c1
        have t2 : (nm.toList == ([115, 116, 97, 108, 101, 45, 119, 104, 105, 108, 101, 45, 114, 101, 118, 97, 108, 105, 100, 97, 116, 101] : List UInt8)) = false := by rw [HNM.out]; exact beq_eq_false_iff_ne.mpr c2
        have t3 : (nm.toList == ([115, 116, 97, 108, 101, 45, 105, 102, 45, 101, 114, 114, 111, 114] : List UInt8)) = false := by rw [HNM.out]; exact beq_eq_false_iff_ne.mpr c3
        have t4 : (nm.toList == ([110, 111, 45, 115, 116, 111, 114, 101] : List UInt8)) = true := by rw [HNM.out]; exact beq_iff_eq.mpr c4
        clear c0 c1 c2 c3 c4
        obtain ⟨rfl, rfl, rfl, rfl, rfl, rfl, rfl⟩ := hu
        cases ok with
        | false =>
          go_wp2_with (first | (go_at_call 42; (with_reducible refine (control_low.calls c1 nm _ HLOW.out).mono ?_); rintro e w2 ⟨rfl, hb⟩; have HI2 := Aside0.mk (HI1.out.below hb); have HB2 := Aside0.mk (HB1.out.trans (hb.mono HB1.out.size)); have HK2 := Aside0.mk (HK1.out.trans (KeepBut.of_below hb g none) (.inl rfl)); have k2_ := blk_cell HI2.out.1 4; have f2_ := blk_frozen HI2.out.1 4; replace k2_ : w2.cell? ⟨g, 4, none⟩ = some (.bool s4) := k2_; clear hb) | (go_at_call 37; (with_reducible refine (control_number.calls k ar n _ _ HNUM.out).mono ?_); rintro e w3 ⟨rfl, hb⟩; have HI3 := Aside0.mk (IsS27.below (IsS27.set_4 HI2.out true) hb); have HB3 := Aside0.mk (Below.trans (HB2.out.setCell HI2.out.2 _) (hb.mono (Below.size (HB2.out.setCell HI2.out.2 _)))); have HK3 := Aside0.mk (KeepBut.trans (control_Rule_say.kset HK2.out 4 _) (KeepBut.of_below hb g none) (.inl rfl)); clear hb))
          go_end0
          exact ⟨rfl, HI3.out, HB3.out, HK3.out⟩
        | true =>
          go_wp2_with (first | (go_at_call 42; (with_reducible refine (control_low.calls c1 nm _ HLOW.out).mono ?_); rintro e w2 ⟨rfl, hb⟩; have HI2 := Aside0.mk (HI1.out.below hb); have HB2 := Aside0.mk (HB1.out.trans (hb.mono HB1.out.size)); have HK2 := Aside0.mk (HK1.out.trans (KeepBut.of_below hb g none) (.inl rfl)); have k2_ := blk_cell HI2.out.1 4; have f2_ := blk_frozen HI2.out.1 4; replace k2_ : w2.cell? ⟨g, 4, none⟩ = some (.bool s4) := k2_; clear hb) | (go_at_call 37; (with_reducible refine (control_number.calls k ar n _ _ HNUM.out).mono ?_); rintro e w3 ⟨rfl, hb⟩; have HI3 := Aside0.mk (IsS27.below (IsS27.set_4 HI2.out true) hb); have HB3 := Aside0.mk (Below.trans (HB2.out.setCell HI2.out.2 _) (hb.mono (Below.size (HB2.out.setCell HI2.out.2 _)))); have HK3 := Aside0.mk (KeepBut.trans (control_Rule_say.kset HK2.out 4 _) (KeepBut.of_below hb g none) (.inl rfl)); clear hb))
          go_end0
          exact ⟨rfl, HI3.out, HB3.out, HK3.out⟩
      by_cases c5 : nm.data.toList = ([110, 111, 45, 99, 97, 99, 104, 101] : List UInt8)
      · have hu := HU.out
        unfold control_Rule_say.upd at hu
        rw [if_neg c0, if_neg c1, if_neg c2, if_neg c3, if_neg c4, if_pos c5] at hu
        simp only [Prod.mk.injEq] at hu
        have t0 : (nm.toList == ([109, 97, 120, 45, 97, 103, 101] : List UInt8)) = false := by rw [HNM.out]; exact beq_eq_false_iff_ne.mpr c0
        have t1 : (nm.toList == ([115, 45, 109, 97, 120, 97, 103, 101] : List UInt8)) = false := by rw [HNM.out]; exact beq_eq_false_iff_ne.mpr c1
        have t2 : (nm.toList == ([115, 116, 97, 108, 101, 45, 119, 104, 105, 108, 101, 45, 114, 101, 118, 97, 108, 105, 100, 97, 116, 101] : List UInt8)) = false := by rw [HNM.out]; exact beq_eq_false_iff_ne.mpr c2
        have t3 : (nm.toList == ([115, 116, 97, 108, 101, 45, 105, 102, 45, 101, 114, 114, 111, 114] : List UInt8)) = false := by rw [HNM.out]; exact beq_eq_false_iff_ne.mpr c3
        have t4 : (nm.toList == ([110, 111, 45, 115, 116, 111, 114, 101] : List UInt8)) = false := by rw [HNM.out]; exact beq_eq_false_iff_ne.mpr c4
        have t5 : (nm.toList == ([110, 111, 45, 99, 97, 99, 104, 101] : List UInt8)) = true := by rw [HNM.out]; exact beq_iff_eq.mpr c5
        clear c0 c1 c2 c3 c4 c5
        obtain ⟨rfl, rfl, rfl, rfl, rfl, rfl, rfl⟩ := hu
        cases ok with
        | false =>
          go_wp2_with (first | (go_at_call 42; (with_reducible refine (control_low.calls c1 nm _ HLOW.out).mono ?_); rintro e w2 ⟨rfl, hb⟩; have HI2 := Aside0.mk (HI1.out.below hb); have HB2 := Aside0.mk (HB1.out.trans (hb.mono HB1.out.size)); have HK2 := Aside0.mk (HK1.out.trans (KeepBut.of_below hb g none) (.inl rfl)); have k2_ := blk_cell HI2.out.1 5; have f2_ := blk_frozen HI2.out.1 5; replace k2_ : w2.cell? ⟨g, 5, none⟩ = some (.bool s5) := k2_; clear hb) | (go_at_call 37; (with_reducible refine (control_number.calls k ar n _ _ HNUM.out).mono ?_); rintro e w3 ⟨rfl, hb⟩; have HI3 := Aside0.mk (IsS27.below (IsS27.set_5 HI2.out true) hb); have HB3 := Aside0.mk (Below.trans (HB2.out.setCell HI2.out.2 _) (hb.mono (Below.size (HB2.out.setCell HI2.out.2 _)))); have HK3 := Aside0.mk (KeepBut.trans (control_Rule_say.kset HK2.out 5 _) (KeepBut.of_below hb g none) (.inl rfl)); clear hb))
          go_end0
          exact ⟨rfl, HI3.out, HB3.out, HK3.out⟩
        | true =>
          go_wp2_with (first | (go_at_call 42; (with_reducible refine (control_low.calls c1 nm _ HLOW.out).mono ?_); rintro e w2 ⟨rfl, hb⟩; have HI2 := Aside0.mk (HI1.out.below hb); have HB2 := Aside0.mk (HB1.out.trans (hb.mono HB1.out.size)); have HK2 := Aside0.mk (HK1.out.trans (KeepBut.of_below hb g none) (.inl rfl)); have k2_ := blk_cell HI2.out.1 5; have f2_ := blk_frozen HI2.out.1 5; replace k2_ : w2.cell? ⟨g, 5, none⟩ = some (.bool s5) := k2_; clear hb) | (go_at_call 37; (with_reducible refine (control_number.calls k ar n _ _ HNUM.out).mono ?_); rintro e w3 ⟨rfl, hb⟩; have HI3 := Aside0.mk (IsS27.below (IsS27.set_5 HI2.out true) hb); have HB3 := Aside0.mk (Below.trans (HB2.out.setCell HI2.out.2 _) (hb.mono (Below.size (HB2.out.setCell HI2.out.2 _)))); have HK3 := Aside0.mk (KeepBut.trans (control_Rule_say.kset HK2.out 5 _) (KeepBut.of_below hb g none) (.inl rfl)); clear hb))
          go_end0
          exact ⟨rfl, HI3.out, HB3.out, HK3.out⟩
      by_cases c6 : nm.data.toList = ([112, 114, 105, 118, 97, 116, 101] : List UInt8)
      · have hu := HU.out
        unfold control_Rule_say.upd at hu
        rw [if_neg c0, if_neg c1, if_neg c2, if_neg c3, if_neg c4, if_neg c5, if_pos c6] at hu
        simp only [Prod.mk.injEq] at hu
        have t0 : (nm.toList == ([109, 97, 120, 45, 97, 103, 101] : List UInt8)) = false := by rw [HNM.out]; exact beq_eq_false_iff_ne.mpr c0
        have t1 : (nm.toList == ([115, 45, 109, 97, 120, 97, 103, 101] : List UInt8)) = false := by rw [HNM.out]; exact beq_eq_false_iff_ne.mpr c1
        have t2 : (nm.toList == ([115, 116, 97, 108, 101, 45, 119, 104, 105, 108, 101, 45, 114, 101, 118, 97, 108, 105, 100, 97, 116, 101] : List UInt8)) = false := by rw [HNM.out]; exact beq_eq_false_iff_ne.mpr c2
        have t3 : (nm.toList == ([115, 116, 97, 108, 101, 45, 105, 102, 45, 101, 114, 114, 111, 114] : List UInt8)) = false := by rw [HNM.out]; exact beq_eq_false_iff_ne.mpr c3
        have t4 : (nm.toList == ([110, 111, 45, 115, 116, 111, 114, 101] : List UInt8)) = false := by rw [HNM.out]; exact beq_eq_false_iff_ne.mpr c4
        have t5 : (nm.toList == ([110, 111, 45, 99, 97, 99, 104, 101] : List UInt8)) = false := by rw [HNM.out]; exact beq_eq_false_iff_ne.mpr c5
        have t6 : (nm.toList == ([112, 114, 105, 118, 97, 116, 101] : List UInt8)) = true := by rw [HNM.out]; exact beq_iff_eq.mpr c6
        clear c0 c1 c2 c3 c4 c5 c6
        obtain ⟨rfl, rfl, rfl, rfl, rfl, rfl, rfl⟩ := hu
        cases ok with
        | false =>
          go_wp2_with (first | (go_at_call 42; (with_reducible refine (control_low.calls c1 nm _ HLOW.out).mono ?_); rintro e w2 ⟨rfl, hb⟩; have HI2 := Aside0.mk (HI1.out.below hb); have HB2 := Aside0.mk (HB1.out.trans (hb.mono HB1.out.size)); have HK2 := Aside0.mk (HK1.out.trans (KeepBut.of_below hb g none) (.inl rfl)); have k2_ := blk_cell HI2.out.1 6; have f2_ := blk_frozen HI2.out.1 6; replace k2_ : w2.cell? ⟨g, 6, none⟩ = some (.bool s6) := k2_; clear hb) | (go_at_call 37; (with_reducible refine (control_number.calls k ar n _ _ HNUM.out).mono ?_); rintro e w3 ⟨rfl, hb⟩; have HI3 := Aside0.mk (IsS27.below (IsS27.set_6 HI2.out true) hb); have HB3 := Aside0.mk (Below.trans (HB2.out.setCell HI2.out.2 _) (hb.mono (Below.size (HB2.out.setCell HI2.out.2 _)))); have HK3 := Aside0.mk (KeepBut.trans (control_Rule_say.kset HK2.out 6 _) (KeepBut.of_below hb g none) (.inl rfl)); clear hb))
          go_end0
          exact ⟨rfl, HI3.out, HB3.out, HK3.out⟩
        | true =>
          go_wp2_with (first | (go_at_call 42; (with_reducible refine (control_low.calls c1 nm _ HLOW.out).mono ?_); rintro e w2 ⟨rfl, hb⟩; have HI2 := Aside0.mk (HI1.out.below hb); have HB2 := Aside0.mk (HB1.out.trans (hb.mono HB1.out.size)); have HK2 := Aside0.mk (HK1.out.trans (KeepBut.of_below hb g none) (.inl rfl)); have k2_ := blk_cell HI2.out.1 6; have f2_ := blk_frozen HI2.out.1 6; replace k2_ : w2.cell? ⟨g, 6, none⟩ = some (.bool s6) := k2_; clear hb) | (go_at_call 37; (with_reducible refine (control_number.calls k ar n _ _ HNUM.out).mono ?_); rintro e w3 ⟨rfl, hb⟩; have HI3 := Aside0.mk (IsS27.below (IsS27.set_6 HI2.out true) hb); have HB3 := Aside0.mk (Below.trans (HB2.out.setCell HI2.out.2 _) (hb.mono (Below.size (HB2.out.setCell HI2.out.2 _)))); have HK3 := Aside0.mk (KeepBut.trans (control_Rule_say.kset HK2.out 6 _) (KeepBut.of_below hb g none) (.inl rfl)); clear hb))
          go_end0
          exact ⟨rfl, HI3.out, HB3.out, HK3.out⟩
      have hu := HU.out
      unfold control_Rule_say.upd at hu
      rw [if_neg c0, if_neg c1, if_neg c2, if_neg c3, if_neg c4, if_neg c5, if_neg c6] at hu
      simp only [Prod.mk.injEq] at hu
      have t0 : (nm.toList == ([109, 97, 120, 45, 97, 103, 101] : List UInt8)) = false := by rw [HNM.out]; exact beq_eq_false_iff_ne.mpr c0
      have t1 : (nm.toList == ([115, 45, 109, 97, 120, 97, 103, 101] : List UInt8)) = false := by rw [HNM.out]; exact beq_eq_false_iff_ne.mpr c1
      have t2 : (nm.toList == ([115, 116, 97, 108, 101, 45, 119, 104, 105, 108, 101, 45, 114, 101, 118, 97, 108, 105, 100, 97, 116, 101] : List UInt8)) = false := by rw [HNM.out]; exact beq_eq_false_iff_ne.mpr c2
      have t3 : (nm.toList == ([115, 116, 97, 108, 101, 45, 105, 102, 45, 101, 114, 114, 111, 114] : List UInt8)) = false := by rw [HNM.out]; exact beq_eq_false_iff_ne.mpr c3
      have t4 : (nm.toList == ([110, 111, 45, 115, 116, 111, 114, 101] : List UInt8)) = false := by rw [HNM.out]; exact beq_eq_false_iff_ne.mpr c4
      have t5 : (nm.toList == ([110, 111, 45, 99, 97, 99, 104, 101] : List UInt8)) = false := by rw [HNM.out]; exact beq_eq_false_iff_ne.mpr c5
      have t6 : (nm.toList == ([112, 114, 105, 118, 97, 116, 101] : List UInt8)) = false := by rw [HNM.out]; exact beq_eq_false_iff_ne.mpr c6
      clear c0 c1 c2 c3 c4 c5 c6
      obtain ⟨rfl, rfl, rfl, rfl, rfl, rfl, rfl⟩ := hu
      cases ok with
      | false =>
        go_wp2_with (first | (go_at_call 42; (with_reducible refine (control_low.calls c1 nm _ HLOW.out).mono ?_); rintro e w2 ⟨rfl, hb⟩; have HI2 := Aside0.mk (HI1.out.below hb); have HB2 := Aside0.mk (HB1.out.trans (hb.mono HB1.out.size)); have HK2 := Aside0.mk (HK1.out.trans (KeepBut.of_below hb g none) (.inl rfl)); have k2_ := blk_cell HI2.out.1 0; have f2_ := blk_frozen HI2.out.1 0; replace k2_ : w2.cell? ⟨g, 0, none⟩ = some (.int .i64 s0) := k2_; clear hb) | (go_at_call 37; (with_reducible refine (control_number.calls k ar n _ _ HNUM.out).mono ?_); rintro e w3 ⟨rfl, hb⟩; have HI3 := Aside0.mk (IsS27.below HI2.out hb); have HB3 := Aside0.mk (Below.trans HB2.out (hb.mono (Below.size HB2.out))); have HK3 := Aside0.mk (KeepBut.trans HK2.out (KeepBut.of_below hb g none) (.inl rfl)); clear hb))
        go_end0
        exact ⟨rfl, HI3.out, HB3.out, HK3.out⟩
      | true =>
        go_wp2_with (first | (go_at_call 42; (with_reducible refine (control_low.calls c1 nm _ HLOW.out).mono ?_); rintro e w2 ⟨rfl, hb⟩; have HI2 := Aside0.mk (HI1.out.below hb); have HB2 := Aside0.mk (HB1.out.trans (hb.mono HB1.out.size)); have HK2 := Aside0.mk (HK1.out.trans (KeepBut.of_below hb g none) (.inl rfl)); have k2_ := blk_cell HI2.out.1 0; have f2_ := blk_frozen HI2.out.1 0; replace k2_ : w2.cell? ⟨g, 0, none⟩ = some (.int .i64 s0) := k2_; clear hb) | (go_at_call 37; (with_reducible refine (control_number.calls k ar n _ _ HNUM.out).mono ?_); rintro e w3 ⟨rfl, hb⟩; have HI3 := Aside0.mk (IsS27.below HI2.out hb); have HB3 := Aside0.mk (Below.trans HB2.out (hb.mono (Below.size HB2.out))); have HK3 := Aside0.mk (KeepBut.trans HK2.out (KeepBut.of_below hb g none) (.inl rfl)); clear hb))
        go_end0
        exact ⟨rfl, HI3.out, HB3.out, HK3.out⟩
theorem control_Rule_say.calls (k : Nat) (g : Nat) (s0 s1 s2 s3 : Int) (s4 s5 s6 : Bool) (a1 : ByteArray) (q0 q1 q2 q3 : Int) (q4 q5 q6 : Bool) (w0 w : World) (hG : Glob w) (hI : IsS27 w0 w g s0 s1 s2 s3 s4 s5 s6) (hB : Below w0.heap.size w0 w) (h : control_Rule_say.f k s0 s1 s2 s3 s4 s5 s6 a1 = some (q0, q1, q2, q3, q4, q5, q6)) :
    Calls Tryd.prog 27 #[.pointer (some ⟨g, 0, none⟩), .string a1] w fun e w' => e = .returned (.tuple #[]) ∧ IsS27 w0 w' g q0 q1 q2 q3 q4 q5 q6 ∧ Below w0.heap.size w0 w' ∧ KeepBut w w' g none := by
  unfold control_Rule_say.f at h
  split at h
  rotate_left
  · exact absurd h (by simp)
  rename_i hz
  obtain ⟨nm, hl, h⟩ := Option.bind_eq_some_iff.mp h
  obtain ⟨⟨n, ok⟩, hn, h⟩ := Option.bind_eq_some_iff.mp h
  refine control_Rule_say.walk k g s0 s1 s2 s3 s4 s5 s6 a1 ⟨(Lib.cut a1.data.toList [61]).1.toArray⟩ ⟨(Lib.cut a1.data.toList [61]).2.1.toArray⟩ ⟨(control_Rule_say.arg (Lib.cut a1.data.toList [61]).2.1).toArray⟩ nm (Lib.cut a1.data.toList [61]).2.2 ok n w0 w hI hB hG ?_ hl hn rfl ?_ q0 q1 q2 q3 q4 q5 q6 (Option.some.inj h)
  · unfold strings_Cut.f
    rw [if_pos hz]
  · have h1 : (Lib.cut a1.data.toList [61]).2.1.length ≤ a1.size := by
      unfold Lib.cut
      split
      · simp
      · simp
    have h2 : (⟨(Lib.cut a1.data.toList [61]).2.1.toArray⟩ : ByteArray).size = (Lib.cut a1.data.toList [61]).2.1.length := by
      show (Lib.cut a1.data.toList [61]).2.1.toArray.size = _
      simp
    omega


end Go.Proofs.YtmapdckelbobiaaDoor.X
