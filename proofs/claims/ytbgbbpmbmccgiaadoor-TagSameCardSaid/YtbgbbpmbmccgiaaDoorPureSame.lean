/- What Weak, Strong and In of layer 5 (tag), the program's and the document's, compute. No condition but that texts are no longer than memory. -/
import Derived.Test.YtbgbbpmbmccgiaaDoorX0
import Derived.Test.YtbgbbpmbmccgiaaDoorX7
import Derived.Test.YtbgbbpmbmccgiaaDoorX8
import Derived.Test.YtbgbbpmbmccgiaaDoorX22
import Derived.Test.YtbgbbpmbmccgiaaDoorX24
import Derived.Test.YtbgbbpmbmccgiaaDoorPureTexts
namespace Go.Proofs.YtbgbbpmbmccgiaaDoor.Pure
open Go Go.RowKit Go.Proofs.YtbgbbpmbmccgiaaDoor Go.Proofs.YtbgbbpmbmccgiaaDoor.X Go.Proofs.YtbgbbpmbmccgiaaDoorW.PrintWords
set_option linter.unusedVariables false
set_option linter.unusedSimpArgs false

def weakB (s t : ByteArray) : Bool := rightL s.data.toList && rightL t.data.toList && (s.data.toList == t.data.toList)
def strongB (s : ByteArray) (u : Bool) (t : ByteArray) (v : Bool) : Bool := weakB s t && !u && !v

theorem weak_way (R : ByteArray → Nat → Option Bool) (s t : ByteArray) (hs : Ev (R s) (rightL s.data.toList)) (ht : Ev (R t) (rightL t.data.toList)) :
    Ev (fun k => (R s k).bind fun x => (if x = true then ((R t k).bind fun y => (if y = true then (some (s.toList == t.toList)) else (some false))) else (some false))) (weakB s t) := by
  refine Ev.bind hs ?_
  unfold weakB
  cases rightL s.data.toList with
  | false => exact Ev.const rfl
  | true =>
    simp only [if_true, Bool.true_and]
    refine Ev.bind ht ?_
    cases rightL t.data.toList with
    | false => exact Ev.const rfl
    | true =>
      simp only [if_true, Bool.true_and, toList_data]
      exact Ev.now _
theorem tag_Weak_f (s t : ByteArray) (u v : Bool) (hs : s.size ≤ 4611686018427387904) (ht : t.size ≤ 4611686018427387904) : Ev (fun k => tag_Weak.f k s u t v) (weakB s t) := by
  unfold tag_Weak.f
  refine Ev.bind (tag_Right_f s u hs) ?_
  unfold weakB
  cases rightL s.data.toList with
  | false => exact Ev.const rfl
  | true =>
    simp only [if_true, Bool.true_and]
    refine Ev.bind (tag_Right_f t v ht) ?_
    cases rightL t.data.toList with
    | false => exact Ev.const rfl
    | true =>
      simp only [if_true, Bool.true_and, toList_data]
      exact Ev.now _
theorem ref_Weak_f (s t : ByteArray) (u v : Bool) (hs : s.size ≤ 4611686018427387904) (ht : t.size ≤ 4611686018427387904) : Ev (fun k => mandolineref05_Weak.f k s u t v) (weakB s t) := by
  unfold mandolineref05_Weak.f
  refine Ev.bind (ref_Right_f s u hs) ?_
  unfold weakB
  cases rightL s.data.toList with
  | false => exact Ev.const rfl
  | true =>
    simp only [if_true, Bool.true_and]
    refine Ev.bind (ref_Right_f t v ht) ?_
    cases rightL t.data.toList with
    | false => exact Ev.const rfl
    | true =>
      simp only [if_true, Bool.true_and, toList_data]
      exact Ev.now _
theorem tag_Strong_f (s t : ByteArray) (u v : Bool) (hs : s.size ≤ 4611686018427387904) (ht : t.size ≤ 4611686018427387904) : Ev (fun k => tag_Strong.f k s u t v) (strongB s u t v) := by
  unfold tag_Strong.f
  refine Ev.bind (tag_Weak_f s t u v hs ht) ?_
  unfold strongB
  cases weakB s t with
  | false => exact Ev.const rfl
  | true => cases u <;> exact Ev.const rfl
theorem ref_Strong_f (s t : ByteArray) (u v : Bool) (hs : s.size ≤ 4611686018427387904) (ht : t.size ≤ 4611686018427387904) : Ev (fun k => mandolineref05_Strong.f k s u t v) (strongB s u t v) := by
  unfold mandolineref05_Strong.f
  refine Ev.bind (ref_Weak_f s t u v hs ht) ?_
  unfold strongB
  cases weakB s t with
  | false => exact Ev.const rfl
  | true => cases u <;> exact Ev.const rfl

def oneB (st : Bool) (t : ByteArray) (v : Bool) (x : S23) : Bool := if st = true then strongB x.f0 x.f1 t v else weakB x.f0 t
theorem tag_In_go (t : ByteArray) (v st : Bool) (ht : t.size ≤ 4611686018427387904) : ∀ l : List S23, (∀ x ∈ l, x.f0.size ≤ 140737488351232) → Ev (fun k => tag_In.go k t v st l) (l.any (oneB st t v))
  | [], _ => Ev.now _
  | x :: l, hl => by
    have hx := hl x (by simp)
    have ih := tag_In_go t v st ht l (fun y hy => hl y (by simp [hy]))
    have h1 : Ev (fun k => tag_In.one k st x t v) (oneB st t v x) := by
      unfold tag_In.one oneB
      cases st with
      | true => exact tag_Strong_f _ _ _ _ (by omega) ht
      | false => exact tag_Weak_f _ _ _ _ (by omega) ht
    show Ev (fun k => (tag_In.one k st x t v).bind fun b => if b = true then some true else tag_In.go k t v st l) _
    refine Ev.bind h1 ?_
    rw [List.any_cons]
    cases oneB st t v x with
    | true => exact Ev.const rfl
    | false => exact ih
theorem ref_In_l0 (l : List S23) (t : ByteArray) (v st : Bool) (ht : t.size ≤ 4611686018427387904) (hl : ∀ x ∈ l, x.f0.size ≤ 140737488351232) (hz : l.length ≤ 140737488351232) : ∀ (d : Nat) (i : Int), 0 ≤ i → i + d = l.length →
    Ev (fun k => mandolineref05_In.l0 k l st i t v) ((l.drop i.toNat).any (oneB st t v)) := by
  intro d
  induction d with
  | zero =>
    intro i h0 h1
    rw [drop_end (by omega)]
    refine Ev.step (fun k => by rw [mandolineref05_In.l0]) ?_
    simp (disch := omega) only [if_neg]
    exact Ev.now _
  | succ d ih =>
    intro i h0 h1
    have hx := hl _ (getD_mem (l := l) (z := z23) h0 (by omega))
    have hd := getD_drop (l := l) (z := z23) h0 (by omega)
    have ih' := ih (i + 1) (by omega) (by omega)
    rw [hd, List.any_cons]
    refine Ev.step (fun k => by rw [mandolineref05_In.l0]) ?_
    unfold rd_T23
    cases st with
    | true =>
      simp (disch := omega) only [if_pos, if_true, wrap64_eq]
      refine Ev.bind (ref_Strong_f _ _ _ _ (by omega) ht) ?_
      show Ev _ (strongB _ _ t v || _)
      cases strongB (l.getD i.toNat z23).f0 (l.getD i.toNat z23).f1 t v with
      | true => exact Ev.const rfl
      | false => exact ih'
    | false =>
      simp (disch := omega) only [if_pos, Bool.false_eq_true, if_false, wrap64_eq]
      refine Ev.bind (ref_Weak_f _ _ _ _ (by omega) ht) ?_
      show Ev _ (weakB _ t || _)
      cases weakB (l.getD i.toNat z23).f0 t with
      | true => exact Ev.const rfl
      | false => exact ih'
end Go.Proofs.YtbgbbpmbmccgiaaDoor.Pure
