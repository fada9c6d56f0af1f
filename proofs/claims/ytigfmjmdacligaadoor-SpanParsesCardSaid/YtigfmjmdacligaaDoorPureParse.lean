/- What both ways of reading a span's text answer: the span whose text it is, or none. -/
import Derived.Test.YtigfmjmdacligaaDoorX0
import Derived.Test.YtigfmjmdacligaaDoorX7
import Derived.Test.YtigfmjmdacligaaDoorX8
import Derived.Test.YtigfmjmdacligaaDoorX10
import Derived.Test.YtigfmjmdacligaaDoorX21
import Derived.Test.YtigfmjmdacligaaDoorX22
import Derived.Test.YtigfmjmdacligaaDoorPureText
import Derived.Lib.IndexLaws
namespace Go.Proofs.YtigfmjmdacligaaDoor.Pure
open Go Go.RowKit Go.Proofs.YtigfmjmdacligaaDoor Go.Proofs.YtigfmjmdacligaaDoor.X Go.Proofs.YtigfmjmdacligaaDoorW.PrintWords Go.Proofs.YtigfmjmdacligaaDoorW.PrintMore
set_option linter.unusedVariables false
set_option linter.unusedSimpArgs false
/-! ### the program's -/
theorem index_dash : ∀ (l r : List UInt8), (∀ b ∈ l, b ≠ 45) → Lib.index (l ++ 45 :: r) [45] = l.length
  | [], r, _ => by
    rw [List.nil_append, Lib.index]
    simp
  | c :: l, r, h => by
    rw [List.cons_append, Lib.index, index_dash l r (fun b hb => h b (by simp [hb]))]
    have hc : (45 == c) = false := beq_eq_false_iff_ne.2 (fun e => h c (by simp) e.symm)
    have h1 : List.isPrefixOf [45] (c :: (l ++ 45 :: r)) = false := by simp [List.isPrefixOf, hc]
    rw [h1]
    have h2 : (((l.length : Int)) == -1) = false := beq_eq_false_iff_ne.2 (by omega)
    rw [h2]
    simp
theorem cut_dash (l r : List UInt8) (h : ∀ b ∈ l, b ≠ 45) : Lib.cut (l ++ 45 :: r) [45] = (l, r, true) := by
  unfold Lib.cut
  rw [index_dash l r h, if_pos (by omega)]
  simp
theorem dd_dash (n : Nat) : ∀ b ∈ Lib.decDigits n, b ≠ 45 := by
  intro b hb e
  have := dd_digits n b hb
  rw [e] at this
  have : (45 : UInt8).toNat = 45 := rfl
  omega
/-- A text, cut. -/
theorem Tx_form {a b : Int} (h : R a b = true) : ∃ r, Tx a b = Lib.decDigits a.toNat ++ 45 :: r ∧ ((r = [] ∧ b = 4611686018427387904) ∨ r = Lib.decDigits b.toNat) := by
  unfold Tx
  rw [if_pos h]
  split
  · rename_i h2
    exact ⟨[], by simp, .inl ⟨rfl, h2.1⟩⟩
  · exact ⟨_, by simp, .inr rfl⟩
theorem Tx_ne {a b : Int} (h : R a b = true) : Tx a b ≠ [] := by
  obtain ⟨r, e, _⟩ := Tx_form h
  rw [e]
  simp
theorem num_int {a : Int} (h0 : 0 ≤ a) (h1 : a ≤ 4611686018427387904) : span_Parse.num (Lib.decDigits a.toNat) = some a := by
  rw [num_dd a.toNat (by omega)]
  congr 1
  omega
theorem fin_eq (s : ByteArray) (v u : Int) : span_Parse.fin s (some v) (some u) = if Tx v u = s.data.toList ∧ s.data.toList ≠ [] then some (v, u, 0) else some (0, 0, 2) := by
  show ((span_Text.f v u).bind fun t => if t.toList = s.toList ∧ s.toList ≠ [] then some (v, u, (0 : Int)) else some (0, 0, 2)) = _
  rw [span_Text_eq, Option.bind_some, toList_data, toList_data, bs_list]
theorem span_Parse_in {s : ByteArray} {a b : Int} (h : R a b = true) (hs : s.size ≤ 1000) (e : Tx a b = s.data.toList) : span_Parse.f s = some (a, b, 0) := by
  have h' := R_iff.1 h
  obtain ⟨r, er, hr⟩ := Tx_form h
  have hc : Lib.cut s.data.toList [45] = (Lib.decDigits a.toNat, r, true) := by rw [← e, er]; exact cut_dash _ _ (dd_dash _)
  unfold span_Parse.f span_Parse.one span_Parse.two
  rw [if_pos (by omega), hc]
  simp only [toList_data]
  rw [num_int h'.1 (by omega)]
  have hu : (if r = [] then some 4611686018427387904 else span_Parse.num r) = some b := by
    rcases hr with ⟨rfl, rfl⟩ | rfl
    · rfl
    · rw [if_neg (dd_ne _), num_int (by omega) (by omega)]
  rw [hu, fin_eq, if_pos ⟨e, by rw [← e]; exact Tx_ne h⟩]
theorem span_Parse_out {s : ByteArray} (hs : s.size ≤ 1000) (h : ∀ a b, R a b = true → Tx a b ≠ s.data.toList) : span_Parse.f s = some (0, 0, 2) := by
  have key : ∀ x y, span_Parse.fin s x y = some (0, 0, 2) := by
    intro x y
    match x, y with
    | none, _ => rfl
    | some v, none => rfl
    | some v, some u =>
      rw [fin_eq, if_neg]
      rintro ⟨e, hne⟩
      by_cases hr : R v u = true
      · exact h v u hr e
      · unfold Tx at e
        rw [if_neg hr] at e
        exact hne e.symm
  unfold span_Parse.f
  rw [if_pos (by omega)]
  exact key _ _
/-! ### the document's -/
theorem ref_Num (n : Nat) (h : n ≤ 9223372036854775807) : Ev (fun k => mandolineref01_Num.f k (n : Int)) (bs (Lib.decDigits n)) := by
  induction n using Nat.strongRecOn with
  | _ n ih =>
    refine Ev.step (fun k => by rw [mandolineref01_Num.f]) ?_
    by_cases h1 : n < 10
    · have h1' : (n : Int) < 10 := by omega
      simp only [h1', if_true]
      refine Ev.const (congrArg some ?_)
      rw [dd_small h1, wrap64_eq (by omega) (by omega)]
      unfold strOfNums dgt
      have e : (48 + (n : Int)) % 256 = ((48 + n % 10 : Nat) : Int) := by omega
      rw [e]
      rfl
    · have h1' : ¬ ((n : Int) < 10) := by omega
      have e1 : wrap64 (Int.tdiv (n : Int) 10) = ((n / 10 : Nat) : Int) := by
        rw [Int.tdiv_eq_ediv_of_nonneg (by omega), wrap64_eq (by omega) (by omega)]
        omega
      have e2 : Int.tmod (n : Int) 10 = ((n % 10 : Nat) : Int) := by
        rw [Int.tmod_eq_emod_of_nonneg (by omega)]
        omega
      simp only [h1', if_false, e1, e2]
      refine Ev.bind (ih (n / 10) (by omega) (by omega)) ?_
      refine Ev.bind (ih (n % 10) (by omega) (by omega)) ?_
      have hp : n < 10 ^ (18 + 1) := Nat.lt_of_le_of_lt h (by decide)
      have l1 := dd_len_lt 18 (n := n / 10) (by omega)
      have l2 := dd_len_lt 18 (n := n % 10) (by omega)
      have hz : (bs (Lib.decDigits (n / 10))).size + (bs (Lib.decDigits (n % 10))).size ≤ 9223372036854775807 := by rw [bs_size, bs_size]; omega
      simp only [hz, if_true]
      refine Ev.const (congrArg some ?_)
      rw [bs_app, dd_big h1, dd_small (n := n % 10) (by omega)]
      congr 2
      unfold dgt
      rw [Nat.mod_mod]
theorem ref_Num_int {n : Int} (h0 : 0 ≤ n) (h : n ≤ 9223372036854775807) : Ev (fun k => mandolineref01_Num.f k n) (bs (Lib.decDigits n.toNat)) := by
  have := ref_Num n.toNat (by omega)
  rw [Int.toNat_of_nonneg h0] at this
  exact this
theorem ref_Text_f (a b : Int) : Ev (fun k => mandolineref01_Text.f k a b) (bs (Tx a b)) := by
  unfold mandolineref01_Text.f mandolineref01_end.f
  simp only [ref_Right_eq, Option.bind_some]
  cases h : R a b with
  | false =>
    simp only [Bool.false_eq_true, if_false]
    exact Ev.const (by unfold Tx; rw [h]; rfl)
  | true =>
    have h' := R_iff.1 h
    have h1 := dd_len (n := a) (by omega)
    have h2 := dd_len (n := b) (by omega)
    have e45 : (⟨#[45]⟩ : ByteArray) = bs [45] := rfl
    have g1 : (bs (Lib.decDigits a.toNat)).size + 1 ≤ 9223372036854775807 := by rw [bs_size]; omega
    have g2 : (bs (Lib.decDigits a.toNat)).size + 1 + (bs (Lib.decDigits b.toNat)).size ≤ 9223372036854775807 := by rw [bs_size, bs_size]; omega
    have yes : (b = 4611686018427387904 ∧ a < b) → Ev (fun k => mandolineref01_Text.j0 k true a b) (bs (Tx a b)) := by
      intro hc
      refine Ev.step (fun k => by rw [mandolineref01_Text.j0]) ?_
      simp only [if_true]
      refine Ev.bind (ref_Num_int h'.1 (by omega)) ?_
      simp only [g1, if_true, e45, bs_app]
      exact Ev.const (by unfold Tx; rw [if_pos h, if_pos hc])
    have no : ¬ (b = 4611686018427387904 ∧ a < b) → Ev (fun k => mandolineref01_Text.j0 k false a b) (bs (Tx a b)) := by
      intro hc
      refine Ev.step (fun k => by rw [mandolineref01_Text.j0]) ?_
      simp only [Bool.false_eq_true, if_false]
      refine Ev.bind (ref_Num_int h'.1 (by omega)) ?_
      simp only [g1, if_true]
      refine Ev.bind (ref_Num_int (n := b) (by omega) (by omega)) ?_
      simp only [g2, if_true, e45, bs_app]
      exact Ev.const (by unfold Tx; rw [if_pos h, if_neg hc])
    simp only [if_true]
    by_cases hb : b = 4611686018427387904
    · simp only [hb, if_true]
      rw [← hb]
      by_cases ha : a = b
      · have e : (a != b) = false := by rw [ha]; exact bne_self_eq_false _
        rw [e]
        exact no (by omega)
      · have e : (a != b) = true := bne_iff_ne.2 ha
        rw [e]
        exact yes ⟨hb, by omega⟩
    · simp only [hb, if_false]
      exact no (by omega)
end Go.Proofs.YtigfmjmdacligaaDoor.Pure
