/- What Put of layer 7 (field), the program's and the document's, compute, and how a block that is put is parsed again. Fields of at most 12000 bytes. -/
import Derived.Test.YtcdjeofhhhffcaaDoorX0
import Derived.Test.YtcdjeofhhhffcaaDoorX16
import Derived.Test.YtcdjeofhhhffcaaDoorX17
import Derived.Test.YtcdjeofhhhffcaaDoorPureParse
namespace Go.Proofs.YtcdjeofhhhffcaaDoor.Pure
open Go Go.RowKit Go.Proofs.YtcdjeofhhhffcaaDoor Go.Proofs.YtcdjeofhhhffcaaDoor.X Go.Proofs.YtcdjeofhhhffcaaDoorW.PrintWords
set_option linter.unusedVariables false
set_option linter.unusedSimpArgs false

def lineS (x : S33) : List UInt8 := x.f0.data.toList ++ [58, 32] ++ x.f1.data.toList ++ [13, 10]
def linesS (l : List S33) : List UInt8 := l.flatMap lineS
def rightS (x : S33) : Bool := rightL x.f0.data.toList x.f1.data.toList
def putL (n : Nat) (l : List S33) (acc : List UInt8) : ByteArray × Int :=
  if l.all rightS = true then (if 100 < n ∨ 65536 < acc.length + (linesS l).length + 2 then ((⟨#[]⟩ : ByteArray), 4) else (bs (acc ++ linesS l ++ [13, 10]), 0)) else ((⟨#[]⟩ : ByteArray), 2)
theorem putL_cons (n : Nat) (x : S33) (l : List S33) (acc : List UInt8) : putL n (x :: l) acc = if rightS x = true then putL n l (acc ++ lineS x) else ((⟨#[]⟩ : ByteArray), 2) := by
  unfold putL
  rw [List.all_cons]
  cases h : rightS x with
  | false => simp
  | true =>
    have e1 : acc.length + (linesS (x :: l)).length + 2 = (acc ++ lineS x).length + (linesS l).length + 2 := by simp [linesS]; omega
    have e2 : acc ++ linesS (x :: l) ++ [13, 10] = acc ++ lineS x ++ linesS l ++ [13, 10] := by simp [linesS]
    rw [Bool.true_and, e1, e2]
    simp
theorem lineS_len (x : S33) : (lineS x).length = x.f0.size + x.f1.size + 4 := by
  have h1 := size_list x.f0
  have h2 := size_list x.f1
  simp only [lineS, List.length_append, List.length_cons, List.length_nil]
  omega
theorem field_Put_go (n : Nat) : ∀ (l : List S33) (acc : List UInt8), acc.length + bulkS l + 4 * l.length + 4 ≤ 140737488351232 → Ev (fun k => field_Put.go k n l acc) (putL n l acc)
  | [], acc, h => by
    simp only [field_Put.go]
    simp only [bulkS, List.map_nil, List.sum_nil, List.length_nil] at h
    rw [if_pos (by omega)]
    unfold putL
    rw [if_pos (show ([] : List S33).all rightS = true from rfl)]
    have e : (linesS []).length = 0 := rfl
    rw [e]
    by_cases h1 : (n : Int) > 100
    · rw [if_pos h1, if_pos (.inl (by omega))]
      exact Ev.const rfl
    · rw [if_neg h1]
      by_cases h2 : ((acc.length + 2 : Nat) : Int) > 65536
      · rw [if_pos h2, if_pos (.inr (by omega))]
        exact Ev.const rfl
      · rw [if_neg h2, if_neg (by omega)]
        exact Ev.const (by simp [linesS, bs])
  | x :: l, acc, h => by
    simp only [field_Put.go]
    have hb : bulkS (x :: l) = x.f0.size + x.f1.size + bulkS l := by simp [bulkS]
    rw [hb, List.length_cons] at h
    rw [putL_cons]
    refine Ev.bind (field_Right_f x.f0 x.f1 (by omega) (by omega)) ?_
    change Ev _ (if rightS x = true then _ else _)
    cases hr : rightS x with
    | false =>
      have hr' : rightL x.f0.data.toList x.f1.data.toList = false := hr
      simp only [hr', Bool.false_eq_true, if_false]
      exact Ev.const rfl
    | true =>
      have hr' : rightL x.f0.data.toList x.f1.data.toList = true := hr
      simp only [hr', if_true]
      refine Ev.pos (by omega) ?_
      have := field_Put_go n l (acc ++ lineS x) (by rw [List.length_append, lineS_len]; omega)
      exact this
theorem field_Put_f (l : List S33) (h : bulkS l + 4 * l.length + 4 ≤ 140737488351232) : Ev (fun k => field_Put.f k l) (putL l.length l []) := by
  unfold field_Put.f
  exact field_Put_go l.length l [] (by simpa using h)
theorem ref_Put_l0 (l : List S33) (hl : bulkS l + 4 * l.length + 4 ≤ 140737488351232) : ∀ (d : Nat) (i : Int) (acc : ByteArray), 0 ≤ i → i + d = l.length → acc.size + bulkS (l.drop i.toNat) + 4 * d + 4 ≤ 140737488351232 →
    Ev (fun k => mandolineref07_Put.l0 k l acc l l.length i) (putL l.length (l.drop i.toNat) acc.data.toList) := by
  intro d
  induction d with
  | zero =>
    intro i acc h0 h1 h2
    refine Ev.step (fun k => by rw [mandolineref07_Put.l0]) ?_
    rw [drop_end (by omega)]
    rw [drop_end (by omega)] at h2
    simp only [bulkS, List.map_nil, List.sum_nil] at h2
    unfold putL
    rw [if_pos (show ([] : List S33).all rightS = true from rfl)]
    have e : (linesS []).length = 0 := rfl
    have z := size_list acc
    have zc : (acc ++ (⟨#[13, 10]⟩ : ByteArray)).size = acc.size + 2 := by rw [ByteArray.size_append]; rfl
    rw [e]
    refine Ev.neg (by omega) (Ev.pos (by omega) ?_)
    by_cases h1 : (l.length : Int) > 100
    · refine Ev.pos h1 ?_
      rw [if_pos (Or.inl (by omega))]
      exact Ev.const rfl
    · refine Ev.neg h1 ?_
      by_cases h2 : (((acc ++ (⟨#[13, 10]⟩ : ByteArray)).size : Nat) : Int) > 65536
      · refine Ev.pos h2 ?_
        rw [if_pos (Or.inr (by omega))]
        exact Ev.const rfl
      · refine Ev.neg h2 ?_
        rw [if_neg (by omega)]
        refine Ev.const (congrArg some (Prod.ext (ext_list ?_) rfl))
        simp [linesS, bs, append_list]
  | succ d ih =>
    intro i acc h0 h1 h2
    refine Ev.step (fun k => by rw [mandolineref07_Put.l0]) ?_
    rw [getD_drop (l := l) (z := z33) h0 (by omega), putL_cons]
    rw [getD_drop (l := l) (z := z33) h0 (by omega)] at h2
    have hb : bulkS (l.getD i.toNat z33 :: l.drop (i + 1).toNat) = (l.getD i.toNat z33).f0.size + (l.getD i.toNat z33).f1.size + bulkS (l.drop (i + 1).toNat) := by simp [bulkS]
    rw [hb] at h2
    unfold rd_T33
    generalize l.getD i.toNat z33 = x at h2 ⊢
    refine Ev.pos (by omega) (Ev.pos (by omega) (Ev.pos (by omega) ?_))
    refine Ev.bind (ref_Right_f x.f0 x.f1 (by omega) (by omega)) ?_
    change Ev _ (if rightS x = true then _ else _)
    cases hr : rightS x with
    | false =>
      have hr' : rightL x.f0.data.toList x.f1.data.toList = false := hr
      simp only [hr', Bool.false_eq_true, if_false]
      exact Ev.const rfl
    | true =>
      have hr' : rightL x.f0.data.toList x.f1.data.toList = true := hr
      simp only [hr', if_true]
      refine Ev.pos (by omega) (Ev.pos (by omega) (Ev.pos (by omega) (Ev.pos (by omega) ?_)))
      have hz : ((((acc ++ x.f0) ++ (⟨#[58, 32]⟩ : ByteArray)) ++ x.f1) ++ (⟨#[13, 10]⟩ : ByteArray)).data.toList = acc.data.toList ++ lineS x := by simp [lineS, append_list]
      have := ih (i + 1) ((((acc ++ x.f0) ++ (⟨#[58, 32]⟩ : ByteArray)) ++ x.f1) ++ (⟨#[13, 10]⟩ : ByteArray)) (by omega) (by omega) (by rw [size_list, hz, List.length_append, lineS_len, ← size_list]; omega)
      rw [hz] at this
      simp (disch := omega) only [wrap64_eq]
      exact this
theorem ref_Put_f (l : List S33) (h : bulkS l + 4 * l.length + 4 ≤ 140737488351232) : Ev (fun k => mandolineref07_Put.f k l) (putL l.length l []) := by
  unfold mandolineref07_Put.f
  have := ref_Put_l0 l h l.length 0 (⟨#[]⟩ : ByteArray) (by omega) (by omega) (by simp only [Int.toNat_zero, List.drop_zero]; have : (⟨#[]⟩ : ByteArray).size = 0 := rfl; omega)
  simpa using this

/-! ### parsed again -/
theorem tokB_not {b : UInt8} (h : tokB b = true) : b ≠ 58 ∧ b ≠ 13 := by
  constructor
  · rintro rfl; exact absurd h (by decide +kernel)
  · rintro rfl; exact absurd h (by decide +kernel)
theorem valB_not {b : UInt8} (h : valB b = true) : b ≠ 13 := by
  rintro rfl; exact absurd h (by decide +kernel)
theorem rightS_parts {x : S33} (h : rightS x = true) : (∀ b ∈ x.f0.data.toList, tokB b = true) ∧ 1 ≤ x.f0.data.toList.length ∧ trimL x.f1.data.toList = x.f1.data.toList ∧ (∀ b ∈ x.f1.data.toList, valB b = true) := by
  unfold rightS rightL at h
  simp only [Bool.and_eq_true, List.all_eq_true, decide_eq_true_eq, beq_iff_eq] at h
  obtain ⟨⟨⟨⟨⟨h1, h2⟩, h3⟩, h4⟩, h5⟩, h6⟩ := h
  exact ⟨h1, h2, h5, h6⟩
def headS (x : S33) : List UInt8 := x.f0.data.toList ++ [58, 32] ++ x.f1.data.toList
theorem lineS_head (x : S33) : lineS x = headS x ++ [13, 10] := rfl
theorem headS_free {x : S33} (h : rightS x = true) : ∀ b ∈ headS x, b ≠ 13 := by
  obtain ⟨h1, _, _, h4⟩ := rightS_parts h
  intro b hb
  unfold headS at hb
  rcases List.mem_append.1 hb with hb | hb
  · rcases List.mem_append.1 hb with hb | hb
    · exact (tokB_not (h1 b hb)).2
    · rcases List.mem_cons.1 hb with rfl | hb
      · decide
      · rcases List.mem_cons.1 hb with rfl | hb
        · decide
        · exact absurd hb (by simp)
  · exact valB_not (h4 b hb)
theorem headS_len {x : S33} (h : rightS x = true) : 0 < (headS x).length := by
  unfold headS
  simp only [List.length_append, List.length_cons, List.length_nil]
  omega
theorem fieldL_head {x : S33} (h : rightS x = true) : fieldL (headS x) = some x := by
  obtain ⟨h1, h2, h3, h4⟩ := rightS_parts h
  have e0 : headS x = x.f0.data.toList ++ 58 :: (32 :: x.f1.data.toList) := by simp [headS]
  have e1 : Lib.index (headS x) [58] = (x.f0.data.toList.length : Nat) := by rw [e0]; exact colon_free _ _ (fun b hb => (tokB_not (h1 b hb)).1)
  unfold fieldL
  rw [e1, Int.toNat_natCast]
  have e2 : (headS x).take x.f0.data.toList.length = x.f0.data.toList := by rw [e0]; simp
  have e3 : (headS x).drop (x.f0.data.toList.length + 1) = 32 :: x.f1.data.toList := by
    rw [e0, List.drop_append]
    simp
  have e4 : trimL (32 :: x.f1.data.toList) = x.f1.data.toList := by
    unfold trimL at h3 ⊢
    rw [trim_cons (by decide)]
    exact h3
  rw [e2, e3, e4, if_pos ⟨by omega, h⟩]
  simp only [bs_of]
theorem linesS_cons (x : S33) (l : List S33) (t : List UInt8) : linesS (x :: l) ++ t = headS x ++ 13 :: 10 :: (linesS l ++ t) := by simp [linesS, lineS_head]
theorem parse_lines (more : List UInt8) : ∀ (l : List S33) (n : Nat) (pre : List UInt8) (acc : List S33), l.all rightS = true → l.length < n → acc.length + l.length ≤ 100 → pre.length + (linesS l).length + 2 ≤ 65536 →
    parseL (pre ++ (linesS l ++ 13 :: 10 :: more)) n pre.length acc = (acc ++ l, ((pre.length + (linesS l).length + 2 : Nat) : Int), 0)
  | [], n, pre, acc, h1, h2, h3, h4 => by
    obtain ⟨n, rfl⟩ : ∃ m, n = m + 1 := ⟨n - 1, by have : ([] : List S33).length = 0 := rfl; omega⟩
    have e0 : linesS [] = [] := rfl
    rw [e0] at h4 ⊢
    have e1 := eol_free [] more (by simp)
    rw [List.nil_append] at e1
    rw [parseL, List.drop_left, List.nil_append, e1]
    simp only [List.length_nil] at h4
    simp only [List.length_nil] at e1 ⊢
    rw [if_neg (by omega), if_neg (by simp; omega), if_pos (by rfl)]
    simp
  | x :: l, n, pre, acc, h1, h2, h3, h4 => by
    obtain ⟨n, rfl⟩ : ∃ m, n = m + 1 := ⟨n - 1, by omega⟩
    rw [List.all_cons, Bool.and_eq_true] at h1
    have hz : (linesS (x :: l)).length = (headS x).length + 2 + (linesS l).length := by simp only [linesS, List.flatMap_cons, lineS_head, List.length_append, List.length_cons, List.length_nil]
    rw [hz] at h4
    rw [parseL, List.drop_left, linesS_cons, eol_free _ _ (headS_free h1.1)]
    have hp := headS_len h1.1
    simp only [List.length_cons] at h2 h3
    rw [if_neg (by omega), if_neg (by omega), if_neg (by omega), if_neg (by omega), Int.toNat_natCast, List.take_left, fieldL_head h1.1]
    simp only
    have := parse_lines more l n (pre ++ headS x ++ [13, 10]) (acc ++ [x]) h1.2 (by omega) (by simp; omega) (by simp; omega)
    have e1 : pre ++ headS x ++ [13, 10] ++ (linesS l ++ 13 :: 10 :: more) = pre ++ (headS x ++ 13 :: 10 :: (linesS l ++ 13 :: 10 :: more)) := by simp
    have e2 : (pre ++ headS x ++ [13, 10]).length = pre.length + (headS x).length + 2 := by simp; omega
    rw [e1, e2] at this
    rw [this, hz]
    simp
    omega
theorem eol_cut : ∀ (h : List UInt8) (t : List UInt8) (m : Nat), (∀ b ∈ h, b ≠ 13) → m ≤ h.length + 1 → Lib.index ((h ++ 13 :: 10 :: t).take m) eol = -1 := by
  intro h t m hh hm
  by_cases h1 : m ≤ h.length
  · rw [List.take_append_of_le_length h1]
    exact eol_none _ (fun b hb => hh b (List.mem_of_mem_take hb))
  · have : m = h.length + 1 := by omega
    subst this
    have e : (h ++ 13 :: 10 :: t).take (h.length + 1) = h ++ [13] := by rw [List.take_append, List.take_of_length_le (by omega), show h.length + 1 - h.length = 1 by omega]; rfl
    rw [e]
    exact eol_none' h hh
theorem parse_cut : ∀ (l : List S33) (n : Nat) (pre : List UInt8) (acc : List S33) (c : Nat), l.all rightS = true → c < n → acc.length + l.length ≤ 100 → pre.length + (linesS l).length + 2 ≤ 65536 → c < (linesS l).length + 2 →
    parseL (pre ++ (linesS l ++ [13, 10]).take c) n pre.length acc = ([], 0, 3)
  | [], n, pre, acc, c, h1, h2, h3, h4, h5 => by
    obtain ⟨n, rfl⟩ : ∃ m, n = m + 1 := ⟨n - 1, by omega⟩
    have e0 : linesS [] = [] := rfl
    rw [e0] at h4 h5 ⊢
    simp only [List.length_nil] at h4 h5
    rw [parseL, List.drop_left, List.nil_append]
    have := eol_cut [] [] c (by simp) (by simp; omega)
    rw [List.nil_append] at this
    rw [this, if_pos (by omega), if_pos (by rw [List.length_append, List.length_take]; simp; omega)]
  | x :: l, n, pre, acc, c, h1, h2, h3, h4, h5 => by
    obtain ⟨n, rfl⟩ : ∃ m, n = m + 1 := ⟨n - 1, by omega⟩
    rw [List.all_cons, Bool.and_eq_true] at h1
    have hz : (linesS (x :: l)).length = (headS x).length + 2 + (linesS l).length := by simp only [linesS, List.flatMap_cons, lineS_head, List.length_append, List.length_cons, List.length_nil]
    rw [hz] at h4 h5
    have hp := headS_len h1.1
    simp only [List.length_cons] at h3
    rw [linesS_cons]
    by_cases hc : c ≤ (headS x).length + 1
    · rw [parseL, List.drop_left, eol_cut _ _ c (headS_free h1.1) hc, if_pos (by omega), if_pos (by rw [List.length_append, List.length_take]; omega)]
    · have e : (headS x ++ 13 :: 10 :: (linesS l ++ [13, 10])).take c = headS x ++ 13 :: 10 :: (linesS l ++ [13, 10]).take (c - (headS x).length - 2) := by
        obtain ⟨m, rfl⟩ : ∃ m, c = (headS x).length + (m + 2) := ⟨c - (headS x).length - 2, by omega⟩
        rw [List.take_append, List.take_of_length_le (by omega), show (headS x).length + (m + 2) - (headS x).length = m + 2 by omega, show m + 2 - 2 = m by omega]
        rfl
      rw [e, parseL, List.drop_left, eol_free _ _ (headS_free h1.1)]
      rw [if_neg (by omega), if_neg (by omega), if_neg (by omega), if_neg (by omega), Int.toNat_natCast, List.take_left, fieldL_head h1.1]
      simp only
      have := parse_cut l n (pre ++ headS x ++ [13, 10]) (acc ++ [x]) (c - (headS x).length - 2) h1.2 (by omega) (by simp; omega) (by simp; omega) (by omega)
      have e1 : pre ++ headS x ++ [13, 10] ++ (linesS l ++ [13, 10]).take (c - (headS x).length - 2) = pre ++ (headS x ++ 13 :: 10 :: (linesS l ++ [13, 10]).take (c - (headS x).length - 2)) := by simp
      have e2 : (pre ++ headS x ++ [13, 10]).length = pre.length + (headS x).length + 2 := by simp; omega
      rw [e1, e2] at this
      exact this
end Go.Proofs.YtcdjeofhhhffcaaDoor.Pure
