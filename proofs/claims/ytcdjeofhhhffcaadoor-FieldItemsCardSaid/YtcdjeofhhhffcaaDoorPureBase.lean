/- What the functions of layer 7 (field), the program's and the document's, compute of bytes, names and single fields, in plain words on lists of bytes. No condition but that texts are no longer than memory. -/
import Derived.Test.YtcdjeofhhhffcaaDoorX0
import Derived.Test.YtcdjeofhhhffcaaDoorX2
import Derived.Test.YtcdjeofhhhffcaaDoorX3
import Derived.Test.YtcdjeofhhhffcaaDoorX4
import Derived.Test.YtcdjeofhhhffcaaDoorX6
import Derived.Test.YtcdjeofhhhffcaaDoorX9
import Derived.Test.YtcdjeofhhhffcaaDoorX10
import Derived.Test.YtcdjeofhhhffcaaDoorX14
import Derived.Test.YtcdjeofhhhffcaaDoorX15
import Derived.Test.YtcdjeofhhhffcaaDoorBytes
namespace Go.Proofs.YtcdjeofhhhffcaaDoor.Pure
open Go Go.RowKit Go.Proofs.YtcdjeofhhhffcaaDoor Go.Proofs.YtcdjeofhhhffcaaDoor.X Go.Proofs.YtcdjeofhhhffcaaDoorW.PrintWords
set_option linter.unusedVariables false
set_option linter.unusedSimpArgs false

def bs (l : List UInt8) : ByteArray := ⟨l.toArray⟩
theorem bs_list (l : List UInt8) : (bs l).data.toList = l := rfl
theorem bs_size (l : List UInt8) : (bs l).size = l.length := by rw [size_list, bs_list]
theorem bs_of (s : ByteArray) : bs s.data.toList = s := mk_data s
/-- Without blanks at both ends. -/
def trimL (l : List UInt8) : List UInt8 := Lib.trimS l [32, 9]
theorem strings_Trim_blank (s : ByteArray) (hs : s.size ≤ 4611686018427387904) : strings_Trim.f s (⟨#[32, 9]⟩ : ByteArray) = some (bs (trimL s.data.toList)) := by
  unfold strings_Trim.f
  rw [if_pos ⟨by omega, by decide, by decide⟩]
  rfl
theorem ref_blank (b : UInt8) : mandolineref07_blank.f (b.toNat : Int) = some ([32, 9].contains b) := by
  have := b.toNat_lt
  unfold mandolineref07_blank.f
  by_cases h : b = 32
  · subst h
    rfl
  · have h1 : ¬ ((b.toNat : Int) = 32) := fun e => h (UInt8.toNat_inj.1 (by show b.toNat = 32; omega))
    rw [if_neg h1]
    congr 1
    have e1 : [32, 9].contains b = (b == 9) := by
      have h32 : (b == 32) = false := by simpa using h
      simp only [List.contains, List.elem, h32]
      cases (b == 9) <;> rfl
    rw [e1]
    by_cases h9 : b = 9
    · subst h9
      rfl
    · have h2 : ¬ ((b.toNat : Int) = 9) := fun e => h9 (UInt8.toNat_inj.1 (by show b.toNat = 9; omega))
      rw [beq_eq_false_iff_ne.2 h9, beq_eq_false_iff_ne.2 h2]
theorem ref_trim_l1 : ∀ (n : Nat) (s : ByteArray), s.size = n → s.size ≤ 4611686018427387904 → Ev (fun k => mandolineref07_Trim.l1 k s) (bs (Lib.trimRightS s.data.toList [32, 9])) := by
  intro n
  induction n with
  | zero =>
    intro s h hs
    have e : s.data.toList = [] := List.eq_nil_of_length_eq_zero (by rw [← size_list]; exact h)
    refine Ev.step (fun k => by rw [mandolineref07_Trim.l1]) ?_
    simp (disch := omega) only [if_neg]
    exact Ev.const (congrArg some (ext_list (by rw [e]; rfl)))
  | succ n ih =>
    intro s h hs
    obtain ⟨l, b, hl⟩ : ∃ l b, s.data.toList = l ++ [b] := by
      have h0 : s.data.toList ≠ [] := by intro h0; have := size_list s; rw [h0, List.length_nil] at this; omega
      exact ⟨_, _, (List.dropLast_concat_getLast h0).symm⟩
    have hln : l.length = n := by have := size_list s; rw [hl, List.length_append, List.length_singleton] at this; omega
    have hb : bt s ((s.size : Int) - 1) = (b.toNat : Int) := bt_get (by
      rw [hl, show ((s.size : Int) - 1).toNat = l.length by omega]
      simp)
    have he : (s.extract 0 ((s.size : Int) - 1).toNat).data.toList = l := by
      rw [extract_list, List.drop_zero, hl, show ((s.size : Int) - 1).toNat - 0 = l.length by omega]
      simp
    have hz : (s.extract 0 ((s.size : Int) - 1).toNat).size = n := by rw [size_list (s.extract 0 ((s.size : Int) - 1).toNat), he]; exact hln
    have ih' := ih _ hz (by omega)
    refine Ev.step (fun k => by rw [mandolineref07_Trim.l1]) ?_
    simp (disch := omega) only [if_pos, wrap64_eq, hb, ref_blank, Option.bind_some]
    rw [hl, trimR_snoc]
    by_cases hc : [32, 9].contains b = true
    · simp only [hc, if_true]
      rw [he] at ih'
      exact ih'
    · simp only [hc, if_false, Bool.false_eq_true]
      exact Ev.const (congrArg some (ext_list (by rw [hl]; rfl)))
theorem ref_trim_l0 : ∀ (n : Nat) (s : ByteArray), s.size = n → s.size ≤ 4611686018427387904 → Ev (fun k => mandolineref07_Trim.l0 k s) (bs (Lib.trimRightS (Lib.trimLeftS s.data.toList [32, 9]) [32, 9])) := by
  intro n
  induction n with
  | zero =>
    intro s h hs
    have e : s.data.toList = [] := List.eq_nil_of_length_eq_zero (by rw [← size_list]; exact h)
    refine Ev.step (fun k => by rw [mandolineref07_Trim.l0]) ?_
    simp (disch := omega) only [if_neg]
    refine Ev.step (fun k => by rw [mandolineref07_Trim.j1]) ?_
    have := ref_trim_l1 0 s h hs
    rw [e] at this ⊢
    exact this
  | succ n ih =>
    intro s h hs
    obtain ⟨b, hd, hb⟩ := bt_drop (s := s) (i := 0) (by omega) (by omega)
    rw [show ((0 : Int) + 1).toNat = 1 from rfl, show ((0 : Int)).toNat = 0 from rfl, List.drop_zero] at hd
    have e : (s.extract 1 s.size).data.toList = s.data.toList.drop 1 := by
      rw [extract_list, List.take_of_length_le]
      rw [List.length_drop, ← size_list]
      omega
    have ih' := ih (s.extract 1 s.size) (by rw [size_list, e, List.length_drop, ← size_list]; omega) (by rw [size_list, e, List.length_drop, ← size_list]; omega)
    rw [e] at ih'
    refine Ev.step (fun k => by rw [mandolineref07_Trim.l0]) ?_
    simp (disch := omega) only [if_pos, hb, ref_blank, Option.bind_some]
    have ht : Lib.trimLeftS s.data.toList [32, 9] = if [32, 9].contains b = true then Lib.trimLeftS (s.data.toList.drop 1) [32, 9] else s.data.toList := by
      rw [hd]
      unfold Lib.trimLeftS
      rw [List.dropWhile_cons]
      rfl
    rw [ht]
    by_cases hc : [32, 9].contains b = true
    · simp only [hc, if_true]
      exact ih'
    · simp only [hc, if_false, Bool.false_eq_true]
      refine Ev.step (fun k => by rw [mandolineref07_Trim.j1]) ?_
      exact ref_trim_l1 _ s rfl hs
theorem ref_trim_f (s : ByteArray) (hs : s.size ≤ 4611686018427387904) : Ev (fun k => mandolineref07_Trim.f k s) (bs (trimL s.data.toList)) := by
  have := ref_trim_l0 _ s rfl hs
  rw [← trim_comm] at this
  exact this


/-! ### bytes of names -/
def lowU (b : UInt8) : UInt8 := mandolineref07_Low.b b
def lowL (l : List UInt8) : List UInt8 := l.map lowU
def tokB (b : UInt8) : Bool := mandolineref07_Token.ok (b.toNat : Int)
def valB (b : UInt8) : Bool := b.toNat == 9 || (decide (32 ≤ b.toNat) && decide (b.toNat ≤ 126))
theorem small_f (b : UInt8) : field_small.f (b.toNat : Int) = some ((lowU b).toNat : Int) := by
  have hb := b.toNat_lt
  unfold field_small.f lowU mandolineref07_Low.b
  by_cases h : 65 ≤ b.toNat ∧ b.toNat ≤ 90
  · rw [if_pos h, if_pos (by omega), if_pos (by omega), UInt8.toNat_add]
    have : (32 : UInt8).toNat = 32 := rfl
    congr 1
    omega
  · rw [if_neg h]
    by_cases h1 : (b.toNat : Int) ≥ 65
    · rw [if_pos h1, if_neg (by omega)]
    · rw [if_neg h1]
theorem token_all : ∀ n : Fin 256, field_token.f (n.val : Int) = some (mandolineref07_Token.ok (n.val : Int)) := by decide +kernel
theorem token_f (b : UInt8) : field_token.f (b.toNat : Int) = some (tokB b) := token_all ⟨b.toNat, b.toNat_lt⟩
def rightL (n v : List UInt8) : Bool := n.all tokB && decide (1 ≤ n.length) && decide (n.length ≤ 200) && decide (v.length ≤ 8192) && (trimL v == v) && v.all valB

theorem field_Right_l1 (n v : ByteArray) (hv : v.size ≤ 4611686018427387904) : ∀ (d : Nat) (i : Int), 0 ≤ i → i + d = v.size →
    Ev (fun k => field_Right.l1 k v.size i n v) ((v.data.toList.drop i.toNat).all valB) := by
  intro d
  induction d with
  | zero =>
    intro i h0 h1
    refine Ev.step (fun k => by rw [field_Right.l1]) ?_
    rw [drop_end (by rw [← size_list]; omega)]
    simp (disch := omega) only [if_neg]
    exact Ev.const rfl
  | succ d ih =>
    intro i h0 h1
    obtain ⟨b, hd, hb⟩ := bt_drop (s := v) h0 (by omega)
    have ih' := ih (i + 1) (by omega) (by omega)
    refine Ev.step (fun k => by rw [field_Right.l1]) ?_
    rw [hd, List.all_cons]
    simp (disch := omega) only [if_pos, hb, wrap64_eq]
    by_cases h9 : b.toNat = 9
    · simp (disch := omega) only [if_pos]
      have : valB b = true := by simp [valB, h9]
      simpa [this] using ih'
    · by_cases h32 : b.toNat < 32
      · simp (disch := omega) only [if_pos, if_neg]
        have : valB b = false := by simp [valB, h9]; omega
        exact Ev.const (by simp [this])
      · by_cases h126 : b.toNat > 126
        · simp (disch := omega) only [if_pos, if_neg]
          have : valB b = false := by simp [valB, h9]; omega
          exact Ev.const (by simp [this])
        · simp (disch := omega) only [if_neg]
          have : valB b = true := by simp [valB]; omega
          simpa [this] using ih'
theorem field_Right_l0 (n v : ByteArray) (hn : n.size ≤ 4611686018427387904) (hv : v.size ≤ 4611686018427387904) : ∀ (d : Nat) (i : Int), 0 ≤ i → i + d = n.size →
    Ev (fun k => field_Right.l0 k n.size i n v) ((n.data.toList.drop i.toNat).all tokB && v.data.toList.all valB) := by
  intro d
  induction d with
  | zero =>
    intro i h0 h1
    refine Ev.step (fun k => by rw [field_Right.l0]) ?_
    rw [drop_end (by rw [← size_list]; omega)]
    simp (disch := omega) only [if_neg]
    simpa using field_Right_l1 n v hv v.size 0 (by omega) (by omega)
  | succ d ih =>
    intro i h0 h1
    obtain ⟨b, hd, hb⟩ := bt_drop (s := n) h0 (by omega)
    have ih' := ih (i + 1) (by omega) (by omega)
    refine Ev.step (fun k => by rw [field_Right.l0]) ?_
    rw [hd, List.all_cons]
    simp (disch := omega) only [if_pos, hb, wrap64_eq, token_f, Option.bind_some]
    cases ht : tokB b with
    | true => simpa using ih'
    | false => exact Ev.const (by simp)
theorem neL (a b : ByteArray) : (a.toList != b.toList) = !(a.data.toList == b.data.toList) := by rw [toList_data, toList_data]; rfl
theorem field_Right_f (n v : ByteArray) (hn : n.size ≤ 4611686018427387904) (hv : v.size ≤ 4611686018427387904) : Ev (fun k => field_Right.f k n v) (rightL n.data.toList v.data.toList) := by
  have hl := field_Right_l0 n v hn hv n.size 0 (by omega) (by omega)
  rw [Int.toNat_zero, List.drop_zero] at hl
  have z1 := size_list n
  have z2 := size_list v
  unfold field_Right.f rightL
  by_cases h1 : n.toList = []
  · rw [toList_data] at h1
    simp only [toList_data, h1, if_true]
    refine Ev.step (fun k => by rw [field_Right.j0]) ?_
    exact Ev.const (by simp)
  · rw [toList_data] at h1
    simp only [toList_data, h1, if_false]
    have h1' : 1 ≤ n.data.toList.length := by
      rcases Nat.eq_zero_or_pos n.data.toList.length with h | h
      · exact absurd (List.eq_nil_of_length_eq_zero h) h1
      · exact h
    by_cases h2 : (n.size : Int) > 200
    · simp only [h2, if_true]
      refine Ev.step (fun k => by rw [field_Right.j0]) ?_
      have : decide (n.data.toList.length ≤ 200) = false := decide_eq_false (by omega)
      exact Ev.const (by rw [this]; simp)
    · by_cases h3 : (v.size : Int) > 8192
      · simp only [h2, h3, if_true, if_false]
        refine Ev.step (fun k => by rw [field_Right.j0]) ?_
        have : decide (v.data.toList.length ≤ 8192) = false := decide_eq_false (by omega)
        exact Ev.const (by rw [this]; simp)
      · simp only [h2, h3, if_false, strings_Trim_blank v hv, Option.bind_some]
        refine Ev.step (fun k => by rw [field_Right.j0]) ?_
        have d1 : decide (1 ≤ n.data.toList.length) = true := decide_eq_true h1'
        have d2 : decide (n.data.toList.length ≤ 200) = true := decide_eq_true (by omega)
        have d3 : decide (v.data.toList.length ≤ 8192) = true := decide_eq_true (by omega)
        rw [d1, d2, d3, Bool.and_true, Bool.and_true, Bool.and_true]
        by_cases h4 : trimL v.data.toList = v.data.toList
        · have e1 : ((bs (trimL v.data.toList)).data.toList != v.data.toList) = false := by rw [bs_list, h4]; simp
          simp only [toList_data, e1, Bool.false_eq_true, if_false]
          have e2 : (trimL v.data.toList == v.data.toList) = true := by simpa using h4
          rw [e2, Bool.and_true]
          exact hl
        · have e1 : ((bs (trimL v.data.toList)).data.toList != v.data.toList) = true := by rw [bs_list]; simpa using h4
          simp only [toList_data, e1, if_true]
          have e2 : (trimL v.data.toList == v.data.toList) = false := by simpa using h4
          exact Ev.const (by rw [e2]; simp)

/-! ### the document's own -/
theorem ref_Right_l0 (n v : ByteArray) (hv : v.size ≤ 4611686018427387904) : ∀ (d : Nat) (i : Int), 0 ≤ i → i + d = v.size →
    Ev (fun k => mandolineref07_Right.l0 k i n v) ((v.data.toList.drop i.toNat).all valB) := by
  intro d
  induction d with
  | zero =>
    intro i h0 h1
    refine Ev.step (fun k => by rw [mandolineref07_Right.l0]) ?_
    rw [drop_end (by rw [← size_list]; omega)]
    simp (disch := omega) only [if_neg]
    exact Ev.const rfl
  | succ d ih =>
    intro i h0 h1
    obtain ⟨b, hd, hb⟩ := bt_drop (s := v) h0 (by omega)
    have ih' := ih (i + 1) (by omega) (by omega)
    refine Ev.step (fun k => by rw [mandolineref07_Right.l0]) ?_
    rw [hd, List.all_cons]
    simp (disch := omega) only [if_pos, hb, wrap64_eq]
    by_cases h9 : b.toNat = 9
    · have : valB b = true := by simp [valB, h9]
      simp (disch := omega) only [if_pos, if_neg]
      simpa [this] using ih'
    · by_cases h32 : b.toNat < 32
      · simp (disch := omega) only [if_pos, if_neg]
        have : valB b = false := by simp [valB, h9]; omega
        exact Ev.const (by simp [this])
      · by_cases h126 : b.toNat > 126
        · simp (disch := omega) only [if_pos, if_neg]
          have : valB b = false := by simp [valB, h9]; omega
          exact Ev.const (by simp [this])
        · simp (disch := omega) only [if_neg]
          have : valB b = true := by simp [valB]; omega
          simpa [this] using ih'
theorem ref_Token_f (n : ByteArray) (hn : n.size ≤ 140737488351232) : Ev (fun k => mandolineref07_Token.f k n) (n.data.toList.all tokB && decide (1 ≤ n.data.toList.length)) := by
  unfold mandolineref07_Token.f
  rw [if_pos hn]
  refine Ev.const (congrArg some ?_)
  have : decide ((n.size : Int) > 0) = decide (1 ≤ n.data.toList.length) := by rw [← size_list]; exact decide_eq_decide.2 (by omega)
  rw [this]
  rfl
theorem ref_Right_f (n v : ByteArray) (hn : n.size ≤ 140737488351232) (hv : v.size ≤ 4611686018427387904) : Ev (fun k => mandolineref07_Right.f k n v) (rightL n.data.toList v.data.toList) := by
  have hl := ref_Right_l0 n v hv v.size 0 (by omega) (by omega)
  rw [Int.toNat_zero, List.drop_zero] at hl
  have z1 := size_list n
  have z2 := size_list v
  unfold mandolineref07_Right.f rightL
  refine Ev.bind (ref_Token_f n hn) ?_
  cases ht : (n.data.toList.all tokB && decide (1 ≤ n.data.toList.length)) with
  | false =>
    simp only [Bool.false_eq_true, if_false]
    refine Ev.step (fun k => by rw [mandolineref07_Right.j0]) ?_
    exact Ev.const (by simp)
  | true =>
    simp only [if_true]
    rw [Bool.true_and]
    by_cases h2 : (n.size : Int) > 200
    · simp only [h2, if_true]
      refine Ev.step (fun k => by rw [mandolineref07_Right.j0]) ?_
      have : decide (n.data.toList.length ≤ 200) = false := decide_eq_false (by omega)
      exact Ev.const (by rw [this]; simp)
    · by_cases h3 : (v.size : Int) > 8192
      · simp only [h2, h3, if_true, if_false]
        refine Ev.step (fun k => by rw [mandolineref07_Right.j0]) ?_
        have : decide (v.data.toList.length ≤ 8192) = false := decide_eq_false (by omega)
        exact Ev.const (by rw [this]; simp)
      · simp only [h2, h3, if_false]
        refine Ev.bind (ref_trim_f v hv) ?_
        refine Ev.step (fun k => by rw [mandolineref07_Right.j0]) ?_
        have d2 : decide (n.data.toList.length ≤ 200) = true := decide_eq_true (by omega)
        have d3 : decide (v.data.toList.length ≤ 8192) = true := decide_eq_true (by omega)
        rw [d2, d3, Bool.true_and, Bool.true_and]
        by_cases h4 : trimL v.data.toList = v.data.toList
        · have e1 : ((bs (trimL v.data.toList)).data.toList != v.data.toList) = false := by rw [bs_list, h4]; simp
          simp only [toList_data, e1, Bool.false_eq_true, if_false]
          have e2 : (trimL v.data.toList == v.data.toList) = true := by simpa using h4
          rw [e2, Bool.true_and]
          exact hl
        · have e1 : ((bs (trimL v.data.toList)).data.toList != v.data.toList) = true := by rw [bs_list]; simpa using h4
          simp only [toList_data, e1, if_true]
          have e2 : (trimL v.data.toList == v.data.toList) = false := by simpa using h4
          exact Ev.const (by rw [e2]; simp)

/-! ### names -/
theorem ref_Low_f (s : ByteArray) (hs : s.size ≤ 140737488351232) : mandolineref07_Low.f s = some (bs (lowL s.data.toList)) := by
  unfold mandolineref07_Low.f
  rw [if_pos hs]
  rfl
def nameIs (name : ByteArray) (x : S33) : Bool := lowL x.f0.data.toList == lowL name.data.toList
theorem ref_Alike_f (a b : ByteArray) (ha : a.size ≤ 140737488351232) (hb : b.size ≤ 140737488351232) : mandolineref07_Alike.f a b = some (lowL a.data.toList == lowL b.data.toList) := by
  unfold mandolineref07_Alike.f
  rw [ref_Low_f a ha, ref_Low_f b hb]
  simp only [Option.bind_some, toList_data, bs_list]
theorem field_alike_l0 (a b : ByteArray) (hz : a.size = b.size) (ha : a.size ≤ 4611686018427387904) : ∀ (d : Nat) (i : Int), 0 ≤ i → i + d = a.size →
    Ev (fun k => field_alike.l0 k a b a.size i) (lowL (a.data.toList.drop i.toNat) == lowL (b.data.toList.drop i.toNat)) := by
  intro d
  induction d with
  | zero =>
    intro i h0 h1
    refine Ev.step (fun k => by rw [field_alike.l0]) ?_
    rw [drop_end (by rw [← size_list]; omega), drop_end (by rw [← size_list]; omega)]
    simp (disch := omega) only [if_neg]
    exact Ev.const rfl
  | succ d ih =>
    intro i h0 h1
    obtain ⟨x, hd, hx⟩ := bt_drop (s := a) h0 (by omega)
    obtain ⟨y, he, hy⟩ := bt_drop (s := b) h0 (by omega)
    have ih' := ih (i + 1) (by omega) (by omega)
    refine Ev.step (fun k => by rw [field_alike.l0]) ?_
    rw [hd, he]
    simp (disch := omega) only [if_pos, hx, hy, wrap64_eq, small_f, Option.bind_some]
    by_cases h : lowU x = lowU y
    · refine Ev.pos (by rw [h]) ?_
      have e : (lowL (x :: a.data.toList.drop (i + 1).toNat) == lowL (y :: b.data.toList.drop (i + 1).toNat)) = (lowL (a.data.toList.drop (i + 1).toNat) == lowL (b.data.toList.drop (i + 1).toNat)) := by
        simp [lowL, h]
      rw [e]
      exact ih'
    · refine Ev.neg (fun e => h (byte_eq.1 e)) ?_
      have e : (lowL (x :: a.data.toList.drop (i + 1).toNat) == lowL (y :: b.data.toList.drop (i + 1).toNat)) = false := by
        simp [lowL, h]
      rw [e]
      exact Ev.const rfl
theorem field_alike_f (a b : ByteArray) (ha : a.size ≤ 4611686018427387904) : Ev (fun k => field_alike.f k a b) (lowL a.data.toList == lowL b.data.toList) := by
  unfold field_alike.f
  by_cases h : a.size = b.size
  · refine Ev.pos (by omega) ?_
    have := field_alike_l0 a b h ha a.size 0 (by omega) (by omega)
    simpa using this
  · refine Ev.neg (by omega) ?_
    have e : (lowL a.data.toList == lowL b.data.toList) = false := by
      rw [beq_eq_false_iff_ne]
      intro e
      have := congrArg List.length e
      simp [lowL] at this
      exact h this
    rw [e]
    exact Ev.const rfl
end Go.Proofs.YtcdjeofhhhffcaaDoor.Pure
