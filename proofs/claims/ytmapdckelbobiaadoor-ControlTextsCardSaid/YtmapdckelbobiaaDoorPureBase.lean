/- What the functions of layer 9 (control), the program's and the document's, compute of blanks, numbers and ages, in plain words on lists of bytes. No condition but that texts are no longer than memory. -/
import Derived.Test.YtmapdckelbobiaaDoorX0
import Derived.Test.YtmapdckelbobiaaDoorX2
import Derived.Test.YtmapdckelbobiaaDoorX8
import Derived.Test.YtmapdckelbobiaaDoorX9
import Derived.Test.YtmapdckelbobiaaDoorX10
import Derived.Test.YtmapdckelbobiaaDoorX11
import Derived.Test.YtmapdckelbobiaaDoorX16
import Derived.Test.YtmapdckelbobiaaDoorBytes
namespace Go.Proofs.YtmapdckelbobiaaDoor.Pure
open Go Go.RowKit Go.Proofs.YtmapdckelbobiaaDoor Go.Proofs.YtmapdckelbobiaaDoor.X Go.Proofs.YtmapdckelbobiaaDoorW.PrintWords
set_option linter.unusedVariables false
set_option linter.unusedSimpArgs false

def bs (l : List UInt8) : ByteArray := ⟨l.toArray⟩
theorem bs_list (l : List UInt8) : (bs l).data.toList = l := rfl
theorem bs_size (l : List UInt8) : (bs l).size = l.length := by rw [size_list, bs_list]
theorem bs_of (s : ByteArray) : bs s.data.toList = s := mk_data s
/-- Without blanks at both ends. -/
def trimL (l : List UInt8) : List UInt8 := Lib.trimS l [32, 9]
theorem strings_Trim_blank (s : ByteArray) (hs : s.size ≤ 4611686018427387904) : strings_Trim.f s (⟨#[32, 9]⟩ : ByteArray) = some (bs (trimL s.data.toList)) := by
  unfold strings_Trim.f
  rw [if_pos ⟨by omega, by decide, by decide⟩]
  rfl
/-- Is it a blank, by its number? -/
theorem blank_cases (b : UInt8) : ((b.toNat : Int) = 32 ∧ [32, 9].contains b = true) ∨ (¬ (b.toNat : Int) = 32 ∧ (b.toNat : Int) = 9 ∧ [32, 9].contains b = true) ∨ (¬ (b.toNat : Int) = 32 ∧ ¬ (b.toNat : Int) = 9 ∧ [32, 9].contains b = false) := by
  have e32 : (32 : UInt8).toNat = 32 := rfl
  have e9 : (9 : UInt8).toNat = 9 := rfl
  by_cases h : b = 32
  · subst h; exact .inl ⟨rfl, rfl⟩
  · by_cases h9 : b = 9
    · subst h9; exact .inr (.inl ⟨by decide, rfl, rfl⟩)
    · refine .inr (.inr ⟨fun e => h (UInt8.toNat_inj.1 (by omega)), fun e => h9 (UInt8.toNat_inj.1 (by omega)), ?_⟩)
      simp [h, h9]
theorem ref_trim_l1 : ∀ (n : Nat) (s : ByteArray), s.size = n → s.size ≤ 4611686018427387904 → Ev (fun k => mandolineref09_trim.l1 k s) (bs (Lib.trimRightS s.data.toList [32, 9])) := by
  intro n
  induction n with
  | zero =>
    intro s h hs
    have e : s.data.toList = [] := List.eq_nil_of_length_eq_zero (by rw [← size_list]; exact h)
    refine Ev.step (fun k => by rw [mandolineref09_trim.l1]) ?_
    simp (disch := omega) only [if_neg]
    exact Ev.const (congrArg some (ext_list (by rw [e]; rfl)))
  | succ n ih =>
    intro s h hs
    obtain ⟨l, b, hl⟩ : ∃ l b, s.data.toList = l ++ [b] := by
      have h0 : s.data.toList ≠ [] := by intro h0; have := size_list s; rw [h0, List.length_nil] at this; omega
      exact ⟨_, _, (List.dropLast_concat_getLast h0).symm⟩
    have hln : l.length = n := by have := size_list s; rw [hl, List.length_append, List.length_singleton] at this; omega
    have hb : bt s ((s.size : Int) - 1) = (b.toNat : Int) := bt_get (by
      rw [hl, show ((s.size : Int) - 1).toNat = l.length by omega]
      simp)
    have he : (s.extract 0 ((s.size : Int) - 1).toNat).data.toList = l := by
      rw [extract_list, List.drop_zero, hl, show ((s.size : Int) - 1).toNat - 0 = l.length by omega]
      simp
    have hz : (s.extract 0 ((s.size : Int) - 1).toNat).size = n := by rw [size_list (s.extract 0 ((s.size : Int) - 1).toNat), he]; exact hln
    have ih' := ih _ hz (by omega)
    rw [he] at ih'
    refine Ev.step (fun k => by rw [mandolineref09_trim.l1]) ?_
    simp (disch := omega) only [if_pos, wrap64_eq, hb]
    rw [hl, trimR_snoc]
    rcases blank_cases b with ⟨h1, hc⟩ | ⟨h1, h2, hc⟩ | ⟨h1, h2, hc⟩
    · simp only [hc, h1, if_true]
      exact ih'
    · simp only [hc, h2, if_true]
      exact Ev.neg (by decide) ih'
    · simp only [hc, h1, h2, if_false, Bool.false_eq_true]
      exact Ev.const (congrArg some (ext_list (by rw [hl]; rfl)))
theorem ref_trim_l0 : ∀ (n : Nat) (s : ByteArray), s.size = n → s.size ≤ 4611686018427387904 → Ev (fun k => mandolineref09_trim.l0 k s) (bs (Lib.trimRightS (Lib.trimLeftS s.data.toList [32, 9]) [32, 9])) := by
  intro n
  induction n with
  | zero =>
    intro s h hs
    have e : s.data.toList = [] := List.eq_nil_of_length_eq_zero (by rw [← size_list]; exact h)
    refine Ev.step (fun k => by rw [mandolineref09_trim.l0]) ?_
    simp (disch := omega) only [if_neg]
    refine Ev.step (fun k => by rw [mandolineref09_trim.j1]) ?_
    have := ref_trim_l1 0 s h hs
    rw [e] at this ⊢
    exact this
  | succ n ih =>
    intro s h hs
    obtain ⟨b, hd, hb⟩ := bt_drop (s := s) (i := 0) (by omega) (by omega)
    rw [show ((0 : Int) + 1).toNat = 1 from rfl, show ((0 : Int)).toNat = 0 from rfl, List.drop_zero] at hd
    have e : (s.extract 1 s.size).data.toList = s.data.toList.drop 1 := by
      rw [extract_list, List.take_of_length_le]
      rw [List.length_drop, ← size_list]
      omega
    have ih' := ih (s.extract 1 s.size) (by rw [size_list, e, List.length_drop, ← size_list]; omega) (by rw [size_list, e, List.length_drop, ← size_list]; omega)
    rw [e] at ih'
    refine Ev.step (fun k => by rw [mandolineref09_trim.l0]) ?_
    simp (disch := omega) only [if_pos, hb]
    have ht : Lib.trimLeftS s.data.toList [32, 9] = if [32, 9].contains b = true then Lib.trimLeftS (s.data.toList.drop 1) [32, 9] else s.data.toList := by
      rw [hd]
      unfold Lib.trimLeftS
      rw [List.dropWhile_cons]
      rfl
    rw [ht]
    rcases blank_cases b with ⟨h1, hc⟩ | ⟨h1, h2, hc⟩ | ⟨h1, h2, hc⟩
    · simp only [hc, h1, if_true]
      exact ih'
    · simp only [hc, h2, if_true]
      exact Ev.neg (by decide) ih'
    · simp only [hc, h1, h2, if_false, Bool.false_eq_true]
      refine Ev.step (fun k => by rw [mandolineref09_trim.j1]) ?_
      exact ref_trim_l1 _ s rfl hs
theorem ref_trim_f (s : ByteArray) (hs : s.size ≤ 4611686018427387904) : Ev (fun k => mandolineref09_trim.f k s) (bs (trimL s.data.toList)) := by
  have := ref_trim_l0 _ s rfl hs
  rw [← trim_comm] at this
  exact this

/-! ### numbers -/
def capI (n : Int) : Int := if 1099511627776 < n then 1099511627776 else n
/-- The number of digits behind n, if all are digits. -/
def numL : Int → List UInt8 → Option Int
  | n, [] => some n
  | n, b :: l => if b.toNat < 48 ∨ 57 < b.toNat then none else numL (capI (10 * n + (b.toNat : Int) - 48)) l
def numF (l : List UInt8) : Option Int := if l = [] then none else numL 0 l
theorem capI_bound {n : Int} (h : 0 ≤ n) : 0 ≤ capI n ∧ capI n ≤ 1099511627776 := by unfold capI; split <;> omega
theorem numL_bound : ∀ (l : List UInt8) (n m : Int), 0 ≤ n → n ≤ 1099511627776 → numL n l = some m → 0 ≤ m ∧ m ≤ 1099511627776
  | [], n, m, h0, h1, h => by rw [numL] at h; obtain rfl := Option.some.inj h; exact ⟨h0, h1⟩
  | b :: l, n, m, h0, h1, h => by
    rw [numL] at h
    by_cases hb : b.toNat < 48 ∨ 57 < b.toNat
    · rw [if_pos hb] at h; cases h
    · rw [if_neg hb] at h
      have := capI_bound (n := 10 * n + (b.toNat : Int) - 48) (by omega)
      exact numL_bound l _ m this.1 this.2 h
theorem numF_bound {l : List UInt8} {m : Int} (h : numF l = some m) : 0 ≤ m ∧ m ≤ 1099511627776 := by
  unfold numF at h
  split at h
  · cases h
  · exact numL_bound l 0 m (by omega) (by omega) h
theorem number_l0 (s : ByteArray) (hs : s.size ≤ 4611686018427387904) : ∀ (d : Nat) (n i : Int), 0 ≤ n → n ≤ 1099511627776 → 0 ≤ i → i + d = s.size →
    Ev (fun k => control_number.l0 k s n s.size i) ((numL n (s.data.toList.drop i.toNat)).elim (0, false) fun m => (m, s.data.toList != [])) := by
  intro d
  induction d with
  | zero =>
    intro n i hn hm h0 h1
    refine Ev.step (fun k => by rw [control_number.l0]) ?_
    rw [drop_end (by rw [← size_list]; omega)]
    simp (disch := omega) only [if_neg]
    exact Ev.const (by rw [toList_data]; rfl)
  | succ d ih =>
    intro n i hn hm h0 h1
    obtain ⟨b, hd, hb⟩ := bt_drop (s := s) h0 (by omega)
    have hb' := b.toNat_lt
    refine Ev.step (fun k => by rw [control_number.l0]) ?_
    rw [hd, numL]
    simp (disch := omega) only [if_pos, hb]
    by_cases h48 : b.toNat < 48
    · simp (disch := omega) only [if_pos]
      exact Ev.const rfl
    · by_cases h57 : 57 < b.toNat
      · simp (disch := omega) only [if_pos, if_neg]
        exact Ev.const rfl
      · have hc := capI_bound (n := 10 * n + (b.toNat : Int) - 48) (by omega)
        have ih' := ih (capI (10 * n + (b.toNat : Int) - 48)) (i + 1) hc.1 hc.2 (by omega) (by omega)
        have e1 : ((b.toNat : Int) - 48) % 256 = (b.toNat : Int) - 48 := by omega
        have e2 : mn (10 * n + ((b.toNat : Int) - 48)) 1099511627776 = capI (10 * n + (b.toNat : Int) - 48) := by unfold mn capI; split <;> split <;> omega
        rw [if_neg (show ¬ (b.toNat < 48 ∨ 57 < b.toNat) by omega)]
        simp (disch := omega) only [if_neg, e1, wrap64_eq, e2]
        exact ih'
theorem number_f (s : ByteArray) (hs : s.size ≤ 4611686018427387904) : Ev (fun k => control_number.f k s) ((numF s.data.toList).elim (0, false) fun m => (m, true)) := by
  have h := number_l0 s hs s.size 0 0 (by omega) (by omega) (by omega) (by omega)
  rw [Int.toNat_zero, List.drop_zero] at h
  unfold numF
  by_cases he : s.data.toList = []
  · rw [he] at h
    rw [if_pos he]
    exact h
  · rw [if_neg he]
    have e : (s.data.toList != []) = true := by simpa using he
    rw [e] at h
    exact h
theorem ref_number_l0 (s : ByteArray) (hs : s.size ≤ 4611686018427387904) : ∀ (d : Nat) (n i : Int), 0 ≤ n → n ≤ 1099511627776 → 0 ≤ i → i + d = s.size →
    Ev (fun k => mandolineref09_number.l0 k s n i) ((numL n (s.data.toList.drop i.toNat)).getD (-1)) := by
  intro d
  induction d with
  | zero =>
    intro n i hn hm h0 h1
    refine Ev.step (fun k => by rw [mandolineref09_number.l0]) ?_
    rw [drop_end (by rw [← size_list]; omega)]
    simp (disch := omega) only [if_neg]
    exact Ev.const rfl
  | succ d ih =>
    intro n i hn hm h0 h1
    obtain ⟨b, hd, hb⟩ := bt_drop (s := s) h0 (by omega)
    have hb' := b.toNat_lt
    refine Ev.step (fun k => by rw [mandolineref09_number.l0]) ?_
    rw [hd, numL]
    simp (disch := omega) only [if_pos, hb]
    by_cases h48 : b.toNat < 48
    · simp (disch := omega) only [if_pos]
      refine Ev.step (fun k => by rw [mandolineref09_number.j1]) ?_
      simp only [if_true]
      exact Ev.const rfl
    · by_cases h57 : 57 < b.toNat
      · simp (disch := omega) only [if_pos, if_neg]
        refine Ev.step (fun k => by rw [mandolineref09_number.j1]) ?_
        have : decide ((b.toNat : Int) > 57) = true := decide_eq_true (by omega)
        simp only [this, if_true]
        exact Ev.const rfl
      · have hc := capI_bound (n := 10 * n + (b.toNat : Int) - 48) (by omega)
        have ih' := ih (capI (10 * n + (b.toNat : Int) - 48)) (i + 1) hc.1 hc.2 (by omega) (by omega)
        rw [if_neg (show ¬ (b.toNat < 48 ∨ 57 < b.toNat) by omega)]
        simp (disch := omega) only [if_neg]
        refine Ev.step (fun k => by rw [mandolineref09_number.j1]) ?_
        have : decide ((b.toNat : Int) > 57) = false := decide_eq_false (by omega)
        simp only [this, Bool.false_eq_true, if_false]
        simp (disch := omega) only [if_pos, hb, wrap64_eq, mandolineref09_most.f, Option.bind_some]
        by_cases hg : 10 * n + (b.toNat : Int) - 48 > 1099511627776
        · have e : capI (10 * n + (b.toNat : Int) - 48) = 1099511627776 := if_pos hg
          rw [e] at ih' ⊢
          simp only [hg, if_true]
          exact ih'
        · have e : capI (10 * n + (b.toNat : Int) - 48) = 10 * n + (b.toNat : Int) - 48 := if_neg hg
          rw [e] at ih' ⊢
          simp only [hg, if_false]
          exact ih'
theorem ref_number_f (s : ByteArray) (hs : s.size ≤ 4611686018427387904) : Ev (fun k => mandolineref09_number.f k s) ((numF s.data.toList).getD (-1)) := by
  unfold mandolineref09_number.f numF
  by_cases he : s.data.toList = []
  · have hz : (s.size : Int) = 0 := by rw [size_list, he]; rfl
    rw [if_pos he]
    exact Ev.pos hz (Ev.const rfl)
  · have hz : ¬ (s.size : Int) = 0 := fun e => he (List.eq_nil_of_length_eq_zero (by rw [← size_list]; omega))
    rw [if_neg he]
    have h := ref_number_l0 s hs s.size 0 0 (by omega) (by omega) (by omega) (by omega)
    rw [Int.toNat_zero, List.drop_zero] at h
    exact Ev.neg hz h
/-! ### ages -/
theorem trimL_len (l : List UInt8) : (trimL l).length ≤ l.length := by
  unfold trimL Lib.trimS Lib.trimRightS Lib.trimLeftS
  have h := fun (p : UInt8 → Bool) (l : List UInt8) => (List.dropWhile_suffix p (l := l)).length_le
  first
  | (refine Nat.le_trans (h _ _) ?_; rw [List.length_reverse]; refine Nat.le_trans (h _ _) ?_; rw [List.length_reverse]; exact Nat.le_refl _)
  | (rw [List.length_reverse]; refine Nat.le_trans (h _ _) ?_; rw [List.length_reverse]; exact h _ _)
  | (refine Nat.le_trans (h _ _) ?_; rw [List.length_reverse]; refine Nat.le_trans (h _ _) ?_; rw [List.length_reverse])
def ageL (l : List UInt8) : Int × Int := (numF (trimL l)).elim (0, 2) fun m => (m, 0)
theorem Age_f (s : ByteArray) (hs : s.size ≤ 4611686018427387904) : Ev (fun k => control_Age.f k s) (ageL s.data.toList) := by
  unfold control_Age.f ageL
  rw [strings_Trim_blank s hs]
  simp only [Option.bind_some]
  have hz := trimL_len s.data.toList
  rw [← size_list] at hz
  refine Ev.bind (number_f (bs (trimL s.data.toList)) (by rw [bs_size]; omega)) ?_
  rw [bs_list]
  cases numF (trimL s.data.toList) with
  | none => exact Ev.const rfl
  | some m => exact Ev.const rfl
theorem ref_Age_f (s : ByteArray) (hs : s.size ≤ 4611686018427387904) : Ev (fun k => mandolineref09_Age.f k s) (ageL s.data.toList) := by
  unfold mandolineref09_Age.f ageL
  have hz := trimL_len s.data.toList
  rw [← size_list] at hz
  refine Ev.bind (ref_trim_f s hs) ?_
  refine Ev.bind (ref_number_f (bs (trimL s.data.toList)) (by rw [bs_size]; omega)) ?_
  rw [bs_list]
  cases h : numF (trimL s.data.toList) with
  | none => exact Ev.const rfl
  | some m =>
    have := numF_bound h
    simp only [Option.getD_some, Option.elim]
    exact Ev.neg (by omega) (Ev.const rfl)
end Go.Proofs.YtmapdckelbobiaaDoor.Pure
