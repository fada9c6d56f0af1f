/- What the functions of layer 5 (tag), the program's and the document's, compute, in plain words on lists of bytes. No condition but that texts are no longer than memory. -/
import Derived.Test.YtbgbbpmbmccgiaaDoorX0
import Derived.Test.YtbgbbpmbmccgiaaDoorX2
import Derived.Test.YtbgbbpmbmccgiaaDoorX3
import Derived.Test.YtbgbbpmbmccgiaaDoorX9
import Derived.Test.YtbgbbpmbmccgiaaDoorX10
import Derived.Test.YtbgbbpmbmccgiaaDoorX11
import Derived.Test.YtbgbbpmbmccgiaaDoorX12
import Derived.Test.YtbgbbpmbmccgiaaDoorX13
import Derived.Test.YtbgbbpmbmccgiaaDoorX15
import Derived.Test.YtbgbbpmbmccgiaaDoorBytes
namespace Go.Proofs.YtbgbbpmbmccgiaaDoor.Pure
open Go Go.RowKit Go.Proofs.YtbgbbpmbmccgiaaDoor Go.Proofs.YtbgbbpmbmccgiaaDoor.X Go.Proofs.YtbgbbpmbmccgiaaDoorW.PrintWords
set_option linter.unusedVariables false
set_option linter.unusedSimpArgs false

/-- May a byte stand in a tag? -/
def okc (b : UInt8) : Bool := b.toNat == 33 || (decide (35 ≤ b.toNat) && decide (b.toNat ≤ 126))
def rightL (l : List UInt8) : Bool := l.all okc && decide (1 ≤ l.length) && decide (l.length ≤ 100)

theorem tag_Right_l0 (s : ByteArray) (wk : Bool) (hs : s.size ≤ 4611686018427387904) : ∀ (d : Nat) (i : Int), 0 ≤ i → i + d = s.size →
    Ev (fun k => tag_Right.l0 k s.size i s wk) ((s.data.toList.drop i.toNat).all okc && decide (1 ≤ s.size) && decide (s.size ≤ 100)) := by
  intro d
  induction d with
  | zero =>
    intro i h0 h1
    refine Ev.step (fun k => by rw [tag_Right.l0]) ?_
    have hd : s.data.toList.drop i.toNat = [] := List.drop_of_length_le (by rw [← size_list]; omega)
    rw [hd]
    by_cases hp : 1 ≤ s.size
    · simp (disch := omega) only [if_neg, if_pos]
      exact Ev.const (by simp [hp]; omega)
    · simp (disch := omega) only [if_neg, if_pos]
      exact Ev.const (by simp [hp])
  | succ d ih =>
    intro i h0 h1
    obtain ⟨b, hd, hb⟩ := bt_drop (s := s) h0 (by omega)
    have ih' := ih (i + 1) (by omega) (by omega)
    refine Ev.step (fun k => by rw [tag_Right.l0]) ?_
    rw [hd, List.all_cons]
    simp (disch := omega) only [if_neg, if_pos, hb, wrap64_eq]
    by_cases h33 : b.toNat = 33
    · simp (disch := omega) only [if_pos]
      simpa [okc, h33] using ih'
    · by_cases h35 : b.toNat < 35
      · simp (disch := omega) only [if_pos, if_neg]
        exact Ev.const (by simp [okc, h33]; omega)
      · by_cases h126 : b.toNat ≤ 126
        · simp (disch := omega) only [if_pos, if_neg]
          have : okc b = true := by simp [okc]; omega
          simpa [this] using ih'
        · simp (disch := omega) only [if_pos, if_neg]
          exact Ev.const (by simp [okc, h33]; omega)
theorem tag_Right_f (s : ByteArray) (wk : Bool) (hs : s.size ≤ 4611686018427387904) : Ev (fun k => tag_Right.f k s wk) (rightL s.data.toList) := by
  have := tag_Right_l0 s wk hs s.size 0 (by omega) (by omega)
  unfold rightL
  rw [← size_list]
  exact this

/-! ### the document's own -/
theorem ref_Right_l0 (s : ByteArray) (wk : Bool) (hs : s.size ≤ 4611686018427387904) : ∀ (d : Nat) (i : Int), 0 ≤ i → i + d = s.size →
    Ev (fun k => mandolineref05_Right.l0 k i s wk) ((s.data.toList.drop i.toNat).all okc) := by
  intro d
  induction d with
  | zero =>
    intro i h0 h1
    refine Ev.step (fun k => by rw [mandolineref05_Right.l0]) ?_
    have hd : s.data.toList.drop i.toNat = [] := List.drop_of_length_le (by rw [← size_list]; omega)
    rw [hd]
    simp (disch := omega) only [if_neg, if_pos]
    exact Ev.const rfl
  | succ d ih =>
    intro i h0 h1
    obtain ⟨b, hd, hb⟩ := bt_drop (s := s) h0 (by omega)
    have ih' := ih (i + 1) (by omega) (by omega)
    refine Ev.step (fun k => by rw [mandolineref05_Right.l0]) ?_
    rw [hd, List.all_cons]
    simp (disch := omega) only [if_neg, if_pos, hb, wrap64_eq]
    by_cases h : b.toNat < 33 ∨ b.toNat = 34 ∨ 126 < b.toNat
    · have hc : okc b = false := by simp [okc]; omega
      rw [hc, Bool.false_and]
      rcases h with h | h | h
      · simp (disch := omega) only [if_neg, if_pos]
        exact Ev.const rfl
      · simp (disch := omega) only [if_neg, if_pos]
        exact Ev.const rfl
      · simp (disch := omega) only [if_neg, if_pos]
        exact Ev.const rfl
    · have hc : okc b = true := by simp [okc]; omega
      rw [hc, Bool.true_and]
      simp (disch := omega) only [if_neg, if_pos]
      exact ih'
theorem ref_Right_f (s : ByteArray) (wk : Bool) (hs : s.size ≤ 4611686018427387904) : Ev (fun k => mandolineref05_Right.f k s wk) (rightL s.data.toList) := by
  have := ref_Right_l0 s wk hs s.size 0 (by omega) (by omega)
  unfold rightL mandolineref05_Right.f
  rw [← size_list]
  by_cases h1 : s.size < 1
  · simp (disch := omega) only [if_pos]
    refine Ev.step (fun k => by rw [mandolineref05_Right.j0]) ?_
    simp only [if_true]
    exact Ev.const (by simp; omega)
  · simp (disch := omega) only [if_neg]
    refine Ev.step (fun k => by rw [mandolineref05_Right.j0]) ?_
    by_cases h2 : 100 < s.size
    · have : decide ((s.size : Int) > 100) = true := decide_eq_true (by omega)
      simp only [this, if_true]
      exact Ev.const (by simp; omega)
    · have h3 : decide ((s.size : Int) > 100) = false := decide_eq_false (by omega)
      simp only [h3, if_false, Bool.false_eq_true]
      have h4 : decide (1 ≤ s.size) = true := decide_eq_true (by omega)
      have h5 : decide (s.size ≤ 100) = true := decide_eq_true (by omega)
      rw [h4, h5, Bool.and_true, Bool.and_true]
      exact this

/-- A tag's spelling. -/
def textL (l : List UInt8) (wk : Bool) : List UInt8 := if rightL l = true then (if wk = true then [87, 47, 34] ++ l ++ [34] else [34] ++ l ++ [34]) else []
def bs (l : List UInt8) : ByteArray := ⟨l.toArray⟩
theorem bs_list (l : List UInt8) : (bs l).data.toList = l := rfl
theorem bs_size (l : List UInt8) : (bs l).size = l.length := by rw [size_list, bs_list]
theorem bs_of (s : ByteArray) : bs s.data.toList = s := mk_data s
theorem tag_Text_f (s : ByteArray) (wk : Bool) (hs : s.size ≤ 4611686018427387904) : Ev (fun k => tag_Text.f k s wk) (bs (textL s.data.toList wk)) := by
  unfold tag_Text.f
  refine Ev.bind (tag_Right_f s wk hs) ?_
  unfold textL
  cases hr : rightL s.data.toList with
  | false => exact Ev.const rfl
  | true =>
    cases wk with
    | true =>
      simp (disch := omega) only [if_pos, if_true]
      exact Ev.const (congrArg some (ext_list (by simp [bs_list, append_list])))
    | false =>
      simp (disch := omega) only [if_pos, if_true, if_false, Bool.false_eq_true]
      exact Ev.const (congrArg some (ext_list (by simp [bs_list, append_list])))
theorem ref_Text_f (s : ByteArray) (wk : Bool) (hs : s.size ≤ 4611686018427387904) : Ev (fun k => mandolineref05_Text.f k s wk) (bs (textL s.data.toList wk)) := by
  unfold mandolineref05_Text.f
  refine Ev.bind (ref_Right_f s wk hs) ?_
  unfold textL
  cases hr : rightL s.data.toList with
  | false => exact Ev.const rfl
  | true =>
    cases wk with
    | true =>
      simp (disch := omega) only [if_pos, if_true]
      exact Ev.const (congrArg some (ext_list (by simp [bs_list, append_list])))
    | false =>
      simp (disch := omega) only [if_pos, if_true, if_false, Bool.false_eq_true]
      exact Ev.const (congrArg some (ext_list (by simp [bs_list, append_list])))

/-- Without blanks at both ends. -/
def trimL (l : List UInt8) : List UInt8 := Lib.trimS l [32, 9]
theorem strings_Trim_blank (s : ByteArray) (hs : s.size ≤ 4611686018427387904) : strings_Trim.f s (⟨#[32, 9]⟩ : ByteArray) = some (bs (trimL s.data.toList)) := by
  unfold strings_Trim.f
  rw [if_pos ⟨by omega, by decide, by decide⟩]
  rfl
theorem ref_blank (b : UInt8) : mandolineref05_blank.f (b.toNat : Int) = some ([32, 9].contains b) := by
  have := b.toNat_lt
  unfold mandolineref05_blank.f
  by_cases h : b = 32
  · subst h
    rfl
  · have h1 : ¬ ((b.toNat : Int) = 32) := fun e => h (UInt8.toNat_inj.1 (by show b.toNat = 32; omega))
    rw [if_neg h1]
    congr 1
    have e1 : [32, 9].contains b = (b == 9) := by
      have h32 : (b == 32) = false := by simpa using h
      simp only [List.contains, List.elem, h32]
      cases (b == 9) <;> rfl
    rw [e1]
    by_cases h9 : b = 9
    · subst h9
      rfl
    · have h2 : ¬ ((b.toNat : Int) = 9) := fun e => h9 (UInt8.toNat_inj.1 (by show b.toNat = 9; omega))
      rw [beq_eq_false_iff_ne.2 h9, beq_eq_false_iff_ne.2 h2]
theorem ref_trim_l1 : ∀ (n : Nat) (s : ByteArray), s.size = n → s.size ≤ 4611686018427387904 → Ev (fun k => mandolineref05_trim.l1 k s) (bs (Lib.trimRightS s.data.toList [32, 9])) := by
  intro n
  induction n with
  | zero =>
    intro s h hs
    have e : s.data.toList = [] := List.eq_nil_of_length_eq_zero (by rw [← size_list]; exact h)
    refine Ev.step (fun k => by rw [mandolineref05_trim.l1]) ?_
    simp (disch := omega) only [if_neg]
    exact Ev.const (congrArg some (ext_list (by rw [e]; rfl)))
  | succ n ih =>
    intro s h hs
    obtain ⟨l, b, hl⟩ : ∃ l b, s.data.toList = l ++ [b] := by
      have h0 : s.data.toList ≠ [] := by intro h0; have := size_list s; rw [h0, List.length_nil] at this; omega
      exact ⟨_, _, (List.dropLast_concat_getLast h0).symm⟩
    have hln : l.length = n := by have := size_list s; rw [hl, List.length_append, List.length_singleton] at this; omega
    have hb : bt s ((s.size : Int) - 1) = (b.toNat : Int) := bt_get (by
      rw [hl, show ((s.size : Int) - 1).toNat = l.length by omega]
      simp)
    have he : (s.extract 0 ((s.size : Int) - 1).toNat).data.toList = l := by
      rw [extract_list, List.drop_zero, hl, show ((s.size : Int) - 1).toNat - 0 = l.length by omega]
      simp
    have hz : (s.extract 0 ((s.size : Int) - 1).toNat).size = n := by rw [size_list (s.extract 0 ((s.size : Int) - 1).toNat), he]; exact hln
    have ih' := ih _ hz (by omega)
    refine Ev.step (fun k => by rw [mandolineref05_trim.l1]) ?_
    simp (disch := omega) only [if_pos, wrap64_eq, hb, ref_blank, Option.bind_some]
    rw [hl, trimR_snoc]
    by_cases hc : [32, 9].contains b = true
    · simp only [hc, if_true]
      rw [he] at ih'
      exact ih'
    · simp only [hc, if_false, Bool.false_eq_true]
      exact Ev.const (congrArg some (ext_list (by rw [hl]; rfl)))
theorem ref_trim_l0 : ∀ (n : Nat) (s : ByteArray), s.size = n → s.size ≤ 4611686018427387904 → Ev (fun k => mandolineref05_trim.l0 k s) (bs (Lib.trimRightS (Lib.trimLeftS s.data.toList [32, 9]) [32, 9])) := by
  intro n
  induction n with
  | zero =>
    intro s h hs
    have e : s.data.toList = [] := List.eq_nil_of_length_eq_zero (by rw [← size_list]; exact h)
    refine Ev.step (fun k => by rw [mandolineref05_trim.l0]) ?_
    simp (disch := omega) only [if_neg]
    refine Ev.step (fun k => by rw [mandolineref05_trim.j1]) ?_
    have := ref_trim_l1 0 s h hs
    rw [e] at this ⊢
    exact this
  | succ n ih =>
    intro s h hs
    obtain ⟨b, hd, hb⟩ := bt_drop (s := s) (i := 0) (by omega) (by omega)
    rw [show ((0 : Int) + 1).toNat = 1 from rfl, show ((0 : Int)).toNat = 0 from rfl, List.drop_zero] at hd
    have e : (s.extract 1 s.size).data.toList = s.data.toList.drop 1 := by
      rw [extract_list, List.take_of_length_le]
      rw [List.length_drop, ← size_list]
      omega
    have ih' := ih (s.extract 1 s.size) (by rw [size_list, e, List.length_drop, ← size_list]; omega) (by rw [size_list, e, List.length_drop, ← size_list]; omega)
    rw [e] at ih'
    refine Ev.step (fun k => by rw [mandolineref05_trim.l0]) ?_
    simp (disch := omega) only [if_pos, hb, ref_blank, Option.bind_some]
    have ht : Lib.trimLeftS s.data.toList [32, 9] = if [32, 9].contains b = true then Lib.trimLeftS (s.data.toList.drop 1) [32, 9] else s.data.toList := by
      rw [hd]
      unfold Lib.trimLeftS
      rw [List.dropWhile_cons]
      rfl
    rw [ht]
    by_cases hc : [32, 9].contains b = true
    · simp only [hc, if_true]
      exact ih'
    · simp only [hc, if_false, Bool.false_eq_true]
      refine Ev.step (fun k => by rw [mandolineref05_trim.j1]) ?_
      exact ref_trim_l1 _ s rfl hs
theorem ref_trim_f (s : ByteArray) (hs : s.size ≤ 4611686018427387904) : Ev (fun k => mandolineref05_trim.f k s) (bs (trimL s.data.toList)) := by
  have := ref_trim_l0 _ s rfl hs
  rw [← trim_comm] at this
  exact this

/-! ### a tag out of a text -/
def unq (r : List UInt8) : Option (List UInt8) := if r.head? = some 34 ∧ r.getLast? = some 34 ∧ 2 ≤ r.length ∧ rightL (r.drop 1).dropLast = true then some (r.drop 1).dropLast else none
theorem unq_some {r m : List UInt8} : unq r = some m ↔ r = 34 :: m ++ [34] ∧ rightL m = true := by
  unfold unq
  constructor
  · intro h
    split at h
    · rename_i hc
      obtain ⟨h1, h2, h3, h4⟩ := hc
      obtain rfl := Option.some.inj h
      refine ⟨?_, h4⟩
      match r, h1 with
      | a :: r, h1 =>
        obtain rfl : a = 34 := by simpa using h1
        have hne : r ≠ [] := by
          rintro rfl
          simp at h3
        have hl : r.getLast hne = 34 := by
          rw [List.getLast?_cons, List.getLast?_eq_some_getLast hne] at h2
          simpa using h2
        rw [List.drop_one, List.tail_cons, List.cons_append]
        congr 1
        have := List.dropLast_concat_getLast hne
        rw [hl] at this
        exact this.symm
    · exact absurd h (by simp)
  · rintro ⟨rfl, hr⟩
    have e : ((34 :: m ++ [34]).drop 1).dropLast = m := by simp
    rw [e]
    rw [if_pos]
    refine ⟨by simp, List.getLast?_concat .., by simp, hr⟩
def parseL (l : List UInt8) : Option (List UInt8 × Bool) := (unq (Lib.trimPrefix (trimL l) [87, 47])).map fun m => (m, Lib.hasPrefix (trimL l) [87, 47])
def outP : Option (List UInt8 × Bool) → ByteArray × Bool × Int
  | some (l, w) => (bs l, w, 0)
  | none => (⟨#[]⟩, false, 2)
theorem rightL_mem {m : List UInt8} (h : rightL m = true) : ∀ b ∈ m, okc b = true := by
  unfold rightL at h
  simp only [Bool.and_eq_true, List.all_eq_true] at h
  exact h.1.1
theorem rightL_len {m : List UInt8} (h : rightL m = true) : 1 ≤ m.length ∧ m.length ≤ 100 := by
  unfold rightL at h
  simp only [Bool.and_eq_true, decide_eq_true_eq] at h
  exact ⟨h.1.2, h.2⟩
theorem okc_quote {b : UInt8} (h : okc b = true) : [34].contains b = false := by
  rw [Lib.contains_one]
  rw [beq_eq_false_iff_ne]
  rintro rfl
  exact absurd h (by decide)
theorem trim_quoted {m : List UInt8} (h : rightL m = true) : Lib.trimS (34 :: m ++ [34]) [34] = m := by
  have hm := rightL_mem h
  have hl := (rightL_len h).1
  unfold Lib.trimS
  rw [trimR_snoc, if_pos (by decide)]
  have h0 : m ≠ [] := by
    rintro rfl
    simp at hl
  have e1 : Lib.trimRightS (34 :: m) [34] = 34 :: m := by
    have := List.dropLast_concat_getLast h0
    rw [← this, ← List.cons_append, trimR_snoc, if_neg]
    rw [okc_quote (hm _ (List.getLast_mem h0))]
    simp
  rw [e1]
  unfold Lib.trimLeftS
  rw [List.dropWhile_cons, if_pos (by decide)]
  match m, h0 with
  | c :: m, _ =>
    rw [List.dropWhile_cons, if_neg]
    rw [okc_quote (hm c (by simp))]
    simp
/-- The program's way to a tag, and the document's. -/
theorem parse_way (s : List UInt8) : (if rightL (Lib.trimS (Lib.trimPrefix s [87, 47]) [34]) = true ∧ textL (Lib.trimS (Lib.trimPrefix s [87, 47]) [34]) (Lib.hasPrefix s [87, 47]) = s then some (Lib.trimS (Lib.trimPrefix s [87, 47]) [34]) else none) = unq (Lib.trimPrefix s [87, 47]) := by
  have key : ∀ m, rightL m = true → (textL m (Lib.hasPrefix s [87, 47]) = s ↔ Lib.trimPrefix s [87, 47] = 34 :: m ++ [34]) := by
    intro m hm
    unfold textL Lib.trimPrefix
    rw [if_pos hm]
    cases hp : Lib.hasPrefix s [87, 47] with
    | true =>
      simp only [if_true]
      unfold Lib.hasPrefix at hp
      obtain ⟨r, rfl⟩ := List.isPrefixOf_iff_prefix.1 hp
      simp
      exact eq_comm
    | false =>
      simp
      exact eq_comm
  cases hu : unq (Lib.trimPrefix s [87, 47]) with
  | some m =>
    obtain ⟨h1, h2⟩ := unq_some.1 hu
    have e : Lib.trimS (Lib.trimPrefix s [87, 47]) [34] = m := by rw [h1]; exact trim_quoted h2
    rw [e, if_pos ⟨h2, (key m h2).2 h1⟩]
  | none =>
    rw [if_neg]
    rintro ⟨h1, h2⟩
    have := unq_some.2 ⟨(key _ h1).1 h2, h1⟩
    rw [hu] at this
    cases this
theorem trimS_len (l cs : List UInt8) : (Lib.trimS l cs).length ≤ l.length := by
  unfold Lib.trimS Lib.trimLeftS Lib.trimRightS
  refine Nat.le_trans (List.dropWhile_sublist _).length_le ?_
  rw [List.length_reverse]
  exact Nat.le_trans (List.dropWhile_sublist _).length_le (by simp)
theorem tag_Parse_f (s : ByteArray) (hs : s.size ≤ 2305843009213693952) : Ev (fun k => tag_Parse.f k s) (outP (parseL s.data.toList)) := by
  unfold tag_Parse.f
  have hz : (trimL s.data.toList).length ≤ 2305843009213693952 := Nat.le_trans (trimS_len _ _) (by rw [← size_list]; exact hs)
  simp only [strings_Trim_blank s (by omega), Option.bind_some, strings_CutPrefix.f, bs_list]
  have hp := Lib.trimPrefix_le (trimL s.data.toList) [87, 47]
  have e2 : strings_Trim.f (⟨(Lib.trimPrefix (trimL s.data.toList) [87, 47]).toArray⟩ : ByteArray) (⟨#[34]⟩ : ByteArray) = some (bs (Lib.trimS (Lib.trimPrefix (trimL s.data.toList) [87, 47]) [34])) := by
    unfold strings_Trim.f
    rw [if_pos ⟨by show (bs _).size ≤ _; rw [bs_size]; omega, by decide, by decide⟩]
    rfl
  simp only [e2, Option.bind_some]
  have hq := trimS_len (Lib.trimPrefix (trimL s.data.toList) [87, 47]) [34]
  refine Ev.bind (tag_Right_f _ _ (by rw [bs_size]; omega)) ?_
  have hw := parse_way (trimL s.data.toList)
  unfold parseL
  rw [← hw]
  rw [bs_list]
  cases hr : rightL (Lib.trimS (Lib.trimPrefix (trimL s.data.toList) [87, 47]) [34]) with
  | false => exact Ev.const rfl
  | true =>
    simp only [if_true, true_and]
    refine Ev.bind (tag_Text_f _ _ (by rw [bs_size]; omega)) ?_
    simp only [toList_data, bs_list]
    by_cases hc : textL (Lib.trimS (Lib.trimPrefix (trimL s.data.toList) [87, 47]) [34]) (Lib.hasPrefix (trimL s.data.toList) [87, 47]) = trimL s.data.toList
    · rw [if_pos hc]
      exact Ev.const (by rw [if_pos hc]; rfl)
    · rw [if_neg hc]
      exact Ev.const (by rw [if_neg hc]; rfl)

theorem ref_Parse_j2 (r z : ByteArray) (bad wk : Bool) (hs : r.size ≤ 2305843009213693952) (h : bad = false → r.data.toList.head? = some 34 ∧ r.data.toList.getLast? = some 34 ∧ 2 ≤ r.data.toList.length) (h' : bad = true → unq r.data.toList = none) :
    Ev (fun k => mandolineref05_Parse.j2 k r bad z wk) (outP ((unq r.data.toList).map fun m => (m, wk))) := by
  refine Ev.step (fun k => by rw [mandolineref05_Parse.j2]) ?_
  cases bad with
  | true =>
    rw [h' rfl]
    exact Ev.const rfl
  | false =>
    obtain ⟨h1, h2, h3⟩ := h rfl
    have h3' := h3
    rw [← size_list] at h3'
    have e : (r.extract 1 ((r.size : Int) - 1).toNat).data.toList = (r.data.toList.drop 1).dropLast := by
      rw [extract_list, List.dropLast_eq_take, List.length_drop, ← size_list]
      congr 1
      omega
    have hz : (r.extract 1 ((r.size : Int) - 1).toNat).size ≤ r.size := by
      rw [size_list (r.extract _ _), e, List.length_dropLast, List.length_drop, ← size_list]
      omega
    simp (disch := omega) only [if_pos, if_neg, wrap64_eq, Bool.false_eq_true, if_false]
    refine Ev.bind (ref_Right_f _ _ (by omega)) ?_
    rw [e]
    cases hr : rightL (r.data.toList.drop 1).dropLast with
    | true =>
      have e2 : unq r.data.toList = some (r.data.toList.drop 1).dropLast := by
        unfold unq
        rw [if_pos ⟨h1, h2, h3, hr⟩]
      rw [e2]
      exact Ev.const (by show some (_, wk, _) = some (bs _, wk, 0); rw [← e, bs_of])
    | false =>
      have e2 : unq r.data.toList = none := by
        unfold unq
        rw [if_neg (by rw [hr]; simp)]
      rw [e2]
      exact Ev.const rfl
theorem ref_Parse_j1 (r z : ByteArray) (wk : Bool) (hs : r.size ≤ 2305843009213693952) : Ev (fun k => mandolineref05_Parse.j1 k r z wk) (outP ((unq r.data.toList).map fun m => (m, wk))) := by
  refine Ev.step (fun k => by rw [mandolineref05_Parse.j1]) ?_
  by_cases h2 : r.size < 2
  · simp (disch := omega) only [if_pos]
    exact ref_Parse_j2 r z true wk hs (by simp) (fun _ => by
      unfold unq
      rw [if_neg]
      rintro ⟨_, _, h, _⟩
      rw [← size_list] at h
      omega)
  · obtain ⟨b, hd, hb⟩ := bt_drop (s := r) (i := 0) (by omega) (by omega)
    rw [show ((0 : Int)).toNat = 0 from rfl, List.drop_zero] at hd
    have hne : r.data.toList ≠ [] := by rw [hd]; simp
    have hl : bt r ((r.size : Int) - 1) = ((r.data.toList.getLast hne).toNat : Int) := bt_get (by
      rw [List.getLast_eq_getElem, ← List.getElem?_eq_getElem]
      congr 1
      rw [← size_list]
      omega)
    simp (disch := omega) only [if_pos, if_neg, wrap64_eq, hb, hl]
    by_cases hq : b = 34
    · subst hq
      rw [show ((34 : UInt8).toNat : Int) = 34 from rfl]
      simp only [if_true]
      refine ref_Parse_j2 r z _ wk hs (fun hbad => ?_) (fun hbad => ?_)
      · have hlast : r.data.toList.getLast hne = 34 := by
          have : ((r.data.toList.getLast hne).toNat : Int) = 34 := by simpa using hbad
          exact UInt8.toNat_inj.1 (by show _ = 34; omega)
        refine ⟨by rw [hd]; rfl, ?_, by rw [← size_list]; omega⟩
        rw [List.getLast?_eq_some_getLast hne, hlast]
      · unfold unq
        rw [if_neg]
        rintro ⟨_, h, _⟩
        rw [List.getLast?_eq_some_getLast hne] at h
        have := Option.some.inj h
        rw [this] at hbad
        exact absurd hbad (by decide)
    · have hq' : ¬ ((b.toNat : Int) = 34) := fun e => hq (UInt8.toNat_inj.1 (by show b.toNat = 34; omega))
      simp only [hq', if_false]
      refine ref_Parse_j2 r z true wk hs (by simp) (fun _ => ?_)
      unfold unq
      rw [if_neg]
      rintro ⟨h, _⟩
      rw [hd] at h
      exact hq (by simpa using h)
theorem ref_Parse_f (s : ByteArray) (hs : s.size ≤ 2305843009213693952) : Ev (fun k => mandolineref05_Parse.f k s) (outP (parseL s.data.toList)) := by
  unfold mandolineref05_Parse.f
  have hz : (trimL s.data.toList).length ≤ 2305843009213693952 := Nat.le_trans (trimS_len _ _) (by rw [← size_list]; exact hs)
  refine Ev.bind (ref_trim_f s (by omega)) ?_
  unfold parseL
  generalize trimL s.data.toList = t at *
  have hp : (Lib.hasPrefix t [87, 47] = true) ↔ (2 ≤ t.length ∧ t.take 2 = [87, 47]) := by
    rw [← Lib.hasPrefix_of_take]
    simp
  have fin : ∀ wk, wk = Lib.hasPrefix t [87, 47] → Ev (fun k => mandolineref05_Parse.j0 k (bs t) wk (⟨#[]⟩ : ByteArray) false) (outP ((unq (Lib.trimPrefix t [87, 47])).map fun m => (m, Lib.hasPrefix t [87, 47]))) := by
    intro wk hwk
    refine Ev.step (fun k => by rw [mandolineref05_Parse.j0]) ?_
    unfold Lib.trimPrefix
    rw [← hwk]
    cases wk with
    | true =>
      have h2 := (hp.1 hwk.symm).1
      have e : ((bs t).extract 2 (bs t).size).data.toList = t.drop 2 := by
        rw [extract_list, bs_list, bs_size, List.take_of_length_le]
        rw [List.length_drop]
        omega
      have hz2 : ((bs t).extract 2 (bs t).size).size ≤ 2305843009213693952 := by
        rw [size_list ((bs t).extract _ _), e, List.length_drop]
        omega
      have := ref_Parse_j1 ((bs t).extract 2 (bs t).size) (⟨#[]⟩ : ByteArray) true hz2
      rw [e] at this
      rw [bs_size] at this ⊢
      simp (disch := omega) only [if_pos, if_true]
      exact this
    | false =>
      exact ref_Parse_j1 (bs t) (⟨#[]⟩ : ByteArray) false (by rw [bs_size]; exact hz)
  rw [bs_size]
  by_cases h2 : 2 ≤ t.length
  · simp (disch := omega) only [if_pos]
    refine fin _ ?_
    rw [toList_data, extract_list, bs_list, List.drop_zero]
    cases hq : Lib.hasPrefix t [87, 47] with
    | true =>
      have := (hp.1 hq).2
      simpa using this
    | false =>
      rw [beq_eq_false_iff_ne]
      intro e
      have := hp.2 ⟨h2, e⟩
      rw [hq] at this
      cases this
  · simp (disch := omega) only [if_neg]
    refine fin false ?_
    cases hq : Lib.hasPrefix t [87, 47] with
    | true => exact absurd (hp.1 hq).1 h2
    | false => rfl

/-! ### the law's own first line -/
theorem awake_ok : Ev (fun k => mandolinelaw05_awake.f k) true := Ev.of mandolinelaw05_awake.mono (k := 60) (by decide +kernel)
end Go.Proofs.YtbgbbpmbmccgiaaDoor.Pure
