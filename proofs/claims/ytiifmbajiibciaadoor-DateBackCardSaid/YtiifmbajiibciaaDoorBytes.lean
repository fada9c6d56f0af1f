/- Plain lemmas on texts as lists of bytes and on the print's words: no program, no condition. -/
import Derived.Test.YtiifmbajiibciaaDoorWWords
import Derived.Lib.SlTrimSet
namespace Go.Proofs.YtiifmbajiibciaaDoor
open Go.RowKit Go.Proofs.YtiifmbajiibciaaDoorW.PrintWords
set_option linter.unusedVariables false

theorem wrap64_eq {x : Int} (h1 : -9223372036854775808 ≤ x) (h2 : x ≤ 9223372036854775807) : wrap64 x = x := by
  unfold wrap64
  omega
theorem Ev.pos {α : Type} {c : Prop} [Decidable c] {a b : Nat → Option α} {r : α} (h : c) (e : Ev a r) : Ev (fun k => if c then a k else b k) r := by simpa [h] using e
theorem Ev.neg {α : Type} {c : Prop} [Decidable c] {a b : Nat → Option α} {r : α} (h : ¬ c) (e : Ev b r) : Ev (fun k => if c then a k else b k) r := by simpa [h] using e
theorem Ev.const {α : Type} {a : Option α} {r : α} (h : a = some r) : Ev (fun _ => a) r := ⟨0, fun _ _ => h⟩
theorem Ev.ends {α : Type} {g : Nat → Option α} {r : α} (h : Ev g r) : ∃ k, g k = some r := by
  obtain ⟨K, hK⟩ := h
  exact ⟨K, hK K (Nat.le_refl K)⟩
theorem Ev.uniq {α : Type} {g : Nat → Option α} {r q : α} (h : Ev g r) (h' : Ev g q) : r = q := by
  obtain ⟨K, hK⟩ := h
  obtain ⟨K', hK'⟩ := h'
  have h1 := hK (K + K') (by omega)
  rw [hK' (K + K') (by omega)] at h1
  exact (Option.some.inj h1).symm
/-- One callee has answered: what is left. -/
theorem Ev.then {α β : Type} {g : Nat → Option α} {f : Nat → α → Option β} {a : α} {r : β} (h : Ev g a) (k : Ev (fun n => f n a) r) : Ev (fun n => (g n).bind (f n)) r := Ev.bind h k

theorem size_list (s : ByteArray) : s.size = s.data.toList.length := by rw [Array.length_toList]; rfl
theorem ext_list {a b : ByteArray} (h : a.data.toList = b.data.toList) : a = b := by
  obtain ⟨⟨a⟩⟩ := a
  obtain ⟨⟨b⟩⟩ := b
  simpa using h
theorem mk_data (s : ByteArray) : (⟨s.data.toList.toArray⟩ : ByteArray) = s := ext_list (by simp)
theorem append_list (a b : ByteArray) : (a ++ b).data.toList = a.data.toList ++ b.data.toList := by
  rw [ByteArray.data_append, Array.toList_append]
theorem extract_list (s : ByteArray) (a b : Nat) : (s.extract a b).data.toList = (s.data.toList.drop a).take (b - a) := by
  rw [ByteArray.data_extract, Array.toList_extract]
theorem toList_loop (s : ByteArray) : ∀ (n i : Nat) (r : List UInt8), s.size - i = n → ByteArray.toList.loop s i r = r.reverse ++ s.data.toList.drop i
  | 0, i, r, h => by
    rw [ByteArray.toList.loop, if_neg (by omega), List.drop_of_length_le (by rw [← size_list]; omega), List.append_nil]
  | n + 1, i, r, h => by
    have hi : i < s.data.toList.length := by rw [← size_list]; omega
    rw [ByteArray.toList.loop, if_pos (by omega), toList_loop s n (i + 1) _ (by omega), List.drop_eq_getElem_cons hi, List.reverse_cons, List.append_assoc]
    congr 2
    have hs : i < s.data.size := by simpa using hi
    have e : s.get! i = s.data.toList[i] := by
      show s.data[i]! = s.data.toList[i]
      rw [getElem!_pos s.data i hs]
      rfl
    rw [e]
    rfl
theorem toList_data (s : ByteArray) : s.toList = s.data.toList := by
  rw [ByteArray.toList, toList_loop s s.size 0 [] (by omega)]
  simp
theorem bt_drop {s : ByteArray} {i : Int} (h0 : 0 ≤ i) (h1 : i < (s.size : Int)) : ∃ b : UInt8, s.data.toList.drop i.toNat = b :: s.data.toList.drop (i + 1).toNat ∧ bt s i = (b.toNat : Int) := by
  have hi : i.toNat < s.size := by omega
  have hl : i.toNat < s.data.toList.length := by rw [← size_list]; exact hi
  refine ⟨s.data.toList[i.toNat], ?_, ?_⟩
  · rw [show (i + 1).toNat = i.toNat + 1 by omega]
    exact List.drop_eq_getElem_cons hl
  · rw [bt, dif_pos hi]
    rfl
theorem bt_get {s : ByteArray} {i : Int} {b : UInt8} (h : s.data.toList[i.toNat]? = some b) : bt s i = (b.toNat : Int) := by
  obtain ⟨hl, rfl⟩ := List.getElem?_eq_some_iff.1 h
  have hi : i.toNat < s.size := by rw [size_list]; exact hl
  rw [bt, dif_pos hi]
  rfl
theorem byte_eq {b c : UInt8} : ((b.toNat : Int) = (c.toNat : Int)) ↔ b = c := by
  constructor
  · intro h
    exact UInt8.toNat_inj.1 (by omega)
  · rintro rfl
    rfl
theorem byte_lt (b : UInt8) : (b.toNat : Int) < 256 := by have := b.toNat_lt; omega
theorem getD_drop {α : Type} {l : List α} {z : α} {i : Int} (h0 : 0 ≤ i) (h1 : i < (l.length : Int)) : l.drop i.toNat = l.getD i.toNat z :: l.drop (i + 1).toNat := by
  have hi : i.toNat < l.length := by omega
  rw [show (i + 1).toNat = i.toNat + 1 by omega, List.drop_eq_getElem_cons hi]
  congr 1
  rw [List.getD_eq_getElem?_getD, List.getElem?_eq_getElem hi]
  rfl
theorem getD_mem {α : Type} {l : List α} {z : α} {i : Int} (h0 : 0 ≤ i) (h1 : i < (l.length : Int)) : l.getD i.toNat z ∈ l := by
  have hi : i.toNat < l.length := by omega
  rw [List.getD_eq_getElem?_getD, List.getElem?_eq_getElem hi]
  exact List.getElem_mem hi
theorem drop_end {α : Type} {l : List α} {i : Int} (h : (l.length : Int) ≤ i) : l.drop i.toNat = [] := List.drop_of_length_le (by omega)
/-- Both ends: whichever is cut first. -/
theorem dropWhile_append_last {p : UInt8 → Bool} {b : UInt8} (hb : p b = false) : ∀ l : List UInt8, (l ++ [b]).dropWhile p = l.dropWhile p ++ [b]
  | [] => by simp [List.dropWhile, hb]
  | a :: l => by
    by_cases ha : p a = true
    · simp [List.dropWhile, ha, dropWhile_append_last hb l]
    · have ha : p a = false := by simpa using ha
      simp [List.dropWhile, ha]
theorem trimR_snoc (cs l : List UInt8) (b : UInt8) : Lib.trimRightS (l ++ [b]) cs = if cs.contains b = true then Lib.trimRightS l cs else l ++ [b] := by
  unfold Lib.trimRightS
  rw [List.reverse_append, List.reverse_singleton, List.singleton_append, List.dropWhile_cons]
  split
  · rfl
  · simp
theorem trim_comm (cs : List UInt8) (l : List UInt8) : Lib.trimLeftS (Lib.trimRightS l cs) cs = Lib.trimRightS (Lib.trimLeftS l cs) cs := by
  have key : ∀ n (l : List UInt8), l.length = n → Lib.trimLeftS (Lib.trimRightS l cs) cs = Lib.trimRightS (Lib.trimLeftS l cs) cs := by
    intro n
    induction n with
    | zero =>
      intro l h
      obtain rfl := List.eq_nil_of_length_eq_zero h
      rfl
    | succ n ih =>
      intro l h
      obtain ⟨l', b, rfl⟩ : ∃ l' b, l = l' ++ [b] := by
        have h0 : l ≠ [] := by intro h0; rw [h0] at h; simp at h
        exact ⟨l.dropLast, l.getLast h0, (List.dropLast_concat_getLast h0).symm⟩
      have hl : l'.length = n := by simpa using h
      rw [trimR_snoc]
      by_cases hb : cs.contains b = true
      · rw [if_pos hb, ih l' hl]
        by_cases hall : Lib.trimLeftS l' cs = []
        · have h2 : Lib.trimLeftS (l' ++ [b]) cs = [] := by
            unfold Lib.trimLeftS at hall ⊢
            rw [List.dropWhile_append, hall]
            simp only [List.isEmpty_nil, if_true, List.dropWhile_cons, hb, List.dropWhile_nil]
          rw [hall, h2]
        · have h2 : Lib.trimLeftS (l' ++ [b]) cs = Lib.trimLeftS l' cs ++ [b] := by
            unfold Lib.trimLeftS at hall ⊢
            rw [List.dropWhile_append]
            rw [if_neg (by simpa using hall)]
          rw [h2, trimR_snoc, if_pos hb]
      · rw [if_neg hb]
        have hb' : cs.contains b = false := by simpa using hb
        have h2 : Lib.trimLeftS (l' ++ [b]) cs = Lib.trimLeftS l' cs ++ [b] := dropWhile_append_last hb' l'
        rw [h2, trimR_snoc, if_neg hb]
  exact key _ l rfl
theorem dropWhile_head {p : UInt8 → Bool} : ∀ {l : List UInt8} {b : UInt8}, (l.dropWhile p).head? = some b → p b = false
  | [], b, h => by simp at h
  | a :: l, b, h => by
    rw [List.dropWhile_cons] at h
    split at h
    · exact dropWhile_head h
    · rename_i ha
      obtain rfl : a = b := by simpa using h
      simpa using ha
theorem trim_head {l cs : List UInt8} {b : UInt8} (h : (Lib.trimS l cs).head? = some b) : cs.contains b = false := dropWhile_head h
theorem trim_last {l cs : List UInt8} {b : UInt8} (h : (Lib.trimS l cs).getLast? = some b) : cs.contains b = false := by
  have e : Lib.trimS l cs = Lib.trimRightS (Lib.trimLeftS l cs) cs := trim_comm cs l
  rw [e] at h
  unfold Lib.trimRightS at h
  rw [List.getLast?_reverse] at h
  exact dropWhile_head h
/-- What has no blanks at its ends is left as it is. -/
theorem trim_fixed {l cs : List UInt8} (h1 : ∀ b, l.head? = some b → cs.contains b = false) (h2 : ∀ b, l.getLast? = some b → cs.contains b = false) : Lib.trimS l cs = l := by
  have e1 : Lib.trimRightS l cs = l := by
    unfold Lib.trimRightS
    have : l.reverse.dropWhile (cs.contains ·) = l.reverse := by
      match hr : l.reverse with
      | [] => rfl
      | b :: r =>
        rw [List.dropWhile_cons, if_neg]
        rw [h2 b (by rw [← List.head?_reverse, hr]; rfl)]
        simp
    rw [this, List.reverse_reverse]
  unfold Lib.trimS
  rw [e1]
  unfold Lib.trimLeftS
  match l, h1 with
  | [], _ => rfl
  | b :: r, h1 =>
    rw [List.dropWhile_cons, if_neg]
    rw [h1 b rfl]
    simp
theorem trim_idem (l cs : List UInt8) : Lib.trimS (Lib.trimS l cs) cs = Lib.trimS l cs := trim_fixed (fun _ h => trim_head h) (fun _ h => trim_last h)
/-- Blanks at the ends make no difference. -/
theorem trim_snoc {l cs : List UInt8} {b : UInt8} (h : cs.contains b = true) : Lib.trimS (l ++ [b]) cs = Lib.trimS l cs := by
  unfold Lib.trimS
  rw [trimR_snoc, if_pos h]
theorem trim_cons {l cs : List UInt8} {b : UInt8} (h : cs.contains b = true) : Lib.trimS (b :: l) cs = Lib.trimS l cs := by
  have e : ∀ l, Lib.trimS l cs = Lib.trimRightS (Lib.trimLeftS l cs) cs := fun l => trim_comm cs l
  rw [e, e]
  unfold Lib.trimLeftS
  rw [List.dropWhile_cons, if_pos h]
end Go.Proofs.YtiifmbajiibciaaDoor
