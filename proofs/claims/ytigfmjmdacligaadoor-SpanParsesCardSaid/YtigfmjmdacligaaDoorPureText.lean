/- The texts of spans: numerals, and what both ways of reading one back answer. -/
import Derived.Test.YtigfmjmdacligaaDoorX0
import Derived.Test.YtigfmjmdacligaaDoorX2
import Derived.Test.YtigfmjmdacligaaDoorX7
import Derived.Test.YtigfmjmdacligaaDoorX8
import Derived.Test.YtigfmjmdacligaaDoorPureBase
import Derived.Lib.ItoaLen
namespace Go.Proofs.YtigfmjmdacligaaDoor.Pure
open Go Go.RowKit Go.Proofs.YtigfmjmdacligaaDoor Go.Proofs.YtigfmjmdacligaaDoor.X Go.Proofs.YtigfmjmdacligaaDoorW.PrintWords Go.Proofs.YtigfmjmdacligaaDoorW.PrintMore
set_option linter.unusedVariables false
set_option linter.unusedSimpArgs false
abbrev bs (l : List UInt8) : ByteArray := ⟨l.toArray⟩
theorem bs_list (l : List UInt8) : (bs l).data.toList = l := by simp
theorem bs_size (l : List UInt8) : (bs l).size = l.length := List.size_toArray
theorem bs_of (s : ByteArray) : bs s.data.toList = s := mk_data s
theorem bs_app (a b : List UInt8) : bs a ++ bs b = bs (a ++ b) := ext_list (by rw [append_list])
theorem bs_inj {a b : List UInt8} (h : bs a = bs b) : a = b := by rw [← bs_list a, h, bs_list]
/-! ### numerals -/
def dgt (n : Nat) : UInt8 := UInt8.ofNat (48 + n % 10)
theorem dgt_nat (n : Nat) : (dgt n).toNat = 48 + n % 10 := by
  unfold dgt
  rw [UInt8.toNat_ofNat']
  omega
theorem dd_small {n : Nat} (h : n < 10) : Lib.decDigits n = [dgt n] := by
  rw [Lib.decDigits, dif_pos h]
  unfold dgt
  rw [Nat.mod_eq_of_lt h]
theorem dd_big {n : Nat} (h : ¬ n < 10) : Lib.decDigits n = Lib.decDigits (n / 10) ++ [dgt n] := by
  rw [Lib.decDigits, dif_neg h]
  rfl
theorem dd_digits (n : Nat) : ∀ b ∈ Lib.decDigits n, 48 ≤ b.toNat ∧ b.toNat ≤ 57 := by
  induction n using Nat.strongRecOn with
  | _ n ih =>
    intro b hb
    by_cases h : n < 10
    · rw [dd_small h] at hb
      obtain rfl := List.mem_singleton.1 hb
      rw [dgt_nat]
      omega
    · rw [dd_big h] at hb
      rcases List.mem_append.1 hb with hb | hb
      · exact ih (n / 10) (by omega) b hb
      · obtain rfl := List.mem_singleton.1 hb
        rw [dgt_nat]
        omega
theorem dd_ne (n : Nat) : Lib.decDigits n ≠ [] := by
  by_cases h : n < 10
  · rw [dd_small h]; simp
  · rw [dd_big h]; simp
theorem dd_len_lt {n : Nat} (c : Nat) (h : n < 10 ^ (c + 1)) : (Lib.decDigits n).length ≤ c + 1 := by
  induction c generalizing n with
  | zero => rw [dd_small (by simpa using h)]; simp
  | succ c ih =>
    by_cases h1 : n < 10
    · rw [dd_small h1]; simp
    · rw [dd_big h1, List.length_append, List.length_singleton]
      have : n / 10 < 10 ^ (c + 1) := by rw [Nat.div_lt_iff_lt_mul (by omega)]; rw [Nat.pow_succ] at h; omega
      have := ih this
      omega
theorem dd_head (n : Nat) (h : 0 < n) : ∃ b r, Lib.decDigits n = b :: r ∧ b ≠ 48 := by
  induction n using Nat.strongRecOn with
  | _ n ih =>
    by_cases h1 : n < 10
    · refine ⟨dgt n, [], dd_small h1, fun e => ?_⟩
      have := congrArg UInt8.toNat e
      rw [dgt_nat] at this
      have h48 : (48 : UInt8).toNat = 48 := rfl
      omega
    · obtain ⟨b, r, e, hb⟩ := ih (n / 10) (by omega) (by omega)
      exact ⟨b, r ++ [dgt n], by rw [dd_big h1, e]; rfl, hb⟩
/-- What is read of a numeral, place by place. -/
theorem parse_dd (M n : Nat) (hM : M ≤ 18446744073709551615) (h : n ≤ M) : ∀ r : List UInt8, Lib.parseUintM M 0 (Lib.decDigits n ++ r) = Lib.parseUintM M n r := by
  induction n using Nat.strongRecOn with
  | _ n ih =>
    intro r
    have step : ∀ (a d : Nat), a = n / 10 → Lib.parseUintM M a (dgt n :: r) = Lib.parseUintM M n r := by
      intro a d ha
      rw [Lib.parseUintM, dgt_nat, if_pos ⟨by omega, by omega⟩, if_neg (by omega), if_neg (by omega)]
      congr 1
      omega
    by_cases h1 : n < 10
    · rw [dd_small h1]
      exact step 0 0 (by omega)
    · rw [dd_big h1, List.append_assoc, ih (n / 10) (by omega) (by omega)]
      exact step _ 0 rfl
theorem num_dd (n : Nat) (h : n ≤ 4611686018427387904) : span_Parse.num (Lib.decDigits n) = some (n : Int) := by
  have hp : Lib.parseUintB 64 (Lib.decDigits n) = .ok n := by
    unfold Lib.parseUintB
    rw [if_neg (dd_ne n)]
    have := parse_dd (2 ^ 64 - 1) n (by decide) (Nat.le_trans h (by decide)) []
    rw [List.append_nil] at this
    rw [this]
    rfl
  unfold span_Parse.num
  match hl : Lib.decDigits n, dd_ne n with
  | c :: r, _ =>
    have hc := dd_digits n c (by rw [hl]; simp)
    rw [Lib.parseIntB]
    have e : (if c.toNat = 43 ∨ c.toNat = 45 then r else c :: r) = c :: r := by rw [if_neg (by omega)]
    simp only [e]
    rw [← hl, hp]
    have h45 : ¬ (c.toNat = 45) := by omega
    have e63 : (2 : Nat) ^ (64 - 1) = 9223372036854775808 := by decide
    have h63 : ¬ ((2 : Nat) ^ (64 - 1) ≤ n) := by omega
    simp [h45, h63]
/-! ### the text of a span -/
def Tx (a b : Int) : List UInt8 := if R a b = true then (if b = 4611686018427387904 ∧ a < b then Lib.decDigits a.toNat ++ [45] else Lib.decDigits a.toNat ++ [45] ++ Lib.decDigits b.toNat) else []
theorem dd_len {n : Int} (h : n ≤ 4611686018427387904) : (Lib.decDigits n.toNat).length ≤ 19 := by
  have e : (4611686018427387904 : Nat) < 10 ^ (18 + 1) := by decide
  exact dd_len_lt 18 (Nat.lt_of_le_of_lt (by omega) e)
theorem Tx_len (a b : Int) : (Tx a b).length ≤ 39 := by
  unfold Tx
  split
  · rename_i h
    have h' := R_iff.1 h
    have h1 := dd_len (n := a) (by omega)
    have h2 := dd_len (n := b) (by omega)
    split
    · simp only [List.length_append, List.length_singleton]
      omega
    · simp only [List.length_append, List.length_singleton]
      omega
  · simp
theorem fmt_eq {n : Int} (h0 : 0 ≤ n) (h : n ≤ 4611686018427387904) : strconv_FormatInt.f n 10 = some (bs (Lib.decDigits n.toNat)) := by
  unfold strconv_FormatInt.f
  rw [if_pos ⟨rfl, by omega, by omega⟩]
  unfold Lib.itoa
  rw [if_neg (by omega)]
theorem span_Text_eq (a b : Int) : span_Text.f a b = some (bs (Tx a b)) := by
  unfold span_Text.f span_open.f Tx
  rw [span_Right_eq, Option.bind_some]
  cases h : R a b with
  | false => simp
  | true =>
    have h' := R_iff.1 h
    have h1 := dd_len (n := a) (by omega)
    have h2 := dd_len (n := b) (by omega)
    rw [fmt_eq h'.1 (by omega), fmt_eq (show 0 ≤ b by omega) (by omega)]
    have e45 : (⟨#[45]⟩ : ByteArray) = bs [45] := rfl
    have z1 : (bs (Lib.decDigits a.toNat)).size = (Lib.decDigits a.toNat).length := bs_size _
    have z2 : (bs (Lib.decDigits b.toNat)).size = (Lib.decDigits b.toNat).length := bs_size _
    have g1 : (bs (Lib.decDigits a.toNat)).size + 1 ≤ 9223372036854775807 := by omega
    have g2 : (bs (Lib.decDigits a.toNat)).size + 1 + (bs (Lib.decDigits b.toNat)).size ≤ 9223372036854775807 := by omega
    by_cases hb : b = 4611686018427387904
    · subst hb
      by_cases hab : a < 4611686018427387904
      · have hd : decide (a < 4611686018427387904) = true := decide_eq_true hab
        simp only [if_true, Option.bind_some, e45, bs_app, hd, g1]
        rw [if_pos ⟨trivial, hab⟩]
      · have hd : decide (a < 4611686018427387904) = false := decide_eq_false hab
        simp only [if_true, Bool.false_eq_true, if_false, Option.bind_some, e45, bs_app, hd, g1, g2]
        rw [if_neg (fun h => hab h.2)]
    · simp only [hb, if_true, if_false, Bool.false_eq_true, Option.bind_some, e45, bs_app, g1, g2, false_and]
end Go.Proofs.YtigfmjmdacligaaDoor.Pure
