/- The text of a rule, in plain words. Numbers are 64 bits wide. -/
import Derived.Test.YtmapdckelbobiaaDoorX0
import Derived.Test.YtmapdckelbobiaaDoorX4
import Derived.Test.YtmapdckelbobiaaDoorX5
import Derived.Test.YtmapdckelbobiaaDoorX10
import Derived.Test.YtmapdckelbobiaaDoorX14
import Derived.Test.YtmapdckelbobiaaDoorX15
import Derived.Test.YtmapdckelbobiaaDoorPureBase
import Derived.Lib.ItoaLen
namespace Go.Proofs.YtmapdckelbobiaaDoor.Pure
open Go Go.RowKit Go.Proofs.YtmapdckelbobiaaDoor Go.Proofs.YtmapdckelbobiaaDoor.X Go.Proofs.YtmapdckelbobiaaDoorW.PrintWords Go.Proofs.YtmapdckelbobiaaDoorW.PrintMore
set_option linter.unusedVariables false
set_option linter.unusedSimpArgs false
theorem bs_app (a b : List UInt8) : bs a ++ bs b = bs (a ++ b) := ext_list (by rw [append_list]; rfl)
/-! ### numerals -/
def dgt (n : Nat) : UInt8 := UInt8.ofNat (48 + n % 10)
theorem dgt_nat (n : Nat) : (dgt n).toNat = 48 + n % 10 := by
  unfold dgt
  rw [UInt8.toNat_ofNat']
  omega
theorem dd_small {n : Nat} (h : n < 10) : Lib.decDigits n = [dgt n] := by
  rw [Lib.decDigits, dif_pos h]
  unfold dgt
  rw [Nat.mod_eq_of_lt h]
theorem dd_big {n : Nat} (h : ¬ n < 10) : Lib.decDigits n = Lib.decDigits (n / 10) ++ [dgt n] := by
  rw [Lib.decDigits, dif_neg h]
  rfl
theorem dd_digits (n : Nat) : ∀ b ∈ Lib.decDigits n, 48 ≤ b.toNat ∧ b.toNat ≤ 57 := by
  induction n using Nat.strongRecOn with
  | _ n ih =>
    intro b hb
    by_cases h : n < 10
    · rw [dd_small h] at hb
      obtain rfl := List.mem_singleton.1 hb
      rw [dgt_nat]
      omega
    · rw [dd_big h] at hb
      rcases List.mem_append.1 hb with hb | hb
      · exact ih (n / 10) (by omega) b hb
      · obtain rfl := List.mem_singleton.1 hb
        rw [dgt_nat]
        omega
theorem dd_ne (n : Nat) : Lib.decDigits n ≠ [] := by
  by_cases h : n < 10
  · rw [dd_small h]; simp
  · rw [dd_big h]; simp
theorem dd_len_lt {n : Nat} (c : Nat) (h : n < 10 ^ (c + 1)) : (Lib.decDigits n).length ≤ c + 1 := by
  induction c generalizing n with
  | zero => rw [dd_small (by simpa using h)]; simp
  | succ c ih =>
    by_cases h1 : n < 10
    · rw [dd_small h1]; simp
    · rw [dd_big h1, List.length_append, List.length_singleton]
      have : n / 10 < 10 ^ (c + 1) := by rw [Nat.div_lt_iff_lt_mul (by omega)]; rw [Nat.pow_succ] at h; omega
      have := ih this
      omega
theorem ref_Num (n : Nat) (h : n ≤ 9223372036854775807) : Ev (fun k => mandolineref09_Num.f k (n : Int)) (bs (Lib.decDigits n)) := by
  induction n using Nat.strongRecOn with
  | _ n ih =>
    refine Ev.step (fun k => by rw [mandolineref09_Num.f]) ?_
    by_cases h1 : n < 10
    · have h1' : (n : Int) < 10 := by omega
      simp only [h1', if_true]
      refine Ev.const (congrArg some ?_)
      rw [dd_small h1, wrap64_eq (by omega) (by omega)]
      unfold strOfNums dgt
      have e : (48 + (n : Int)) % 256 = ((48 + n % 10 : Nat) : Int) := by omega
      rw [e]
      rfl
    · have h1' : ¬ ((n : Int) < 10) := by omega
      have e1 : wrap64 (Int.tdiv (n : Int) 10) = ((n / 10 : Nat) : Int) := by
        rw [Int.tdiv_eq_ediv_of_nonneg (by omega), wrap64_eq (by omega) (by omega)]
        omega
      have e2 : Int.tmod (n : Int) 10 = ((n % 10 : Nat) : Int) := by
        rw [Int.tmod_eq_emod_of_nonneg (by omega)]
        omega
      simp only [h1', if_false, e1, e2]
      refine Ev.bind (ih (n / 10) (by omega) (by omega)) ?_
      refine Ev.bind (ih (n % 10) (by omega) (by omega)) ?_
      have hp : n < 10 ^ (18 + 1) := Nat.lt_of_le_of_lt h (by decide)
      have l1 := dd_len_lt 18 (n := n / 10) (by omega)
      have l2 := dd_len_lt 18 (n := n % 10) (by omega)
      have hz : (bs (Lib.decDigits (n / 10))).size + (bs (Lib.decDigits (n % 10))).size ≤ 9223372036854775807 := by rw [bs_size, bs_size]; omega
      simp only [hz, if_true]
      refine Ev.const (congrArg some ?_)
      rw [bs_app, dd_big h1, dd_small (n := n % 10) (by omega)]
      congr 2
      unfold dgt
      rw [Nat.mod_mod]

theorem cap_f (n : Int) : mandolineref09_cap.f n = some (capI n) := by
  unfold mandolineref09_cap.f mandolineref09_most.f capI
  simp only [Option.bind_some]
  by_cases h : n > 1099511627776
  · rw [if_pos h, if_pos h]
  · rw [if_neg h, if_neg h]
theorem cap_num {n : Int} (h : 0 ≤ n) : Ev (fun k => mandolineref09_Num.f k (capI n)) (bs (Lib.decDigits (capI n).toNat)) := by
  have hb := capI_bound h
  have := ref_Num (capI n).toNat (by omega)
  rw [show (((capI n).toNat : Nat) : Int) = capI n by omega] at this
  exact this
theorem cap_len {n : Int} (h : 0 ≤ n) : (Lib.decDigits (capI n).toNat).length ≤ 19 := by
  have hb := capI_bound h
  have e : (1099511627776 : Nat) < 10 ^ (18 + 1) := by decide
  exact dd_len_lt 18 (Nat.lt_of_le_of_lt (by omega) e)
theorem fmt_eq {n : Int} (h : 0 ≤ n) : strconv_FormatInt.f (mn n 1099511627776) 10 = some (bs (Lib.decDigits (capI n).toNat)) := by
  have hb := capI_bound h
  have e : mn n 1099511627776 = capI n := rfl
  unfold strconv_FormatInt.f
  rw [e, if_pos ⟨rfl, by omega, by omega⟩]
  unfold Lib.itoa
  rw [if_neg (by omega)]
  rfl
/-! ### the words -/
def numS (name : List UInt8) (n : Int) : List ByteArray := if 0 ≤ n then [bs (name ++ [61] ++ Lib.decDigits (capI n).toNat)] else []
def flagS (b : Bool) (name : List UInt8) : List ByteArray := if b = true then [bs name] else []
def sep : List UInt8 := [44, 32]
def J (l : List ByteArray) : ByteArray := bs (Lib.join (l.map (·.data.toList)) sep)
/-- A few words, none long. -/
def Few (l : List ByteArray) (n : Nat) : Prop := l.length ≤ n ∧ ∀ x ∈ l, x.size ≤ 200
theorem Few.nil (n : Nat) : Few [] n := ⟨by simp, by simp⟩
theorem Few.app {l r : List ByteArray} {n m : Nat} (h : Few l n) (k : Few r m) : Few (l ++ r) (n + m) := by
  refine ⟨by rw [List.length_append]; have := h.1; have := k.1; omega, fun x hx => ?_⟩
  rcases List.mem_append.1 hx with hx | hx
  · exact h.2 x hx
  · exact k.2 x hx
theorem Few.num (name : List UInt8) (n : Int) (h : name.length ≤ 100) : Few (numS name n) 1 := by
  unfold numS
  by_cases hn : 0 ≤ n
  · rw [if_pos hn]
    refine ⟨by simp, fun x hx => ?_⟩
    obtain rfl := List.mem_singleton.1 hx
    have := cap_len hn
    rw [bs_size, List.length_append, List.length_append, List.length_singleton]
    omega
  · rw [if_neg hn]; exact Few.nil 1
theorem Few.flag (b : Bool) (name : List UInt8) (h : name.length ≤ 100) : Few (flagS b name) 1 := by
  unfold flagS
  cases b with
  | true =>
    refine ⟨by simp, fun x hx => ?_⟩
    obtain rfl := List.mem_singleton.1 hx
    rw [bs_size]
    omega
  | false => exact Few.nil 1
theorem tail_len : ∀ (l : List ByteArray), (∀ x ∈ l, x.size ≤ 200) → (Lib.joinTail sep (l.map (·.data.toList))).length ≤ l.length * 202
  | [], _ => by simp [Lib.joinTail]
  | x :: r, h => by
    have ih := tail_len r (fun y hy => h y (by simp [hy]))
    have hx := h x (by simp)
    rw [size_list] at hx
    have e : Lib.joinTail sep ((x :: r).map (·.data.toList)) = sep ++ x.data.toList ++ Lib.joinTail sep (r.map (·.data.toList)) := by simp [Lib.joinTail]
    rw [e, List.length_append, List.length_append, List.length_cons]
    have : sep.length = 2 := rfl
    omega
theorem join_len (l : List ByteArray) (h : ∀ x ∈ l, x.size ≤ 200) : (Lib.join (l.map (·.data.toList)) sep).length ≤ l.length * 202 := by
  cases l with
  | nil => simp [Lib.join_nil]
  | cons x r =>
    have ih := tail_len r (fun y hy => h y (by simp [hy]))
    have hx := h x (by simp)
    rw [size_list] at hx
    rw [List.map_cons, Lib.join_cons, List.length_append, List.length_cons]
    omega
theorem sum_few : ∀ (l : List ByteArray), (∀ x ∈ l, x.size ≤ 200) → strings_Join.sum l ≤ l.length * 200
  | [], _ => by simp [strings_Join.sum]
  | x :: r, h => by
    have ih := sum_few r (fun y hy => h y (by simp [hy]))
    have hx := h x (by simp)
    have e : strings_Join.sum (x :: r) = x.size + strings_Join.sum r := by simp [strings_Join.sum]
    rw [e, List.length_cons]
    omega
theorem strings_Join_f {l : List ByteArray} {n : Nat} (h : Few l n) (hn : n ≤ 1000) : strings_Join.f l (⟨#[44, 32]⟩ : ByteArray) = some (J l) := by
  have h1 := sum_few l h.2
  have h2 := h.1
  unfold strings_Join.f
  rw [if_pos ⟨by omega, by decide, by omega⟩]
  rfl
/-! ### the document's -/
theorem ref_l0_tail (l : List ByteArray) (n : Nat) (h : Few l n) (hn : n ≤ 1000) : ∀ (d : Nat) (o : List UInt8) (i : Int), o.length + d * 202 ≤ 1000000 → 1 ≤ i → i + d = l.length →
    Ev (fun k => mandolineref09_Text.l0 k l (bs o) i) (bs (o ++ Lib.joinTail sep ((l.drop i.toNat).map (·.data.toList)))) := by
  intro d
  induction d with
  | zero =>
    intro o i hz h0 h1
    refine Ev.step (fun k => by rw [mandolineref09_Text.l0]) ?_
    rw [drop_end (by omega)]
    simp (disch := omega) only [if_neg]
    exact Ev.const (congrArg some (by simp [Lib.joinTail]))
  | succ d ih =>
    intro o i hz h0 h1
    have hl := h.1
    have hx := h.2 _ (getD_mem (l := l) (z := ByteArray.empty) (i := i) (by omega) (by omega))
    refine Ev.step (fun k => by rw [mandolineref09_Text.l0]) ?_
    rw [getD_drop (l := l) (z := ByteArray.empty) (i := i) (by omega) (by omega)]
    have hos : (bs o).size = o.length := bs_size o
    have hx' := hx
    rw [size_list] at hx'
    have e : (bs o ++ (⟨#[44, 32]⟩ : ByteArray)) ++ l.getD i.toNat ByteArray.empty = bs (o ++ sep ++ (l.getD i.toNat ByteArray.empty).data.toList) := ext_list (by rw [append_list, append_list]; rfl)
    have ih' := ih (o ++ sep ++ (l.getD i.toNat ByteArray.empty).data.toList) (i + 1) (by rw [List.length_append, List.length_append]; have : sep.length = 2 := rfl; omega) (by omega) (by omega)
    rw [← e] at ih'
    unfold rdOf
    simp (disch := omega) only [if_pos, wrap64_eq]
    have e2 : o ++ Lib.joinTail sep ((l.getD i.toNat ByteArray.empty :: l.drop (i + 1).toNat).map (·.data.toList)) = o ++ sep ++ (l.getD i.toNat ByteArray.empty).data.toList ++ Lib.joinTail sep ((l.drop (i + 1).toNat).map (·.data.toList)) := by simp [Lib.joinTail]
    rw [e2]
    exact ih'
theorem ref_l0 (l : List ByteArray) (n : Nat) (h : Few l n) (hn : n ≤ 1000) : Ev (fun k => mandolineref09_Text.l0 k l (⟨#[]⟩ : ByteArray) 0) (J l) := by
  have hl := h.1
  unfold J
  refine Ev.step (fun k => by rw [mandolineref09_Text.l0]) ?_
  match l, h, hl with
  | [], h, hl => exact Ev.neg (by decide) (Ev.const rfl)
  | x :: r, h, hl =>
    have hx := h.2 x (by simp)
    have t := ref_l0_tail (x :: r) n h hn r.length x.data.toList 1 (by rw [size_list] at hx; rw [List.length_cons] at hl; omega) (by omega) (by rw [List.length_cons]; omega)
    rw [bs_of] at t
    have e0 : rdOf ByteArray.empty (x :: r) 0 = x := rfl
    have e1 : (⟨#[]⟩ : ByteArray) ++ x = x := ext_list (by rw [append_list]; rfl)
    have e2 : wrap64 (0 + 1) = 1 := wrap64_eq (by omega) (by omega)
    have hc : (0 : Int) < ((x :: r).length : Int) := by rw [List.length_cons]; omega
    refine Ev.pos hc ?_
    refine Ev.neg (by decide) ?_
    refine Ev.pos (by decide) ?_
    rw [e0, e1, e2]
    refine Ev.pos (by have : (⟨#[]⟩ : ByteArray).size = 0 := rfl; omega) ?_
    rw [List.map_cons, Lib.join_cons]
    exact t
theorem ref_j6 (l : List ByteArray) (n : Nat) (h : Few l n) (hn : n ≤ 1000) : Ev (fun k => mandolineref09_Text.j6 k l) (J l) :=
  Ev.step (fun k => by rw [mandolineref09_Text.j6]) (ref_l0 l n h hn)
def nMax : List UInt8 := [109, 97, 120, 45, 97, 103, 101]
def nShared : List UInt8 := [115, 45, 109, 97, 120, 97, 103, 101]
def nWhile : List UInt8 := [115, 116, 97, 108, 101, 45, 119, 104, 105, 108, 101, 45, 114, 101, 118, 97, 108, 105, 100, 97, 116, 101]
def nError : List UInt8 := [115, 116, 97, 108, 101, 45, 105, 102, 45, 101, 114, 114, 111, 114]
def nStore : List UInt8 := [110, 111, 45, 115, 116, 111, 114, 101]
def nCache : List UInt8 := [110, 111, 45, 99, 97, 99, 104, 101]
def nPriv : List UInt8 := [112, 114, 105, 118, 97, 116, 101]
/-- One number more: what the four steps do alike. -/
theorem num_step (acc : List ByteArray) (n : Nat) (h : Few acc n) (hn : n ≤ 900) (name : List UInt8) (c : ByteArray) (hc : c = bs (name ++ [61])) (z : Nat) (hz : z ≤ 100) (x : Int) (g : Nat → List ByteArray → Option ByteArray) (r : ByteArray)
    (k : Ev (fun k => g k (acc ++ numS name x)) r) :
    Ev (fun k => if x ≥ 0 then ((mandolineref09_cap.f x).bind fun t => ((mandolineref09_Num.f k t).bind fun t2 => (if z + t2.size ≤ 9223372036854775807 then (if acc.length < 8796093022208 then g k (acc ++ [c ++ t2]) else none) else none))) else g k acc) r := by
  unfold numS at k
  by_cases hx : x ≥ 0
  · refine Ev.pos hx ?_
    have hx' : 0 ≤ x := hx
    rw [cap_f]
    simp only [Option.bind_some]
    refine Ev.bind (cap_num hx') ?_
    have h1 := cap_len hx'
    have h2 := h.1
    rw [if_pos hx'] at k
    refine Ev.pos (by rw [bs_size]; omega) ?_
    refine Ev.pos (by omega) ?_
    have e : c ++ bs (Lib.decDigits (capI x).toNat) = bs (name ++ [61] ++ Lib.decDigits (capI x).toNat) := by rw [hc, bs_app]
    rw [e]
    exact k
  · refine Ev.neg hx ?_
    rw [if_neg (show ¬ 0 ≤ x from hx), List.append_nil] at k
    exact k
def words (r0 r1 r2 r3 : Int) (b0 b1 b2 : Bool) : List ByteArray := flagS b0 nStore ++ flagS b1 nCache ++ flagS b2 nPriv ++ numS nMax r0 ++ numS nShared r1 ++ numS nWhile r2 ++ numS nError r3
theorem ref_Text_f (r0 r1 r2 r3 : Int) (b0 b1 b2 : Bool) : Ev (fun k => mandolineref09_Text.f k r0 r1 r2 r3 b0 b1 b2) (J (words r0 r1 r2 r3 b0 b1 b2)) := by
  have f0 := Few.flag b0 nStore (by decide)
  have f1 := f0.app (Few.flag b1 nCache (by decide))
  have f2 := f1.app (Few.flag b2 nPriv (by decide))
  have f3 := f2.app (Few.num nMax r0 (by decide))
  have f4 := f3.app (Few.num nShared r1 (by decide))
  have f5 := f4.app (Few.num nWhile r2 (by decide))
  have f6 := f5.app (Few.num nError r3 (by decide))
  have j6 := ref_j6 _ _ f6 (by decide)
  have j5 : Ev (fun k => mandolineref09_Text.j5 k (flagS b0 nStore ++ flagS b1 nCache ++ flagS b2 nPriv ++ numS nMax r0 ++ numS nShared r1 ++ numS nWhile r2) r0 r1 r2 r3 b0 b1 b2) (J (words r0 r1 r2 r3 b0 b1 b2)) := by
    refine Ev.step (fun k => by rw [mandolineref09_Text.j5]) ?_
    exact (num_step _ _ f5 (by decide) nError _ rfl 15 (by decide) r3 (fun k l => mandolineref09_Text.j6 k l) _ j6)
  have j4 : Ev (fun k => mandolineref09_Text.j4 k (flagS b0 nStore ++ flagS b1 nCache ++ flagS b2 nPriv ++ numS nMax r0 ++ numS nShared r1) r0 r1 r2 r3 b0 b1 b2) (J (words r0 r1 r2 r3 b0 b1 b2)) := by
    refine Ev.step (fun k => by rw [mandolineref09_Text.j4]) ?_
    exact (num_step _ _ f4 (by decide) nWhile _ rfl 23 (by decide) r2 (fun k l => mandolineref09_Text.j5 k l r0 r1 r2 r3 b0 b1 b2) _ j5)
  have j3 : Ev (fun k => mandolineref09_Text.j3 k (flagS b0 nStore ++ flagS b1 nCache ++ flagS b2 nPriv ++ numS nMax r0) r0 r1 r2 r3 b0 b1 b2) (J (words r0 r1 r2 r3 b0 b1 b2)) := by
    refine Ev.step (fun k => by rw [mandolineref09_Text.j3]) ?_
    exact (num_step _ _ f3 (by decide) nShared _ rfl 9 (by decide) r1 (fun k l => mandolineref09_Text.j4 k l r0 r1 r2 r3 b0 b1 b2) _ j4)
  have j2 : Ev (fun k => mandolineref09_Text.j2 k (flagS b0 nStore ++ flagS b1 nCache ++ flagS b2 nPriv) r0 r1 r2 r3 b0 b1 b2) (J (words r0 r1 r2 r3 b0 b1 b2)) := by
    refine Ev.step (fun k => by rw [mandolineref09_Text.j2]) ?_
    exact (num_step _ _ f2 (by decide) nMax _ rfl 8 (by decide) r0 (fun k l => mandolineref09_Text.j3 k l r0 r1 r2 r3 b0 b1 b2) _ j3)
  have j1 : Ev (fun k => mandolineref09_Text.j1 k (flagS b0 nStore ++ flagS b1 nCache) r0 r1 r2 r3 b0 b1 b2) (J (words r0 r1 r2 r3 b0 b1 b2)) := by
    refine Ev.step (fun k => by rw [mandolineref09_Text.j1]) ?_
    have hl := f1.1
    cases b2 with
    | true => exact Ev.pos rfl (Ev.pos (by omega) j2)
    | false =>
      rw [show flagS false nPriv = [] from rfl, List.append_nil] at j2
      exact Ev.neg (by decide) j2
  have j0 : Ev (fun k => mandolineref09_Text.j0 k (flagS b0 nStore) r0 r1 r2 r3 b0 b1 b2) (J (words r0 r1 r2 r3 b0 b1 b2)) := by
    refine Ev.step (fun k => by rw [mandolineref09_Text.j0]) ?_
    have hl := f0.1
    cases b1 with
    | true => exact Ev.pos rfl (Ev.pos (by omega) j1)
    | false =>
      rw [show flagS false nCache = [] from rfl, List.append_nil] at j1
      exact Ev.neg (by decide) j1
  unfold mandolineref09_Text.f
  simp only [Option.bind_some]
  cases b0 with
  | true => exact Ev.pos rfl (Ev.pos (by decide) j0)
  | false => exact Ev.neg (by decide) j0
/-! ### the program's -/
def words62 (l : List S62) : List ByteArray := (l.map fun x => numS x.f1.data.toList x.f0).flatten
def words60 (l : List S60) : List ByteArray := (l.map fun x => flagS x.f0 x.f1.data.toList).flatten
theorem Text_l1 (l : List S62) (hl : l.length ≤ 10) (hx : ∀ x ∈ l, x.f1.size ≤ 100) : ∀ (d : Nat) (acc : List ByteArray) (n : Nat) (i : Int), Few acc n → n + d ≤ 100 → 0 ≤ i → i + d = l.length →
    Ev (fun k => control_Text.l1 k acc l l.length i) (J (acc ++ words62 (l.drop i.toNat))) := by
  intro d
  induction d with
  | zero =>
    intro acc n i hf hn h0 h1
    refine Ev.step (fun k => by rw [control_Text.l1]) ?_
    rw [drop_end (by omega)]
    simp (disch := omega) only [if_neg]
    rw [strings_Join_f hf (by omega)]
    exact Ev.const (by rw [show words62 [] = [] from rfl, List.append_nil]; rfl)
  | succ d ih =>
    intro acc n i hf hn h0 h1
    have hz := hx _ (getD_mem (l := l) (z := z62) (i := i) (by omega) (by omega))
    have hfl := hf.1
    rw [getD_drop (l := l) (z := z62) h0 (by omega)]
    have ew : words62 (l.getD i.toNat z62 :: l.drop (i + 1).toNat) = numS (l.getD i.toNat z62).f1.data.toList (l.getD i.toNat z62).f0 ++ words62 (l.drop (i + 1).toNat) := by simp [words62]
    rw [ew, ← List.append_assoc]
    have hz' := hz
    rw [size_list] at hz'
    have ih' := ih (acc ++ numS (l.getD i.toNat z62).f1.data.toList (l.getD i.toNat z62).f0) (n + 1) (i + 1) (hf.app (Few.num _ _ hz')) (by omega) (by omega) (by omega)
    refine Ev.step (fun k => by rw [control_Text.l1]) ?_
    unfold rd_T62
    generalize l.getD i.toNat z62 = x at hz hz' ih' ⊢
    simp (disch := omega) only [if_pos, wrap64_eq]
    by_cases hp : x.f0 ≥ 0
    · refine Ev.pos hp ?_
      have hp' : 0 ≤ x.f0 := hp
      have hcl := cap_len hp'
      unfold numS at ih' ⊢
      rw [if_pos hp'] at ih' ⊢
      rw [fmt_eq hp']
      simp only [Option.bind_some]
      refine Ev.pos (by rw [bs_size]; omega) ?_
      have e : (x.f1 ++ (⟨#[61]⟩ : ByteArray)) ++ bs (Lib.decDigits (capI x.f0).toNat) = bs (x.f1.data.toList ++ [61] ++ Lib.decDigits (capI x.f0).toNat) := ext_list (by rw [append_list, append_list]; rfl)
      rw [e]
      exact ih'
    · refine Ev.neg hp ?_
      unfold numS at ih' ⊢
      rw [if_neg (show ¬ 0 ≤ x.f0 from hp)] at ih' ⊢
      rw [List.append_nil] at ih' ⊢
      exact ih'
theorem Text_l0 (l : List S60) (hl : l.length ≤ 10) (hx : ∀ x ∈ l, x.f1.size ≤ 100) (r0 r1 r2 r3 : Int) (b0 b1 b2 : Bool) : ∀ (d : Nat) (acc : List ByteArray) (n : Nat) (i : Int), Few acc n → n + d ≤ 50 → 0 ≤ i → i + d = l.length →
    Ev (fun k => control_Text.l0 k acc l l.length i r0 r1 r2 r3 b0 b1 b2) (J (acc ++ words60 (l.drop i.toNat) ++ (numS nMax r0 ++ numS nShared r1 ++ numS nWhile r2 ++ numS nError r3))) := by
  intro d
  induction d with
  | zero =>
    intro acc n i hf hn h0 h1
    refine Ev.step (fun k => by rw [control_Text.l0]) ?_
    rw [drop_end (by omega)]
    simp (disch := omega) only [if_neg]
    simp only [Option.bind_some]
    have t := Text_l1 [⟨r0, bs nMax⟩, ⟨r1, bs nShared⟩, ⟨r2, bs nWhile⟩, ⟨r3, bs nError⟩] (by simp) (by intro x hx; simp at hx; rcases hx with rfl | rfl | rfl | rfl <;> (show (bs _).size ≤ 100; rw [bs_size]; decide)) 4 acc n 0 hf (by omega) (by omega) rfl
    have e : words62 (([⟨r0, bs nMax⟩, ⟨r1, bs nShared⟩, ⟨r2, bs nWhile⟩, ⟨r3, bs nError⟩] : List S62).drop (0 : Int).toNat) = numS nMax r0 ++ numS nShared r1 ++ numS nWhile r2 ++ numS nError r3 := by simp [words62, bs_list]
    rw [e] at t
    rw [show words60 [] = [] from rfl, List.append_nil]
    exact t
  | succ d ih =>
    intro acc n i hf hn h0 h1
    have hz := hx _ (getD_mem (l := l) (z := z60) (i := i) (by omega) (by omega))
    have hfl := hf.1
    rw [getD_drop (l := l) (z := z60) h0 (by omega)]
    have ew : words60 (l.getD i.toNat z60 :: l.drop (i + 1).toNat) = flagS (l.getD i.toNat z60).f0 (l.getD i.toNat z60).f1.data.toList ++ words60 (l.drop (i + 1).toNat) := by simp [words60]
    rw [ew, ← List.append_assoc acc]
    have hz' := hz
    rw [size_list] at hz'
    have ih' := ih (acc ++ flagS (l.getD i.toNat z60).f0 (l.getD i.toNat z60).f1.data.toList) (n + 1) (i + 1) (hf.app (Few.flag _ _ hz')) (by omega) (by omega) (by omega)
    refine Ev.step (fun k => by rw [control_Text.l0]) ?_
    unfold rd_T60
    generalize l.getD i.toNat z60 = x at hz hz' ih' ⊢
    simp (disch := omega) only [if_pos, wrap64_eq]
    obtain ⟨b, nm⟩ := x
    cases b with
    | true =>
      refine Ev.pos rfl ?_
      rw [show flagS true nm.data.toList = [nm] by unfold flagS; rw [if_pos rfl, bs_of]] at ih' ⊢
      exact ih'
    | false =>
      refine Ev.neg (fun e : false = true => by cases e) ?_
      rw [show flagS false nm.data.toList = [] from rfl, List.append_nil] at ih' ⊢
      exact ih'
theorem control_Text_f (r0 r1 r2 r3 : Int) (b0 b1 b2 : Bool) : Ev (fun k => control_Text.f k r0 r1 r2 r3 b0 b1 b2) (J (words r0 r1 r2 r3 b0 b1 b2)) := by
  have t := Text_l0 [⟨b0, bs nStore⟩, ⟨b1, bs nCache⟩, ⟨b2, bs nPriv⟩] (by simp) (by intro x hx; simp at hx; rcases hx with rfl | rfl | rfl <;> (show (bs _).size ≤ 100; rw [bs_size]; decide)) r0 r1 r2 r3 b0 b1 b2 3 [] 0 0 (Few.nil 0) (by omega) (by omega) rfl
  have e : [] ++ words60 (([⟨b0, bs nStore⟩, ⟨b1, bs nCache⟩, ⟨b2, bs nPriv⟩] : List S60).drop (0 : Int).toNat) ++ (numS nMax r0 ++ numS nShared r1 ++ numS nWhile r2 ++ numS nError r3) = words r0 r1 r2 r3 b0 b1 b2 := by simp [words60, words, bs_list]
  rw [e] at t
  unfold control_Text.f
  simp only [Option.bind_some]
  exact t
end Go.Proofs.YtmapdckelbobiaaDoor.Pure
