/- The text of a tick, in plain words: what both texts, the program's and the document's, tell of a tick. Numbers are 64 bits wide. -/
import Derived.Test.YtiifmbajiibciaaDoorX0
import Derived.Test.YtiifmbajiibciaaDoorX1
import Derived.Test.YtiifmbajiibciaaDoorX4
import Derived.Test.YtiifmbajiibciaaDoorX5
import Derived.Test.YtiifmbajiibciaaDoorX12
import Derived.Test.YtiifmbajiibciaaDoorX13
import Derived.Test.YtiifmbajiibciaaDoorPureBase
import Derived.Lib.ItoaLen
namespace Go.Proofs.YtiifmbajiibciaaDoor.Pure
open Go Go.RowKit Go.Proofs.YtiifmbajiibciaaDoor Go.Proofs.YtiifmbajiibciaaDoor.X Go.Proofs.YtiifmbajiibciaaDoorW.PrintWords
set_option linter.unusedVariables false
set_option linter.unusedSimpArgs false
def bs (l : List UInt8) : ByteArray := ⟨l.toArray⟩
theorem bs_list (l : List UInt8) : (bs l).data.toList = l := rfl
theorem bs_size (l : List UInt8) : (bs l).size = l.length := by rw [size_list, bs_list]
theorem bs_of (s : ByteArray) : bs s.data.toList = s := mk_data s
theorem bs_app (a b : List UInt8) : bs a ++ bs b = bs (a ++ b) := ext_list (by rw [append_list]; rfl)
theorem bs_toList (l : List UInt8) : (bs l).toList = l := by rw [toList_data]; rfl
theorem bs_inj {a b : List UInt8} (h : bs a = bs b) : a = b := by rw [← bs_list a, h, bs_list]
/-! ### numerals -/
def dgt (n : Nat) : UInt8 := UInt8.ofNat (48 + n % 10)
theorem dgt_nat (n : Nat) : (dgt n).toNat = 48 + n % 10 := by
  unfold dgt
  rw [UInt8.toNat_ofNat']
  omega
theorem dd_small {n : Nat} (h : n < 10) : Lib.decDigits n = [dgt n] := by
  rw [Lib.decDigits, dif_pos h]
  unfold dgt
  rw [Nat.mod_eq_of_lt h]
theorem dd_big {n : Nat} (h : ¬ n < 10) : Lib.decDigits n = Lib.decDigits (n / 10) ++ [dgt n] := by
  rw [Lib.decDigits, dif_neg h]
  rfl
theorem itoa_nat (n : Nat) : Lib.itoa (n : Int) = Lib.decDigits n := by
  unfold Lib.itoa
  rw [if_neg (by omega), Int.toNat_natCast]
theorem itoa_small {n : Nat} (h : n < 10) : Lib.itoa (n : Int) = [dgt n] := by rw [itoa_nat, dd_small h]
/-- The last two digits. -/
def D (n : Nat) : List UInt8 := [dgt (n / 10), dgt n]
theorem D_len (n : Nat) : (D n).length = 2 := rfl
theorem itoa_year {y : Nat} (h1 : 1000 ≤ y) (h2 : y ≤ 9999) : Lib.itoa (y : Int) = D (y / 100) ++ D (y % 100) := by
  rw [itoa_nat, dd_big (by omega), dd_big (by omega), dd_big (by omega), dd_small (by omega)]
  unfold D
  have e1 : dgt (y % 100 / 10) = dgt (y / 10) := by unfold dgt; congr 2; omega
  have e2 : dgt (y % 100) = dgt y := by unfold dgt; congr 2; omega
  have e3 : dgt (y / 100 / 10) = dgt (y / 10 / 10 / 10) := by unfold dgt; congr 2; omega
  have e4 : dgt (y / 100) = dgt (y / 10 / 10) := by unfold dgt; congr 2; omega
  rw [e1, e2, e3, e4]
  rfl
theorem itoa_f {n : Nat} (h : n ≤ 100000) : strconv_Itoa.f (n : Int) = some (bs (Lib.itoa (n : Int))) := by
  unfold strconv_Itoa.f
  rw [if_pos (by omega)]
  rfl
theorem two_p {n : Nat} (h : n ≤ 99) : date_two.f (n : Int) = some (bs (D n)) := by
  unfold date_two.f
  have e1 : wrap64 (Int.tdiv (n : Int) 10) = ((n / 10 : Nat) : Int) := by rw [tdiv_pos (by omega), wrap64_eq (by omega) (by omega)]; omega
  have e2 : Int.tmod (n : Int) 10 = ((n % 10 : Nat) : Int) := by rw [tmod_pos (by omega)]; omega
  rw [e1, e2, itoa_f (by omega), itoa_f (by omega), itoa_small (by omega), itoa_small (by omega)]
  simp only [Option.bind_some, bs_size, List.length_singleton]
  rw [if_pos (by omega), bs_app]
  unfold D
  have e3 : dgt (n % 10) = dgt n := by unfold dgt; congr 2; omega
  rw [e3]
  rfl
theorem two_r (n : Nat) (h : n ≤ 100000) : mandolineref06_two.f (n : Int) = some (bs (D n)) := by
  unfold mandolineref06_two.f
  have e1 : wrap64 (48 + Int.tmod (wrap64 (Int.tdiv (n : Int) 10)) 10) % 256 = ((48 + n / 10 % 10 : Nat) : Int) := by
    rw [tdiv_pos (by omega), wrap64_eq (x := (n : Int) / 10) (by omega) (by omega), tmod_pos (by omega), wrap64_eq (by omega) (by omega)]; omega
  have e2 : wrap64 (48 + Int.tmod (n : Int) 10) % 256 = ((48 + n % 10 : Nat) : Int) := by
    rw [tmod_pos (by omega), wrap64_eq (by omega) (by omega)]; omega
  rw [e1, e2]
  rfl
/-! ### words -/
def WK : ByteArray := ⟨#[83, 117, 110, 77, 111, 110, 84, 117, 101, 87, 101, 100, 84, 104, 117, 70, 114, 105, 83, 97, 116]⟩
def wkL (i : Nat) : List UInt8 := (WK.extract (3 * i) (3 * i + 3)).data.toList
def moL (i : Nat) : List UInt8 := (date_Parse.MS.extract (3 * i) (3 * i + 3)).data.toList
theorem wk_len : ∀ i, i < 7 → (wkL i).length = 3 := by decide +kernel
theorem mo_len : ∀ i, i < 12 → (moL i).length = 3 := by decide +kernel
theorem word_p (S : ByteArray) {i : Nat} (h : 3 * i + 3 ≤ S.size) (hi : i ≤ 1000) : date_word.f S (i : Int) = some (S.extract (3 * i) (3 * i + 3)) := by
  unfold date_word.f
  rw [wrap64_eq (x := 3 * (i : Int)) (by omega) (by omega), wrap64_eq (x := 3 * (i : Int) + 3) (by omega) (by omega), if_pos (by omega), if_pos (by omega), if_pos (by omega)]
  rfl
/-- A date's text: the day of the week, the date, the month from 0 on, the year, the second. -/
def textL (wk d mo y s : Nat) : List UInt8 :=
  wkL wk ++ [44, 32] ++ D d ++ [32] ++ moL mo ++ [32] ++ D (y / 100) ++ D (y % 100) ++ [32] ++ D (s / 3600) ++ [58] ++ D (s / 60 % 60) ++ [58] ++ D (s % 60) ++ [32, 71, 77, 84]
theorem join_f {l : List ByteArray} {sep : ByteArray} {r : List UInt8} (h : l.length ≤ 100) (hr : Lib.join (l.map (·.data.toList)) sep.data.toList = r) (hl : r.length ≤ 1000) : strings_Join.f l sep = some (bs r) := by
  unfold strings_Join.f
  rw [hr, if_pos ⟨by omega, by omega⟩]
  rfl
theorem text_p {t : Int} (h0 : 0 ≤ t) (h1 : t ≤ 253402300799) {y d s wk : Nat} {m : Nat} (hd : IsDay (t / 86400) y m d) (hs : t % 86400 = s) (hw : (4 + t / 86400) % 7 = wk) :
    Ev (fun k => date_Text.f k t) (bs (textL wk d (m - 1) y s), 0) := by
  obtain ⟨y', m', d', e1, e2, _⟩ := of_ok t h0 h1
  obtain ⟨rfl, rfl, rfl⟩ := e1.uniq hd
  rw [hs, hw] at e2
  have hy1 := hd.y1; have hy2 := hd.y2; have hm1 := hd.m1; have hm2 := hd.m2; have hd1 := hd.d1; have hd2 := hd.d2
  have hdm := dm_bound y m'
  unfold date_Text.f date_right.f
  simp only [show t ≥ 0 by omega, if_true, show decide (t ≤ 253402300799) = true from decide_eq_true h1, Option.bind_some]
  refine Ev.bind e2 (Ev.const ?_)
  have hs1 : s ≤ 86399 := by omega
  have hw1 : wk < 7 := by omega
  have c1 : wrap64 (Int.tdiv (s : Int) 3600) = ((s / 3600 : Nat) : Int) := by rw [tdiv_pos (by omega), wrap64_eq (by omega) (by omega)]; omega
  have c2 : Int.tmod (wrap64 (Int.tdiv (s : Int) 60)) 60 = ((s / 60 % 60 : Nat) : Int) := by rw [tdiv_pos (by omega), wrap64_eq (x := (s : Int) / 60) (by omega) (by omega), tmod_pos (by omega)]; omega
  have c3 : Int.tmod (s : Int) 60 = ((s % 60 : Nat) : Int) := by rw [tmod_pos (by omega)]; omega
  have c4 : wrap64 ((m' : Int) - 1) = ((m' - 1 : Nat) : Int) := by rw [wrap64_eq (by omega) (by omega)]; omega
  have c5 : date_word.f (⟨#[83, 117, 110, 77, 111, 110, 84, 117, 101, 87, 101, 100, 84, 104, 117, 70, 114, 105, 83, 97, 116]⟩ : ByteArray) (wk : Int) = some (bs (wkL wk)) := by
    rw [word_p _ (show 3 * wk + 3 ≤ 21 by omega) (by omega)]
    unfold wkL
    rw [bs_of]
    rfl
  have c6 : date_word.f (⟨#[74, 97, 110, 70, 101, 98, 77, 97, 114, 65, 112, 114, 77, 97, 121, 74, 117, 110, 74, 117, 108, 65, 117, 103, 83, 101, 112, 79, 99, 116, 78, 111, 118, 68, 101, 99]⟩ : ByteArray) (((m' - 1 : Nat) : Int)) = some (bs (moL (m' - 1))) := by
    rw [word_p _ (show 3 * (m' - 1) + 3 ≤ 36 by omega) (by omega)]
    unfold moL
    rw [bs_of]
    rfl
  have w1 := wk_len wk hw1
  have w2 := mo_len (m' - 1) (by omega)
  simp only [c1, c2, c3, c4, c5, c6, two_p (show s / 3600 ≤ 99 by omega), two_p (show s / 60 % 60 ≤ 99 by omega), two_p (show s % 60 ≤ 99 by omega), two_p (show d ≤ 99 by omega), itoa_f (show y ≤ 100000 by omega), itoa_year (show 1000 ≤ y by omega) (show y ≤ 9999 by omega), Option.bind_some]
  rw [join_f (l := [bs (D (s / 3600)), bs (D (s / 60 % 60)), bs (D (s % 60))]) (r := D (s / 3600) ++ [58] ++ D (s / 60 % 60) ++ [58] ++ D (s % 60)) (by simp) (by simp [Lib.join_cons, Lib.joinTail, bs_list]) (by simp [D_len])]
  simp only [Option.bind_some, bs_size, w1]
  rw [if_pos (by omega), show (⟨#[44]⟩ : ByteArray) = bs [44] from rfl, show (⟨#[71, 77, 84]⟩ : ByteArray) = bs [71, 77, 84] from rfl, bs_app]
  rw [join_f (r := textL wk d (m' - 1) y s) (by simp) (by simp [Lib.join_cons, Lib.joinTail, bs_list, textL]) (by simp [D_len, textL, w1, w2])]
  rfl
theorem text_r {t : Int} (h0 : 0 ≤ t) (h1 : t ≤ 253402300799) {y d s wk : Nat} {m : Nat} (hd : IsDay (t / 86400) y m d) (hs : t % 86400 = s) (hw : (4 + t / 86400) % 7 = wk) :
    Ev (fun k => mandolineref06_Text.f k t) (bs (textL wk d (m - 1) y s), 0) := by
  obtain ⟨y', m', d', e1, _, e2⟩ := of_ok t h0 h1
  obtain ⟨rfl, rfl, rfl⟩ := e1.uniq hd
  rw [hs, hw] at e2
  have hy1 := hd.y1; have hy2 := hd.y2; have hm1 := hd.m1; have hm2 := hd.m2; have hd1 := hd.d1; have hd2 := hd.d2
  have hdm := dm_bound y m'
  unfold mandolineref06_Text.f
  simp only [show ¬ t < 0 by omega, if_false, show decide (t > 253402300799) = false from decide_eq_false (by omega)]
  refine Ev.step (fun k => by rw [mandolineref06_Text.j0]) ?_
  simp only [Bool.false_eq_true, if_false]
  refine Ev.bind e2 (Ev.const ?_)
  have hs1 : s ≤ 86399 := by omega
  have hw1 : wk < 7 := by omega
  have c1 : wrap64 (Int.tdiv (s : Int) 3600) = ((s / 3600 : Nat) : Int) := by rw [tdiv_pos (by omega), wrap64_eq (by omega) (by omega)]; omega
  have c2 : Int.tmod (wrap64 (Int.tdiv (s : Int) 60)) 60 = ((s / 60 % 60 : Nat) : Int) := by rw [tdiv_pos (by omega), wrap64_eq (x := (s : Int) / 60) (by omega) (by omega), tmod_pos (by omega)]; omega
  have c3 : Int.tmod (s : Int) 60 = ((s % 60 : Nat) : Int) := by rw [tmod_pos (by omega)]; omega
  have c4 : wrap64 (3 * (wk : Int)) = ((3 * wk : Nat) : Int) := by rw [wrap64_eq (by omega) (by omega)]; omega
  have c5 : wrap64 (((3 * wk : Nat) : Int) + 3) = ((3 * wk + 3 : Nat) : Int) := by rw [wrap64_eq (by omega) (by omega)]; omega
  have c6 : wrap64 (3 * (m' : Int)) = ((3 * (m' - 1) + 3 : Nat) : Int) := by rw [wrap64_eq (by omega) (by omega)]; omega
  have c7 : wrap64 (((3 * (m' - 1) + 3 : Nat) : Int) - 3) = ((3 * (m' - 1) : Nat) : Int) := by rw [wrap64_eq (by omega) (by omega)]; omega
  have c8 : wrap64 (Int.tdiv (y : Int) 100) = ((y / 100 : Nat) : Int) := by rw [tdiv_pos (by omega), wrap64_eq (by omega) (by omega)]; omega
  have c9 : Int.tmod (y : Int) 100 = ((y % 100 : Nat) : Int) := by rw [tmod_pos (by omega)]; omega
  have w1 := wk_len wk hw1
  have w2 := mo_len (m' - 1) (by omega)
  have x1 : (⟨#[83, 117, 110, 77, 111, 110, 84, 117, 101, 87, 101, 100, 84, 104, 117, 70, 114, 105, 83, 97, 116]⟩ : ByteArray).extract (3 * wk) (3 * wk + 3) = bs (wkL wk) := (bs_of _).symm
  have x2 : (⟨#[74, 97, 110, 70, 101, 98, 77, 97, 114, 65, 112, 114, 77, 97, 121, 74, 117, 110, 74, 117, 108, 65, 117, 103, 83, 101, 112, 79, 99, 116, 78, 111, 118, 68, 101, 99]⟩ : ByteArray).extract (3 * (m' - 1)) (3 * (m' - 1) + 3) = bs (moL (m' - 1)) := (bs_of _).symm
  have z1 : ((⟨#[83, 117, 110, 77, 111, 110, 84, 117, 101, 87, 101, 100, 84, 104, 117, 70, 114, 105, 83, 97, 116]⟩ : ByteArray).size : Int) = 21 := rfl
  have z2 : ((⟨#[74, 97, 110, 70, 101, 98, 77, 97, 114, 65, 112, 114, 77, 97, 121, 74, 117, 110, 74, 117, 108, 65, 117, 103, 83, 101, 112, 79, 99, 116, 78, 111, 118, 68, 101, 99]⟩ : ByteArray).size : Int) = 36 := rfl
  simp only [c1, c2, c3, c4, c5, c6, c7, c8, c9, mandolineref06_weeks.f, mandolineref06_months.f, Option.bind_some, Int.toNat_natCast, x1, x2, z1, z2, two_r _ (show s / 3600 ≤ 100000 by omega), two_r _ (show s / 60 % 60 ≤ 100000 by omega), two_r _ (show s % 60 ≤ 100000 by omega), two_r _ (show d ≤ 100000 by omega), two_r _ (show y / 100 ≤ 100000 by omega), two_r _ (show y % 100 ≤ 100000 by omega), bs_size, w1, w2, D_len]
  have q1 : (0 : Int) ≤ ((3 * wk : Nat) : Int) := by omega
  have q2 : ((3 * wk : Nat) : Int) ≤ ((3 * wk + 3 : Nat) : Int) := by omega
  have q3 : ((3 * wk + 3 : Nat) : Int) ≤ 21 := by omega
  have q4 : (0 : Int) ≤ ((3 * (m' - 1) : Nat) : Int) := by omega
  have q5 : ((3 * (m' - 1) : Nat) : Int) ≤ ((3 * (m' - 1) + 3 : Nat) : Int) := by omega
  have q6 : ((3 * (m' - 1) + 3 : Nat) : Int) ≤ 36 := by omega
  simp only [q1, q2, q3, q4, q5, q6, if_true, Nat.reduceAdd, Nat.reduceLeDiff]
  rw [show (⟨#[44, 32]⟩ : ByteArray) = bs [44, 32] from rfl, show (⟨#[32]⟩ : ByteArray) = bs [32] from rfl, show (⟨#[58]⟩ : ByteArray) = bs [58] from rfl, show (⟨#[32, 71, 77, 84]⟩ : ByteArray) = bs [32, 71, 77, 84] from rfl]
  simp only [bs_app]
  rfl
theorem text_bad {t : Int} (h : ¬ (0 ≤ t ∧ t ≤ 253402300799)) : Ev (fun k => date_Text.f k t) (bs [], 1) ∧ Ev (fun k => mandolineref06_Text.f k t) (bs [], 1) := by
  have hj : Ev (fun k => mandolineref06_Text.j0 k t true) (bs [], 1) := Ev.step (f := fun _ => some (bs [], 1)) (fun k => by rw [mandolineref06_Text.j0]; simp; rfl) (Ev.const rfl)
  unfold date_Text.f date_right.f mandolineref06_Text.f
  by_cases h0 : 0 ≤ t
  · simp only [show t ≥ 0 by omega, show ¬ t < 0 by omega, if_true, if_false]
    rw [show decide (t ≤ 253402300799) = false from decide_eq_false (by omega), show decide (t > 253402300799) = true from decide_eq_true (by omega)]
    exact ⟨Ev.const (by simp; rfl), hj⟩
  · simp only [show ¬ t ≥ 0 by omega, show t < 0 by omega, if_true, if_false]
    exact ⟨Ev.const (by simp; rfl), hj⟩
/-- What a tick's text is made of. -/
theorem parts {t : Int} (h0 : 0 ≤ t) (h1 : t ≤ 253402300799) : ∃ (y d s wk m : Nat), IsDay (t / 86400) y m d ∧ t % 86400 = s ∧ (4 + t / 86400) % 7 = wk := by
  obtain ⟨y, m, d, e1, _, _⟩ := of_ok t h0 h1
  have := e1.y1; have := e1.d1
  refine ⟨y.toNat, d.toNat, (t % 86400).toNat, ((4 + t / 86400) % 7).toNat, m, ?_, by omega, by omega⟩
  rw [Int.toNat_of_nonneg (by omega), Int.toNat_of_nonneg (by omega)]
  exact e1
end Go.Proofs.YtiifmbajiibciaaDoor.Pure
