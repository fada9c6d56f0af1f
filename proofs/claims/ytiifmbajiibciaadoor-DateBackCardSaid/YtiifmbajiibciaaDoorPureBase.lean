/- The calendar of layer 6 (date), in plain words: how many days lie ahead of a year and of a month; what both texts, the program's and the document's, compute of ticks and days. Numbers are 64 bits wide. -/
import Derived.Test.YtiifmbajiibciaaDoorX0
import Derived.Test.YtiifmbajiibciaaDoorX1
import Derived.Test.YtiifmbajiibciaaDoorX2
import Derived.Test.YtiifmbajiibciaaDoorX3
import Derived.Test.YtiifmbajiibciaaDoorX6
import Derived.Test.YtiifmbajiibciaaDoorX8
import Derived.Test.YtiifmbajiibciaaDoorX9
import Derived.Test.YtiifmbajiibciaaDoorX10
import Derived.Test.YtiifmbajiibciaaDoorX11
import Derived.Test.YtiifmbajiibciaaDoorBytes
namespace Go.Proofs.YtiifmbajiibciaaDoor.Pure
open Go Go.RowKit Go.Proofs.YtiifmbajiibciaaDoor Go.Proofs.YtiifmbajiibciaaDoor.X Go.Proofs.YtiifmbajiibciaaDoorW.PrintWords
set_option linter.unusedVariables false
set_option linter.unusedSimpArgs false
theorem wf64 {x : Int} (h : (Lit.int .i64 x).wf = true) : -9223372036854775808 ≤ x ∧ x ≤ 9223372036854775807 := by
  have e1 : IntKind.i64.min = -9223372036854775808 := by decide
  have e2 : IntKind.i64.max = 9223372036854775807 := by decide
  unfold Lit.wf at h
  simp only [Bool.and_eq_true, decide_eq_true_eq, e1, e2] at h
  exact h
/-- Has a year a day more? -/
def leap (y : Int) : Bool := decide (y % 4 = 0) && (!decide (y % 100 = 0) || decide (y % 400 = 0))
theorem tmod_zero (a b : Int) : Int.tmod a b = 0 ↔ a % b = 0 := by rw [← Int.dvd_iff_tmod_eq_zero, ← Int.dvd_iff_emod_eq_zero]
theorem leap_p (y : Int) : date_Leap.f y = some (leap y) := by
  unfold date_Leap.f leap
  simp only [tmod_zero, Bool.beq_eq_decide_eq]
  by_cases h4 : y % 4 = 0 <;> by_cases h1 : y % 100 = 0 <;> by_cases h400 : y % 400 = 0 <;> simp [h4, h1, h400]
theorem leap_r (y : Int) : mandolineref06_Leap.f y = some (leap y) := by
  unfold mandolineref06_Leap.f leap
  simp only [tmod_zero, Bool.beq_eq_decide_eq]
  by_cases h4 : y % 4 = 0 <;> by_cases h1 : y % 100 = 0 <;> by_cases h400 : y % 400 = 0 <;> simp [h4, h1, h400] <;> omega
def lp (y : Int) : Int := if leap y = true then 1 else 0
/-- A month's days. -/
def dm (y m : Int) : Int := if m = 4 ∨ m = 6 ∨ m = 9 ∨ m = 11 then 30 else if m = 2 then 28 + lp y else 31
theorem days_p (y m : Int) : Ev (fun k => date_days.f k y m) (dm y m) := by
  unfold date_days.f dm lp
  have hj : ∀ b : Bool, Ev (fun k => date_days.j0 k y m b) (if b = true then 30 else if m = 2 then 28 + (if leap y = true then 1 else 0) else 31) := fun b => by
    refine Ev.step (fun k => by rw [date_days.j0]) ?_
    cases b with
    | true => exact Ev.const (by simp)
    | false =>
      refine Ev.const ?_
      simp only [leap_p, Option.bind_some, Bool.false_eq_true, if_false]
      by_cases h2 : m = 2 <;> simp only [h2, if_true, if_false]
      cases leap y <;> rfl
  by_cases h4 : m = 4
  · have := hj (m == 4)
    simp only [h4, if_true, true_or] at this ⊢
    exact this
  · by_cases h6 : m = 6
    · have := hj (m == 6)
      simp only [h4, h6, if_true, if_false, true_or, or_true, false_or] at this ⊢
      simpa using this
    · by_cases h9 : m = 9
      · have := hj (m == 9)
        simp only [h4, h6, h9, if_true, if_false, true_or, or_true, false_or] at this ⊢
        simpa using this
      · have := hj (m == 11)
        simp only [h4, h6, h9, if_false, false_or] at this ⊢
        simpa using this
theorem days_r (y m : Int) : mandolineref06_days.f y m = some (dm y m) := by
  unfold mandolineref06_days.f dm lp
  simp only [leap_r, Option.bind_some]
  by_cases h2 : m = 2
  · subst h2
    cases leap y <;> simp
  · by_cases h4 : m = 4 <;> by_cases h6 : m = 6 <;> by_cases h9 : m = 9 <;> by_cases h11 : m = 11 <;> simp [h2, h4, h6, h9, h11]
/-- The days from 1970 on ahead of a year. -/
def bf (y : Int) : Int := 365 * (y - 1970) + (y - 1) / 4 - (y - 1) / 100 + (y - 1) / 400 - 477
theorem bf_step (y : Int) : bf (y + 1) = bf y + 365 + lp y := by
  unfold bf lp leap
  by_cases h4 : y % 4 = 0 <;> by_cases h1 : y % 100 = 0 <;> by_cases h400 : y % 400 = 0 <;> simp [h4, h1, h400] <;> omega
theorem bf_first : bf 1970 = 0 := by decide
theorem bf_last : bf 10000 = 2932897 := by decide
theorem bf_le {y : Int} (h : 1970 ≤ y) : bf y ≤ 366 * (y - 1970) := by unfold bf; omega
theorem lp_01 (y : Int) : 0 ≤ lp y ∧ lp y ≤ 1 := by unfold lp; split <;> omega
theorem bf_mono (n : Nat) (y : Int) : bf y + 365 * n ≤ bf (y + n) := by
  induction n with
  | zero => simp
  | succ n ih =>
    have h1 := bf_step (y + n)
    have h2 := lp_01 (y + n)
    rw [show y + ((n + 1 : Nat) : Int) = y + n + 1 by omega, h1]
    omega
theorem bf_lt {a b : Int} (h : a < b) : bf a + 365 ≤ bf b := by
  have := bf_mono (b - a).toNat a
  rw [show a + ((b - a).toNat : Int) = b by omega] at this
  omega
theorem bf_bound {y : Int} (h1 : 1970 ≤ y) (h2 : y ≤ 10001) : 0 ≤ bf y ∧ bf y ≤ 2940000 := by unfold bf; omega
theorem tdiv_pos {a b : Int} (h : 0 ≤ a) : Int.tdiv a b = a / b := Int.tdiv_eq_ediv_of_nonneg h
theorem tmod_pos {a b : Int} (h : 0 ≤ a) : Int.tmod a b = a % b := Int.tmod_eq_emod_of_nonneg h
theorem leaps_p {y : Int} (h0 : 0 ≤ y) (h1 : y ≤ 20000) : date_ahead_1.f y = some (y / 4 - y / 100 + y / 400) := by
  unfold date_ahead_1.f
  rw [tdiv_pos h0, tdiv_pos h0, tdiv_pos h0]
  simp (disch := omega) only [wrap64_eq]
theorem ahead_p {y : Int} (h1 : 1970 ≤ y) (h2 : y ≤ 10001) : date_ahead.f y = some (bf y) := by
  unfold date_ahead.f
  rw [wrap64_eq (x := y - 1) (by omega) (by omega), wrap64_eq (x := y - 1970) (by omega) (by omega), leaps_p (by omega) (by omega), leaps_p (y := 1969) (by omega) (by omega)]
  simp only [Option.bind_some]
  simp (disch := omega) only [wrap64_eq]
  unfold bf
  refine congrArg some ?_
  omega
theorem before_r {y : Int} (h1 : 1970 ≤ y) (h2 : y ≤ 10001) : mandolineref06_before.f y = some (bf y) := by
  unfold mandolineref06_before.f
  rw [wrap64_eq (x := y - 1) (by omega) (by omega), wrap64_eq (x := y - 1970) (by omega) (by omega), tdiv_pos (by omega), tdiv_pos (by omega), tdiv_pos (by omega)]
  simp (disch := omega) only [wrap64_eq]
  rfl
/-- The days of a year ahead of a month. -/
def cum (y : Int) : Nat → Int
  | 0 => 0
  | 1 => 0
  | m + 2 => cum y (m + 1) + dm y (m + 1 : Nat)
theorem dm_bound (y m : Int) : 28 ≤ dm y m ∧ dm y m ≤ 31 := by
  have := lp_01 y
  unfold dm
  split
  · omega
  · split <;> omega
theorem cum_step (y : Int) (m : Nat) (h : 1 ≤ m) : cum y (m + 1) = cum y m + dm y m := by
  obtain ⟨n, rfl⟩ : ∃ n, m = n + 1 := ⟨m - 1, by omega⟩
  rfl
theorem cum_13 (y : Int) : cum y 13 = 365 + lp y := by
  simp only [cum, dm]
  simp
  omega
theorem cum_bound (y : Int) (m : Nat) : 0 ≤ cum y m ∧ cum y m ≤ 31 * m := by
  induction m with
  | zero => simp [cum]
  | succ m ih =>
    by_cases h : 1 ≤ m
    · rw [cum_step y m h]
      have := dm_bound y m
      omega
    · obtain rfl : m = 0 := by omega
      simp [cum]
/-- Day n from 1970 on is a year's, a month's, a date. -/
structure IsDay (n y : Int) (m : Nat) (d : Int) : Prop where
  y1 : 1970 ≤ y
  y2 : y ≤ 9999
  m1 : 1 ≤ m
  m2 : m ≤ 12
  d1 : 1 ≤ d
  d2 : d ≤ dm y m
  day : n = bf y + cum y m + d - 1
theorem cum_le (y : Int) {a b : Nat} (h1 : 1 ≤ a) (h : a < b) : cum y a + dm y a ≤ cum y b := by
  obtain ⟨c, rfl⟩ : ∃ c, b = a + 1 + c := ⟨b - a - 1, by omega⟩
  clear h
  induction c with
  | zero => rw [Nat.add_zero, cum_step y a h1]; omega
  | succ c ih =>
    have h2 := cum_step y (a + 1 + c) (by omega)
    have h3 := dm_bound y ((a + 1 + c : Nat) : Int)
    rw [show a + 1 + (c + 1) = a + 1 + c + 1 by omega, h2]
    omega
theorem IsDay.inYear {n y : Int} {m : Nat} {d : Int} (h : IsDay n y m d) : bf y ≤ n ∧ n < bf (y + 1) := by
  have h1 := cum_bound y m
  have h2 := cum_le y h.m1 (show m < 13 by have := h.m2; omega)
  rw [cum_13] at h2
  have h3 := bf_step y
  have := h.d1; have := h.d2; have := h.day
  omega
theorem IsDay.uniq {n y y' : Int} {m m' : Nat} {d d' : Int} (h : IsDay n y m d) (h' : IsDay n y' m' d') : y = y' ∧ m = m' ∧ d = d' := by
  have a := h.inYear
  have a' := h'.inYear
  have hy : y = y' := by
    rcases Int.lt_trichotomy y y' with hl | rfl | hl
    · have : bf (y + 1) ≤ bf y' := by
        rcases Int.lt_or_eq_of_le (show y + 1 ≤ y' by omega) with h1 | h1
        · have := bf_lt h1; omega
        · rw [h1]; omega
      omega
    · rfl
    · have : bf (y' + 1) ≤ bf y := by
        rcases Int.lt_or_eq_of_le (show y' + 1 ≤ y by omega) with h1 | h1
        · have := bf_lt h1; omega
        · rw [h1]; omega
      omega
  subst hy
  have e := h.day; have e' := h'.day; have := h.d1; have := h.d2; have := h'.d1; have := h'.d2
  have hm : m = m' := by
    rcases Nat.lt_trichotomy m m' with hl | rfl | hl
    · have := cum_le y h.m1 hl; omega
    · rfl
    · have := cum_le y h'.m1 hl; omega
  subst hm
  exact ⟨rfl, rfl, by omega⟩
theorem IsDay.range {n y : Int} {m : Nat} {d : Int} (h : IsDay n y m d) : 0 ≤ n ∧ n ≤ 2932896 := by
  have a := h.inYear
  have h1 : bf 1970 ≤ bf y := by
    rcases Int.lt_or_eq_of_le h.y1 with h1 | h1
    · have := bf_lt h1; omega
    · rw [h1]; omega
  have h2 : bf (y + 1) ≤ bf 10000 := by
    rcases Int.lt_or_eq_of_le (show y + 1 ≤ 10000 by have := h.y2; omega) with h1 | h1
    · have := bf_lt h1; omega
    · rw [h1]; omega
  rw [bf_first] at h1
  rw [bf_last] at h2
  omega
/-! ### the day of a tick -/
/-- The month loop. -/
theorem of_l1 (x0 y b a : Int) : ∀ (c m : Nat) (left : Int), m + c = 12 → 1 ≤ m → 0 ≤ left → cum y m + left < 365 + lp y → -9223372036854775808 ≤ y → y ≤ 9223372036854775807 →
    ∃ (m' : Nat) (d : Int), m ≤ m' ∧ m' ≤ 12 ∧ 1 ≤ d ∧ d ≤ dm y m' ∧ cum y m + left = cum y m' + d - 1 ∧ Ev (fun k => date_Of.l1 k x0 left y (m : Int) a b) (y, (m' : Int), d, b, Int.tmod x0 86400) ∧
      ∀ x4, Ev (fun k => mandolineref06_Of.l1 k x0 x4 y left (m : Int)) (y, (m' : Int), d, Int.tmod (wrap64 (x4 + 4)) 7, Int.tmod x0 86400) := by
  intro c
  induction c with
  | zero =>
    intro m left hm h1 h0 hl hy1 hy2
    have hm' : m = 12 := by omega
    subst hm'
    have h13 := cum_13 y
    rw [show (13 : Nat) = 12 + 1 from rfl, cum_step y 12 (by omega)] at h13
    have hb := dm_bound y ((12 : Nat) : Int)
    have hlt : ¬ (left ≥ dm y ((12 : Nat) : Int)) := by omega
    refine ⟨12, left + 1, by omega, by omega, by omega, by omega, by omega, ?_, fun x4 => ?_⟩
    · refine Ev.step (fun k => by rw [date_Of.l1]) (Ev.bind (days_p y _) ?_)
      simp only [hlt, if_false]
      rw [wrap64_eq (by omega) (by omega)]
      exact Ev.const rfl
    · refine Ev.step (fun k => by rw [mandolineref06_Of.l1]) ?_
      simp only [days_r, Option.bind_some, hlt, if_false]
      rw [wrap64_eq (x := left + 1) (by omega) (by omega)]
      exact Ev.const rfl
  | succ c ih =>
    intro m left hm h1 h0 hl hy1 hy2
    have hb := dm_bound y (m : Int)
    have hlp := lp_01 y
    have hcb := cum_bound y m
    by_cases hlt : left ≥ dm y (m : Int)
    · have hs := cum_step y m h1
      obtain ⟨m', d, e1, e2, e3, e4, e5, e6, e7⟩ := ih (m + 1) (left - dm y m) (by omega) (by omega) (by omega) (by omega) hy1 hy2
      refine ⟨m', d, by omega, e2, e3, e4, by omega, ?_, fun x4 => ?_⟩
      · refine Ev.step (fun k => by rw [date_Of.l1]) (Ev.bind (days_p y _) ?_)
        simp only [hlt, if_true]
        refine Ev.bind (days_p y _) ?_
        rw [wrap64_eq (x := left - dm y m) (by omega) (by omega), wrap64_eq (x := (m : Int) + 1) (by omega) (by omega)]
        exact e6
      · refine Ev.step (fun k => by rw [mandolineref06_Of.l1]) ?_
        simp only [days_r, Option.bind_some, hlt, if_true]
        rw [wrap64_eq (x := left - dm y m) (by omega) (by omega), wrap64_eq (x := (m : Int) + 1) (by omega) (by omega)]
        exact e7 x4
    · refine ⟨m, left + 1, by omega, by omega, by omega, by omega, by omega, ?_, fun x4 => ?_⟩
      · refine Ev.step (fun k => by rw [date_Of.l1]) (Ev.bind (days_p y _) ?_)
        simp only [hlt, if_false]
        rw [wrap64_eq (by omega) (by omega)]
        exact Ev.const rfl
      · refine Ev.step (fun k => by rw [mandolineref06_Of.l1]) ?_
        simp only [days_r, Option.bind_some, hlt, if_false]
        rw [wrap64_eq (x := left + 1) (by omega) (by omega)]
        exact Ev.const rfl
/-- The year loop. -/
theorem of_l0 (x0 n b : Int) (hn0 : 0 ≤ n) (hn : n ≤ 2932896) : ∀ (c : Nat) (y : Int), y + c = 9999 → 1970 ≤ y → bf y ≤ n →
    ∃ (y' : Int) (m : Nat) (d : Int), IsDay n y' m d ∧ Ev (fun k => date_Of.l0 k x0 n y 1 0 b) (y', (m : Int), d, b, Int.tmod x0 86400) ∧ Ev (fun k => mandolineref06_Of.l0 k x0 n y) (y', (m : Int), d, Int.tmod (wrap64 (n + 4)) 7, Int.tmod x0 86400) := by
  have fin : ∀ y : Int, 1970 ≤ y → y ≤ 9999 → bf y ≤ n → ¬ bf (y + 1) ≤ n →
    ∃ (y' : Int) (m : Nat) (d : Int), IsDay n y' m d ∧ Ev (fun k => date_Of.l0 k x0 n y 1 0 b) (y', (m : Int), d, b, Int.tmod x0 86400) ∧ Ev (fun k => mandolineref06_Of.l0 k x0 n y) (y', (m : Int), d, Int.tmod (wrap64 (n + 4)) 7, Int.tmod x0 86400) := by
    intro y h1 h2 hb hlt
    have hst := bf_step y
    have hbb := bf_bound h1 (by omega)
    obtain ⟨m', d, e1, e2, e3, e4, e5, e6, e7⟩ := of_l1 x0 y b 0 11 1 (n - bf y) (by omega) (by omega) (by omega) (by simp only [cum]; omega) (by omega) (by omega)
    simp only [cum] at e5
    refine ⟨y, m', d, ⟨h1, h2, by omega, e2, e3, e4, by omega⟩, ?_, ?_⟩
    · refine Ev.step (fun k => by rw [date_Of.l0]) ?_
      rw [wrap64_eq (x := y + 1) (by omega) (by omega)]
      simp only [ahead_p (y := y + 1) (by omega) (by omega), Option.bind_some, hlt, if_false, ahead_p (y := y) (by omega) (by omega)]
      rw [wrap64_eq (x := n - bf y) (by omega) (by omega)]
      exact e6
    · refine Ev.step (fun k => by rw [mandolineref06_Of.l0]) ?_
      rw [wrap64_eq (x := y + 1) (by omega) (by omega)]
      simp only [before_r (y := y + 1) (by omega) (by omega), Option.bind_some, hlt, if_false, before_r (y := y) (by omega) (by omega)]
      rw [wrap64_eq (x := n - bf y) (by omega) (by omega)]
      exact e7 n
  intro c
  induction c with
  | zero =>
    intro y hy h1 hb
    have e : y = 9999 := by omega
    refine fin y h1 (by omega) hb ?_
    rw [e, show (9999 : Int) + 1 = 10000 from rfl, bf_last]
    omega
  | succ c ih =>
    intro y hy h1 hb
    by_cases hlt : bf (y + 1) ≤ n
    · obtain ⟨y', m, d, e1, e2, e3⟩ := ih (y + 1) (by omega) (by omega) hlt
      refine ⟨y', m, d, e1, ?_, ?_⟩
      · refine Ev.step (fun k => by rw [date_Of.l0]) ?_
        rw [wrap64_eq (x := y + 1) (by omega) (by omega)]
        simp only [ahead_p (y := y + 1) (by omega) (by omega), Option.bind_some, hlt, if_true]
        exact e2
      · refine Ev.step (fun k => by rw [mandolineref06_Of.l0]) ?_
        rw [wrap64_eq (x := y + 1) (by omega) (by omega)]
        simp only [before_r (y := y + 1) (by omega) (by omega), Option.bind_some, hlt, if_true]
        exact e3
    · exact fin y h1 (by omega) hb hlt
/-- The day of a tick that is one: both tell it alike. -/
theorem of_ok (t : Int) (h0 : 0 ≤ t) (h1 : t ≤ 253402300799) :
    ∃ (y : Int) (m : Nat) (d : Int), IsDay (t / 86400) y m d ∧ Ev (fun k => date_Of.f k t) (y, (m : Int), d, (4 + t / 86400) % 7, t % 86400) ∧ Ev (fun k => mandolineref06_Of.f k t) (y, (m : Int), d, (4 + t / 86400) % 7, t % 86400) := by
  have hb : bf (1970 + t / 86400 / 366) ≤ t / 86400 := by
    have := bf_le (y := 1970 + t / 86400 / 366) (by omega)
    omega
  obtain ⟨y, m, d, e1, e2, e3⟩ := of_l0 t (t / 86400) ((4 + t / 86400) % 7) (by omega) (by omega) (9999 - (1970 + t / 86400 / 366)).toNat (1970 + t / 86400 / 366) (by omega) (by omega) hb
  have c1 : wrap64 (1970 + wrap64 (Int.tdiv (wrap64 (Int.tdiv t 86400)) 366)) = 1970 + t / 86400 / 366 := by
    rw [tdiv_pos h0, wrap64_eq (x := t / 86400) (by omega) (by omega), tdiv_pos (by omega), wrap64_eq (x := t / 86400 / 366) (by omega) (by omega), wrap64_eq (by omega) (by omega)]
  have c2 : wrap64 (Int.tdiv t 86400) = t / 86400 := by rw [tdiv_pos h0, wrap64_eq (x := t / 86400) (by omega) (by omega)]
  have c3 : Int.tmod (wrap64 (4 + wrap64 (Int.tdiv t 86400))) 7 = (4 + t / 86400) % 7 := by rw [c2, wrap64_eq (by omega) (by omega), tmod_pos (by omega)]
  have c4 : Int.tmod (wrap64 (t / 86400 + 4)) 7 = (4 + t / 86400) % 7 := by rw [wrap64_eq (by omega) (by omega), tmod_pos (by omega), Int.add_comm]
  have c5 : Int.tmod t 86400 = t % 86400 := tmod_pos h0
  rw [c5] at e2 e3
  rw [c4] at e3
  refine ⟨y, m, d, e1, ?_, ?_⟩
  · unfold date_Of.f date_right.f
    rw [if_pos (show t ≥ 0 by omega), c1, c2, ← c3, c2]
    simp only [Option.bind_some, show decide (t ≤ 253402300799) = true from decide_eq_true h1, if_true]
    rw [← c3, c2] at e2
    exact e2
  · unfold mandolineref06_Of.f
    simp only [show ¬ t < 0 by omega, if_false]
    rw [show decide (t > 253402300799) = false from decide_eq_false (by omega)]
    refine Ev.step (fun k => by rw [mandolineref06_Of.j0]) ?_
    simp only [Bool.false_eq_true, if_false]
    rw [c1, c2]
    exact e3
theorem of_bad (t : Int) (h : ¬ (0 ≤ t ∧ t ≤ 253402300799)) : Ev (fun k => date_Of.f k t) (0, 0, 0, 0, 0) ∧ Ev (fun k => mandolineref06_Of.f k t) (0, 0, 0, 0, 0) := by
  have hj : Ev (fun k => mandolineref06_Of.j0 k t true) (0, 0, 0, 0, 0) := Ev.step (f := fun _ => some (0, 0, 0, 0, 0)) (fun k => by rw [mandolineref06_Of.j0]; simp) (Ev.const rfl)
  unfold date_Of.f date_right.f mandolineref06_Of.f
  by_cases h0 : 0 ≤ t
  · simp only [show t ≥ 0 by omega, show ¬ t < 0 by omega, if_true, if_false]
    rw [show decide (t ≤ 253402300799) = false from decide_eq_false (by omega), show decide (t > 253402300799) = true from decide_eq_true (by omega)]
    exact ⟨Ev.const (by simp), hj⟩
  · simp only [show ¬ t ≥ 0 by omega, show t < 0 by omega, if_true, if_false]
    exact ⟨Ev.const (by simp), hj⟩
/-! ### the tick of a day -/
def tickOf (y m d s : Int) : Int × Int := if (1970 ≤ y ∧ y ≤ 9999) ∧ (1 ≤ m ∧ m ≤ 12) ∧ (1 ≤ d ∧ d ≤ dm y m) ∧ 0 ≤ s ∧ s ≤ 86399 then ((bf y + cum y m.toNat + d - 1) * 86400 + s, 0) else (0, 1)
theorem tick_l0 (s y d w M : Int) (hs0 : 0 ≤ s) (hs : s ≤ 86399) : ∀ (c : Nat) (j : Nat) (x : Int), (j : Int) + c = M → 1 ≤ j → M ≤ 12 → 0 ≤ x → x + 31 * c ≤ 100000000 →
    Ev (fun k => date_Tick.l0 k s x (j : Int) y M d w) ((x + (cum y M.toNat - cum y j)) * 86400 + s, 0) ∧ Ev (fun k => mandolineref06_Tick.l0 k s x (j : Int) y M d w) ((x + (cum y M.toNat - cum y j)) * 86400 + s, 0) := by
  intro c
  induction c with
  | zero =>
    intro j x hj h1 hM h0 hx
    have hlt : ¬ ((j : Int) < M) := by omega
    have e : M.toNat = j := by omega
    rw [e]
    constructor
    · refine Ev.step (fun k => by rw [date_Tick.l0]) ?_
      simp only [hlt, if_false]
      rw [wrap64_eq (x := x * 86400) (by omega) (by omega), wrap64_eq (by omega) (by omega)]
      exact Ev.const (by congr 2; omega)
    · refine Ev.step (fun k => by rw [mandolineref06_Tick.l0]) ?_
      simp only [hlt, if_false]
      rw [wrap64_eq (x := x * 86400) (by omega) (by omega), wrap64_eq (by omega) (by omega)]
      exact Ev.const (by congr 2; omega)
  | succ c ih =>
    intro j x hj h1 hM h0 hx
    have hlt : ((j : Int) < M) := by omega
    have hb := dm_bound y (j : Int)
    have hs := cum_step y j h1
    obtain ⟨i1, i2⟩ := ih (j + 1) (x + dm y j) (by omega) (by omega) hM (by omega) (by omega)
    have e : x + dm y ↑j + (cum y M.toNat - cum y (j + 1)) = x + (cum y M.toNat - cum y j) := by omega
    rw [e] at i1 i2
    constructor
    · refine Ev.step (fun k => by rw [date_Tick.l0]) ?_
      simp only [hlt, if_true]
      refine Ev.bind (days_p y _) ?_
      rw [wrap64_eq (x := x + dm y j) (by omega) (by omega), wrap64_eq (x := (j : Int) + 1) (by omega) (by omega)]
      exact i1
    · refine Ev.step (fun k => by rw [mandolineref06_Tick.l0]) ?_
      simp only [hlt, if_true, days_r, Option.bind_some]
      rw [wrap64_eq (x := x + dm y j) (by omega) (by omega), wrap64_eq (x := (j : Int) + 1) (by omega) (by omega)]
      exact i2
theorem tick_p (y m d w s : Int) : Ev (fun k => date_Tick.f k y m d w s) (tickOf y m d s) := by
  have hj : Ev (fun k => date_Tick.j0 k s true y m d w) (0, 1) := Ev.step (f := fun _ => some (0, 1)) (fun k => by rw [date_Tick.j0]; simp) (Ev.const rfl)
  unfold date_Tick.f tickOf
  by_cases c1 : y < 1970
  · rw [if_neg (by omega)]; simp only [c1, if_true]; exact hj
  by_cases c2 : y > 9999
  · rw [if_neg (by omega)]; simp only [c1, c2, if_true, if_false]; exact hj
  by_cases c3 : m < 1
  · rw [if_neg (by omega)]; simp only [c1, c2, c3, if_true, if_false]; exact hj
  by_cases c4 : m > 12
  · rw [if_neg (by omega)]; simp only [c1, c2, c3, c4, if_true, if_false]; exact hj
  by_cases c5 : d < 1
  · rw [if_neg (by omega)]; simp only [c1, c2, c3, c4, c5, if_true, if_false]; exact hj
  simp only [c1, c2, c3, c4, c5, if_false]
  refine Ev.bind (days_p y m) ?_
  by_cases c6 : d > dm y m
  · rw [if_neg (by omega)]; simp only [c6, if_true]; exact hj
  by_cases c7 : s < 0
  · rw [if_neg (by omega)]; simp only [c6, c7, if_true, if_false]; exact hj
  simp only [c6, c7, if_false]
  by_cases c8 : s ≥ 86400
  · rw [if_neg (by omega), show decide (s ≥ 86400) = true from decide_eq_true c8]; exact hj
  rw [if_pos (by omega), show decide (s ≥ 86400) = false from decide_eq_false c8]
  have hbb := bf_bound (y := y) (by omega) (by omega)
  have hdb := dm_bound y m
  refine Ev.step (fun k => by rw [date_Tick.j0]) ?_
  simp only [Bool.false_eq_true, if_false, ahead_p (y := y) (by omega) (by omega), Option.bind_some]
  rw [wrap64_eq (x := bf y + d) (by omega) (by omega), wrap64_eq (x := bf y + d - 1) (by omega) (by omega)]
  have := (tick_l0 s y d w m (by omega) (by omega) (m - 1).toNat 1 (bf y + d - 1) (by omega) (by omega) (by omega) (by omega) (by omega)).1
  rw [show cum y 1 = 0 from rfl, show bf y + d - 1 + (cum y m.toNat - 0) = bf y + cum y m.toNat + d - 1 by omega] at this
  exact this
theorem right_r (y m d w : Int) : mandolineref06_Right.f y m d w = some (decide ((1970 ≤ y ∧ y ≤ 9999) ∧ (1 ≤ m ∧ m ≤ 12) ∧ (1 ≤ d ∧ d ≤ dm y m))) := by
  unfold mandolineref06_Right.f
  by_cases c1 : y < 1970
  · rw [if_pos c1, decide_eq_false (by omega)]
  by_cases c2 : y > 9999
  · rw [if_neg c1, if_pos c2, decide_eq_false (by omega)]
  by_cases c3 : m < 1
  · rw [if_neg c1, if_neg c2, if_pos c3, decide_eq_false (by omega)]
  by_cases c4 : m > 12
  · rw [if_neg c1, if_neg c2, if_neg c3, if_pos c4, decide_eq_false (by omega)]
  by_cases c5 : d ≥ 1
  · rw [if_neg c1, if_neg c2, if_neg c3, if_neg c4, if_pos c5, days_r, Option.bind_some]
    refine congrArg some ?_
    rw [decide_eq_decide]
    omega
  · rw [if_neg c1, if_neg c2, if_neg c3, if_neg c4, if_neg c5, decide_eq_false (by omega)]
theorem tick_r (y m d w s : Int) : Ev (fun k => mandolineref06_Tick.f k y m d w s) (tickOf y m d s) := by
  have hj : Ev (fun k => mandolineref06_Tick.j0 k s true y m d w) (0, 1) := Ev.step (f := fun _ => some (0, 1)) (fun k => by rw [mandolineref06_Tick.j0]; simp) (Ev.const rfl)
  unfold mandolineref06_Tick.f tickOf
  simp only [right_r, Option.bind_some]
  by_cases c : (1970 ≤ y ∧ y ≤ 9999) ∧ (1 ≤ m ∧ m ≤ 12) ∧ (1 ≤ d ∧ d ≤ dm y m)
  · rw [decide_eq_true c]
    simp only [if_true]
    by_cases c7 : s < 0
    · rw [if_neg (by omega)]; simp only [c7, if_true]; exact hj
    simp only [c7, if_false]
    by_cases c8 : s > 86399
    · rw [if_neg (by omega), show decide (s > 86399) = true from decide_eq_true c8]; exact hj
    rw [if_pos (by omega), show decide (s > 86399) = false from decide_eq_false c8]
    have hbb := bf_bound (y := y) (by omega) (by omega)
    have hdb := dm_bound y m
    refine Ev.step (fun k => by rw [mandolineref06_Tick.j0]) ?_
    simp only [Bool.false_eq_true, if_false, before_r (y := y) (by omega) (by omega), Option.bind_some]
    rw [wrap64_eq (x := bf y + d) (by omega) (by omega), wrap64_eq (x := bf y + d - 1) (by omega) (by omega)]
    have := (tick_l0 s y d w m (by omega) (by omega) (m - 1).toNat 1 (bf y + d - 1) (by omega) (by omega) (by omega) (by omega) (by omega)).2
    rw [show cum y 1 = 0 from rfl, show bf y + d - 1 + (cum y m.toNat - 0) = bf y + cum y m.toNat + d - 1 by omega] at this
    exact this
  · rw [decide_eq_false c, if_neg (by omega)]
    exact hj
theorem IsDay.tick {n y : Int} {m : Nat} {d : Int} (h : IsDay n y m d) {s : Int} (h0 : 0 ≤ s) (h1 : s ≤ 86399) : tickOf y m d s = (n * 86400 + s, 0) := by
  unfold tickOf
  have := h.y1; have := h.y2; have := h.m1; have := h.m2; have := h.d1; have := h.d2
  rw [if_pos ⟨⟨by omega, by omega⟩, ⟨by omega, by omega⟩, ⟨by omega, by omega⟩, h0, h1⟩, Int.toNat_natCast, h.day]
theorem tick_good {y m d s t : Int} (h : tickOf y m d s = (t, 0)) : 0 ≤ t ∧ t ≤ 253402300799 := by
  unfold tickOf at h
  split at h
  · rename_i c
    have hd : IsDay (bf y + cum y m.toNat + d - 1) y m.toNat d := ⟨c.1.1, c.1.2, by omega, by omega, c.2.2.1.1, by rw [Int.toNat_of_nonneg (by omega)]; exact c.2.2.1.2, rfl⟩
    have := hd.range
    have e := (Prod.mk.inj h).1
    omega
  · exact absurd (Prod.mk.inj h).2 (by decide)
end Go.Proofs.YtiifmbajiibciaaDoor.Pure
