/- What both texts, the program's and the document's, read of a text: the tick whose text it is, or that it is none's. Texts are no longer than memory; numbers are 64 bits wide. -/
import Derived.Test.YtiifmbajiibciaaDoorX0
import Derived.Test.YtiifmbajiibciaaDoorX5
import Derived.Test.YtiifmbajiibciaaDoorX7
import Derived.Test.YtiifmbajiibciaaDoorX12
import Derived.Test.YtiifmbajiibciaaDoorX13
import Derived.Test.YtiifmbajiibciaaDoorX15
import Derived.Test.YtiifmbajiibciaaDoorX16
import Derived.Test.YtiifmbajiibciaaDoorPureText
namespace Go.Proofs.YtiifmbajiibciaaDoor.Pure
open Go Go.RowKit Go.Proofs.YtiifmbajiibciaaDoor Go.Proofs.YtiifmbajiibciaaDoor.X Go.Proofs.YtiifmbajiibciaaDoorW.PrintWords
set_option linter.unusedVariables false
set_option linter.unusedSimpArgs false
/-! ### numbers -/
def numL : List UInt8 → Int → Int
  | [], n => n
  | b :: r, n => if 48 ≤ b.toNat ∧ b.toNat ≤ 57 then numL r (10 * n + ((b.toNat : Int) - 48)) else -1
theorem num_l0 (s : ByteArray) (hs : s.size ≤ 4) : ∀ (c i : Nat) (n : Int), i + c = s.size → 0 ≤ n → n < 10 ^ i → Ev (fun k => mandolineref06_number.l0 k s n (i : Int)) (numL (s.data.toList.drop i) n) := by
  intro c
  induction c with
  | zero =>
    intro i n hi h0 hn
    have hlt : ¬ ((i : Int) < (s.size : Int)) := by omega
    refine Ev.step (fun k => by rw [mandolineref06_number.l0]) ?_
    simp only [hlt, if_false]
    rw [List.drop_of_length_le (by rw [← size_list]; omega), numL]
    exact Ev.const rfl
  | succ c ih =>
    intro i n hi h0 hn
    have hlt : ((i : Int) < (s.size : Int)) := by omega
    obtain ⟨b, hd, hb⟩ := bt_drop (s := s) (i := (i : Int)) (by omega) hlt
    rw [show ((i : Int) + 1).toNat = i + 1 by omega, Int.toNat_natCast] at hd
    have hp : (10 : Int) ^ (i + 1) = 10 * 10 ^ i := by rw [Int.pow_succ]; omega
    have hp4 : (10 : Int) ^ i ≤ 1000 := by
      have h3 : i ≤ 3 := by omega
      match i, h3 with
      | 0, _ => decide
      | 1, _ => decide
      | 2, _ => decide
      | 3, _ => decide
    refine Ev.step (fun k => by rw [mandolineref06_number.l0]) ?_
    simp only [hlt, if_true, show (0 : Int) ≤ (i : Int) by omega, hb]
    rw [hd, numL]
    have hbl := byte_lt b
    by_cases c1 : (b.toNat : Int) < 48
    · simp only [c1, if_true]
      rw [if_neg (by omega)]
      exact Ev.const rfl
    simp only [c1, if_false]
    by_cases c2 : (b.toNat : Int) > 57
    · simp only [c2, if_true]
      rw [if_neg (by omega)]
      exact Ev.const rfl
    simp only [c2, if_false]
    rw [if_pos (by omega), wrap64_eq (x := 10 * n) (by omega) (by omega), show ((b.toNat : Int) - 48) % 256 = (b.toNat : Int) - 48 by omega, wrap64_eq (x := 10 * n + ((b.toNat : Int) - 48)) (by omega) (by omega), wrap64_eq (x := (i : Int) + 1) (by omega) (by omega)]
    exact ih (i + 1) _ (by omega) (by omega) (by rw [hp]; omega)
theorem num_r (s : ByteArray) (hs : s.size ≤ 4) : Ev (fun k => mandolineref06_number.f k s) (numL s.data.toList 0) := by
  have := num_l0 s hs s.size 0 0 (by omega) (by omega) (by decide)
  exact this
theorem numL_D {n : Nat} (h : n ≤ 99) : numL (D n) 0 = n := by
  unfold D
  simp only [numL, dgt_nat]
  rw [if_pos (by omega), if_pos (by omega)]
  omega
theorem numL_DD {y : Nat} (h : y ≤ 9999) : numL (D (y / 100) ++ D (y % 100)) 0 = y := by
  unfold D
  simp only [List.cons_append, List.nil_append, numL, dgt_nat]
  rw [if_pos (by omega), if_pos (by omega), if_pos (by omega), if_pos (by omega)]
  omega
theorem atoi_D : ∀ n, n < 100 → Lib.atoi (D n) = some (n : Int) := by decide +kernel
theorem atoi_DD {y : Nat} (h : y ≤ 9999) : Lib.atoi (D (y / 100) ++ D (y % 100)) = some (y : Int) := by
  have h0 : ∀ n, ((dgt n == 45) = false) ∧ ((dgt n == 43) = false) := fun n => by
    have := dgt_nat n
    constructor <;> refine beq_eq_false_iff_ne.mpr fun e => ?_ <;> rw [e] at this <;> simp at this <;> omega
  have hv : ∀ n, Lib.digitVal (dgt n) = some (n % 10) := fun n => by
    have := dgt_nat n
    unfold Lib.digitVal
    rw [if_pos (by omega)]
    congr 1
    omega
  unfold D
  simp only [List.cons_append, List.nil_append, Lib.atoi, (h0 _).1, (h0 _).2, Bool.false_eq_true, if_false, Lib.decNat, Lib.decFrom, hv, Option.map_some, List.isEmpty_cons]
  refine congrArg some ?_
  omega
/-! ### a text's parts -/
theorem three {l : List UInt8} (h : l.length = 3) : ∃ a b c, l = [a, b, c] := by
  match l, h with
  | [a, b, c], _ => exact ⟨a, b, c, rfl⟩
structure Cuts (a0 : ByteArray) (wk d mo y s : Nat) : Prop where
  size : a0.size = 29
  year : (a0.extract 12 16).data.toList = D (y / 100) ++ D (y % 100)
  date : (a0.extract 5 7).data.toList = D d
  month : (a0.extract 8 11) = bs (moL mo)
  hour : (a0.extract 17 19).data.toList = D (s / 3600)
  min : (a0.extract 20 22).data.toList = D (s / 60 % 60)
  sec : (a0.extract 23 25).data.toList = D (s % 60)
theorem cuts {wk d mo y s : Nat} (h1 : wk < 7) (h2 : mo < 12) : Cuts (bs (textL wk d mo y s)) wk d mo y s := by
  obtain ⟨a, b, c, e1⟩ := three (wk_len wk h1)
  obtain ⟨a', b', c', e2⟩ := three (mo_len mo h2)
  have hl : textL wk d mo y s = [a, b, c, 44, 32, dgt (d / 10), dgt d, 32, a', b', c', 32, dgt (y / 100 / 10), dgt (y / 100), dgt (y % 100 / 10), dgt (y % 100), 32, dgt (s / 3600 / 10), dgt (s / 3600), 58, dgt (s / 60 % 60 / 10), dgt (s / 60 % 60), 58, dgt (s % 60 / 10), dgt (s % 60), 32, 71, 77, 84] := by
    unfold textL D
    rw [e1, e2]
    rfl
  refine ⟨?_, ?_, ?_, ?_, ?_, ?_, ?_⟩
  · rw [bs_size, hl]; rfl
  · rw [extract_list, bs_list, hl]; rfl
  · rw [extract_list, bs_list, hl]; rfl
  · refine ext_list ?_
    rw [extract_list, bs_list, hl, bs_list, e2]; rfl
  · rw [extract_list, bs_list, hl]; rfl
  · rw [extract_list, bs_list, hl]; rfl
  · rw [extract_list, bs_list, hl]; rfl
/-- The text of a tick. -/
def IsText (t : Int) (a0 : ByteArray) : Prop := 0 ≤ t ∧ t ≤ 253402300799 ∧ ∃ (y d s wk m : Nat), IsDay (t / 86400) y m d ∧ t % 86400 = s ∧ (4 + t / 86400) % 7 = wk ∧ a0 = bs (textL wk d (m - 1) y s)
theorem IsText.told {t : Int} {a0 : ByteArray} (h : IsText t a0) : Ev (fun k => date_Text.f k t) (a0, 0) ∧ Ev (fun k => mandolineref06_Text.f k t) (a0, 0) := by
  obtain ⟨h0, h1, y, d, s, wk, m, e1, e2, e3, rfl⟩ := h
  exact ⟨text_p h0 h1 e1 e2 e3, text_r h0 h1 e1 e2 e3⟩
theorem isText {t : Int} (h0 : 0 ≤ t) (h1 : t ≤ 253402300799) : ∃ a0, IsText t a0 := by
  obtain ⟨y, d, s, wk, m, e1, e2, e3⟩ := parts h0 h1
  exact ⟨_, h0, h1, y, d, s, wk, m, e1, e2, e3, rfl⟩
theorem find_mo : ∀ i, i < 12 → date_Parse.find (bs (moL i)) 12 0 = (i : Int) := by decide +kernel
/-! ### the program -/
theorem parse_good {t : Int} {a0 : ByteArray} (h : IsText t a0) : Ev (fun k => date_Parse.f k a0) (t, 0) := by
  have ht := h.told.1
  obtain ⟨h0, h1, y, d, s, wk, m, e1, e2, e3, e4⟩ := h
  have hy1 := e1.y1; have hy2 := e1.y2; have hm1 := e1.m1; have hm2 := e1.m2; have hd1 := e1.d1; have hd2 := e1.d2
  have hdm := dm_bound y m
  have hs1 : s ≤ 86399 := by omega
  have hc : Cuts a0 wk d (m - 1) y s := by rw [e4]; exact cuts (by omega) (by omega)
  unfold date_Parse.f
  simp only [hc.size, if_true]
  have n1 : date_Parse.num a0 12 16 = y := by unfold date_Parse.num; rw [hc.year, atoi_DD (by omega)]; rfl
  have n2 : date_Parse.num a0 5 7 = d := by unfold date_Parse.num; rw [hc.date, atoi_D _ (by omega)]; rfl
  have n3 : date_Parse.num a0 17 19 = (s / 3600 : Nat) := by unfold date_Parse.num; rw [hc.hour, atoi_D _ (by omega)]; rfl
  have n4 : date_Parse.num a0 20 22 = (s / 60 % 60 : Nat) := by unfold date_Parse.num; rw [hc.min, atoi_D _ (by omega)]; rfl
  have n5 : date_Parse.num a0 23 25 = (s % 60 : Nat) := by unfold date_Parse.num; rw [hc.sec, atoi_D _ (by omega)]; rfl
  have n6 : date_Parse.sec a0 = s := by
    unfold date_Parse.sec
    rw [n3, n4, n5]
    simp (disch := omega) only [wrap64_eq]
    omega
  have n7 : wrap64 (date_Parse.find (a0.extract 8 11) 12 0 + 1) = m := by
    rw [hc.month, find_mo _ (by omega), wrap64_eq (by omega) (by omega)]
    omega
  rw [n1, n2, n6, n7]
  have hk := tick_p y m d 0 s
  rw [e1.tick (by omega) (by omega), show t / 86400 * 86400 + (s : Int) = t by omega] at hk
  refine Ev.bind hk ?_
  simp only [if_true]
  exact Ev.bind ht (Ev.const (by simp))
theorem parse_bad {a0 : ByteArray} (h : ∀ t, ¬ IsText t a0) : Ev (fun k => date_Parse.f k a0) (0, 2) := by
  unfold date_Parse.f
  by_cases hs : a0.size = 29
  · simp only [hs, if_true]
    obtain ⟨⟨t, e⟩, hte⟩ : ∃ p, tickOf (date_Parse.num a0 12 16) (wrap64 (date_Parse.find (a0.extract 8 11) 12 0 + 1)) (date_Parse.num a0 5 7) (date_Parse.sec a0) = p := ⟨_, rfl⟩
    have hk := tick_p (date_Parse.num a0 12 16) (wrap64 (date_Parse.find (a0.extract 8 11) 12 0 + 1)) (date_Parse.num a0 5 7) 0 (date_Parse.sec a0)
    rw [hte] at hk
    refine Ev.bind hk ?_
    by_cases he : e = 0
    · subst he
      simp only [if_true]
      obtain ⟨h0, h1⟩ := tick_good hte
      obtain ⟨x, hx⟩ := isText h0 h1
      refine Ev.bind hx.told.1 (Ev.const ?_)
      have hne : ¬ (x.toList = a0.toList) := fun e => h t (by
        have : x = a0 := ext_list (by rw [← toList_data, ← toList_data, e])
        rw [← this]; exact hx)
      rw [if_neg hne]
    · simp only [he, if_false]
      exact Ev.const rfl
  · simp only [hs, if_false]
    exact Ev.const rfl
/-! ### the document's -/
def rmon (t : List UInt8) : Nat → Nat → Int → Int
  | 0, _, cur => cur
  | c + 1, i, cur => rmon t c (i + 1) (if moL (i - 1) = t then (i : Int) else cur)
theorem rmon_mo : ∀ i, i < 12 → rmon (moL i) 12 1 0 = ((i + 1 : Nat) : Int) := by decide +kernel
theorem month_word {i : Nat} (h1 : 1 ≤ i) (h2 : i ≤ 12) : (⟨#[74, 97, 110, 70, 101, 98, 77, 97, 114, 65, 112, 114, 77, 97, 121, 74, 117, 110, 74, 117, 108, 65, 117, 103, 83, 101, 112, 79, 99, 116, 78, 111, 118, 68, 101, 99]⟩ : ByteArray).extract (3 * i - 3) (3 * i) = bs (moL (i - 1)) := by
  unfold moL
  rw [bs_of, show 3 * (i - 1) = 3 * i - 3 by omega, show 3 * i - 3 + 3 = 3 * i by omega]
  rfl
/-- Behind the months: what is read of the clock, and told again. -/
def Rest (a0 : ByteArray) (y M d : Int) (r : Int × Int) : Prop := Ev (fun k => mandolineref06_Parse.l0 k a0 13 y M d 0) r
theorem months_l0 (a0 : ByteArray) (hs : a0.size = 29) (y d : Int) (r : Int × Int) : ∀ (c i : Nat) (cur : Int), i + c = 13 → 1 ≤ i → Rest a0 y (rmon (a0.extract 8 11).data.toList c i cur) d r → Ev (fun k => mandolineref06_Parse.l0 k a0 (i : Int) y cur d 0) r := by
  intro c
  induction c with
  | zero =>
    intro i cur hi h1 h
    obtain rfl : i = 13 := by omega
    exact h
  | succ c ih =>
    intro i cur hi h1 h
    have hle : ((i : Int) ≤ 12) := by omega
    have c1 : wrap64 (3 * (i : Int)) = ((3 * i : Nat) : Int) := by rw [wrap64_eq (by omega) (by omega)]; omega
    have c2 : wrap64 (((3 * i : Nat) : Int) - 3) = ((3 * i - 3 : Nat) : Int) := by rw [wrap64_eq (by omega) (by omega)]; omega
    have c3 : wrap64 ((i : Int) + 1) = ((i + 1 : Nat) : Int) := by rw [wrap64_eq (by omega) (by omega)]; omega
    have z2 : ((⟨#[74, 97, 110, 70, 101, 98, 77, 97, 114, 65, 112, 114, 77, 97, 121, 74, 117, 110, 74, 117, 108, 65, 117, 103, 83, 101, 112, 79, 99, 116, 78, 111, 118, 68, 101, 99]⟩ : ByteArray).size : Int) = 36 := rfl
    have hs' : (a0.size : Int) = 29 := by omega
    rw [rmon] at h
    refine Ev.step (fun k => by rw [mandolineref06_Parse.l0]) ?_
    simp only [hle, if_true, mandolineref06_months.f, Option.bind_some, c1, c2, z2, Int.toNat_natCast, month_word h1 (show i ≤ 12 by omega), hs', c3]
    simp only [show (0 : Int) ≤ ((3 * i - 3 : Nat) : Int) by omega, show ((3 * i - 3 : Nat) : Int) ≤ ((3 * i : Nat) : Int) by omega, show ((3 * i : Nat) : Int) ≤ 36 by omega, show (8 : Int) ≤ 11 by decide, show (8 : Nat) ≤ 11 by decide, show (11 : Int) ≤ 29 by decide, if_true, bs_toList, toList_data, bs_list]
    by_cases e : moL (i - 1) = (a0.extract 8 11).data.toList
    · simp only [e, if_true] at h ⊢
      exact ih (i + 1) _ (by omega) (by omega) h
    · simp only [e, if_false] at h ⊢
      exact ih (i + 1) _ (by omega) (by omega) h
theorem size_le (a0 : ByteArray) {a b : Nat} (h : b - a ≤ 4) : (a0.extract a b).size ≤ 4 := by rw [ByteArray.size_extract]; omega
theorem clock_rest (a0 : ByteArray) (hs : a0.size = 29) (y M d : Int) (r : Int × Int) (h mi se : Int) (e1 : numL (a0.extract 17 19).data.toList 0 = h) (e2 : numL (a0.extract 20 22).data.toList 0 = mi) (e3 : numL (a0.extract 23 25).data.toList 0 = se)
    (hbad : ¬ ((0 ≤ h ∧ h ≤ 23) ∧ (0 ≤ mi ∧ mi ≤ 59) ∧ 0 ≤ se ∧ se ≤ 59) → r = (0, 2))
    (hgood : (0 ≤ h ∧ h ≤ 23) ∧ (0 ≤ mi ∧ mi ≤ 59) ∧ 0 ≤ se ∧ se ≤ 59 → Ev (fun k => mandolineref06_Parse.j1 k a0 h mi se false y M d 0) r) : Rest a0 y M d r := by
  have hj : ∀ h mi se, Ev (fun k => mandolineref06_Parse.j1 k a0 h mi se true y M d 0) (0, 2) := fun h mi se => Ev.step (f := fun _ => some (0, 2)) (fun k => by rw [mandolineref06_Parse.j1]; simp) (Ev.const rfl)
  have hs' : (a0.size : Int) = 29 := by omega
  unfold Rest
  refine Ev.step (fun k => by rw [mandolineref06_Parse.l0]) ?_
  simp only [show ¬ ((13 : Int) ≤ 12) by decide, if_false, show (17 : Int) ≤ 19 by decide, show (20 : Int) ≤ 22 by decide, show (23 : Int) ≤ 25 by decide, hs', show (19 : Int) ≤ 29 by decide, show (22 : Int) ≤ 29 by decide, show (25 : Int) ≤ 29 by decide, if_true]
  have n1 := num_r (a0.extract 17 19) (size_le a0 (by decide))
  have n2 := num_r (a0.extract 20 22) (size_le a0 (by decide))
  have n3 := num_r (a0.extract 23 25) (size_le a0 (by decide))
  rw [e1] at n1; rw [e2] at n2; rw [e3] at n3
  refine Ev.bind n1 (Ev.bind n2 (Ev.bind n3 ?_))
  by_cases c1 : h < 0
  · simp only [c1, if_true]; rw [hbad (by omega)]; exact hj _ _ _
  by_cases c2 : h > 23
  · simp only [c1, c2, if_true, if_false]; rw [hbad (by omega)]; exact hj _ _ _
  by_cases c3 : mi < 0
  · simp only [c1, c2, c3, if_true, if_false]; rw [hbad (by omega)]; exact hj _ _ _
  by_cases c4 : mi > 59
  · simp only [c1, c2, c3, c4, if_true, if_false]; rw [hbad (by omega)]; exact hj _ _ _
  by_cases c5 : se < 0
  · simp only [c1, c2, c3, c4, c5, if_true, if_false]; rw [hbad (by omega)]; exact hj _ _ _
  simp only [c1, c2, c3, c4, c5, if_false]
  by_cases c6 : se > 59
  · rw [show decide (se > 59) = true from decide_eq_true c6, hbad (by omega)]; exact hj _ _ _
  · rw [show decide (se > 59) = false from decide_eq_false c6]
    exact hgood (by omega)
theorem ref_parse (a0 : ByteArray) (hs : a0.size = 29) (r : Int × Int) (h : Rest a0 (numL (a0.extract 12 16).data.toList 0) (rmon (a0.extract 8 11).data.toList 12 1 0) (numL (a0.extract 5 7).data.toList 0) r) : Ev (fun k => mandolineref06_Parse.f k a0) r := by
  have hs' : (a0.size : Int) = 29 := by omega
  unfold mandolineref06_Parse.f
  simp only [hs', if_true, show (12 : Int) ≤ 16 by decide, show (16 : Int) ≤ 29 by decide, show (5 : Int) ≤ 7 by decide, show (7 : Int) ≤ 29 by decide]
  exact Ev.bind (num_r (a0.extract 12 16) (size_le a0 (by decide))) (Ev.bind (num_r (a0.extract 5 7) (size_le a0 (by decide))) (months_l0 a0 hs _ _ r 12 1 0 (by omega) (by omega) h))
theorem rparse_good {t : Int} {a0 : ByteArray} (h : IsText t a0) : Ev (fun k => mandolineref06_Parse.f k a0) (t, 0) := by
  have ht := h.told.2
  obtain ⟨h0, h1, y, d, s, wk, m, e1, e2, e3, e4⟩ := h
  have hy1 := e1.y1; have hy2 := e1.y2; have hm1 := e1.m1; have hm2 := e1.m2; have hd1 := e1.d1; have hd2 := e1.d2
  have hdm := dm_bound y m
  have hs1 : s ≤ 86399 := by omega
  have hc : Cuts a0 wk d (m - 1) y s := by rw [e4]; exact cuts (by omega) (by omega)
  refine ref_parse a0 hc.size _ ?_
  rw [hc.year, hc.date, hc.month, bs_list, numL_DD (by omega), numL_D (by omega), rmon_mo _ (by omega), show m - 1 + 1 = m by omega]
  refine clock_rest a0 hc.size _ _ _ _ ((s / 3600 : Nat) : Int) ((s / 60 % 60 : Nat) : Int) ((s % 60 : Nat) : Int) (by rw [hc.hour, numL_D (by omega)]) (by rw [hc.min, numL_D (by omega)]) (by rw [hc.sec, numL_D (by omega)]) (fun hb => absurd (by omega) hb) (fun _ => ?_)
  refine Ev.step (fun k => by rw [mandolineref06_Parse.j1]) ?_
  simp only [Bool.false_eq_true, if_false]
  have n6 : wrap64 (wrap64 (wrap64 (3600 * ((s / 3600 : Nat) : Int)) + wrap64 (60 * ((s / 60 % 60 : Nat) : Int))) + ((s % 60 : Nat) : Int)) = s := by
    simp (disch := omega) only [wrap64_eq]
    omega
  rw [n6]
  clear n6
  have hk := tick_r y m d 0 s
  rw [e1.tick (by omega) (by omega), show t / 86400 * 86400 + (s : Int) = t by omega] at hk
  refine Ev.bind hk ?_
  simp only [if_true]
  exact Ev.bind ht (Ev.const (by simp))
theorem rparse_bad {a0 : ByteArray} (h : ∀ t, ¬ IsText t a0) : Ev (fun k => mandolineref06_Parse.f k a0) (0, 2) := by
  by_cases hs : a0.size = 29
  · refine ref_parse a0 hs _ (clock_rest a0 hs _ _ _ _ _ _ _ rfl rfl rfl (fun _ => rfl) (fun _ => ?_))
    generalize numL (a0.extract 12 16).data.toList 0 = y
    generalize numL (a0.extract 5 7).data.toList 0 = d
    generalize rmon (a0.extract 8 11).data.toList 12 1 0 = m
    refine Ev.step (fun k => by rw [mandolineref06_Parse.j1]) ?_
    simp only [Bool.false_eq_true, if_false]
    generalize wrap64 (wrap64 (wrap64 (3600 * numL (a0.extract 17 19).data.toList 0) + wrap64 (60 * numL (a0.extract 20 22).data.toList 0)) + numL (a0.extract 23 25).data.toList 0) = s
    obtain ⟨⟨t, e⟩, hte⟩ : ∃ p, tickOf y m d s = p := ⟨_, rfl⟩
    have hk := tick_r y m d 0 s
    rw [hte] at hk
    refine Ev.bind hk ?_
    by_cases he : e = 0
    · subst he
      simp only [if_true]
      obtain ⟨h0, h1⟩ := tick_good hte
      obtain ⟨x, hx⟩ := isText h0 h1
      refine Ev.bind hx.told.2 (Ev.const ?_)
      have hne : ¬ (x.toList = a0.toList) := fun e => h t (by
        have : x = a0 := ext_list (by rw [← toList_data, ← toList_data, e])
        rw [← this]; exact hx)
      rw [if_neg hne]
    · simp only [he, if_false]
      exact Ev.const rfl
  · unfold mandolineref06_Parse.f
    have hs' : ¬ ((a0.size : Int) = 29) := by omega
    simp only [hs', if_false]
    exact Ev.const rfl
end Go.Proofs.YtiifmbajiibciaaDoor.Pure
