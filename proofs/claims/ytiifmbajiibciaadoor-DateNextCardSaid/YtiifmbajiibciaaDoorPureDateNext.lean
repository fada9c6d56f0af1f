/- DateNext, in plain words: a day later it is the next day of the week, of the same second, and the next date. Numbers are 64 bits wide. -/
import Derived.Test.YtiifmbajiibciaaDoorX0
import Derived.Test.YtiifmbajiibciaaDoorX18
import Derived.Test.YtiifmbajiibciaaDoorPureAwake
namespace Go.Proofs.YtiifmbajiibciaaDoor.Pure
open Go Go.RowKit Go.Proofs.YtiifmbajiibciaaDoor Go.Proofs.YtiifmbajiibciaaDoor.X Go.Proofs.YtiifmbajiibciaaDoorW.PrintWords
set_option linter.unusedVariables false
set_option linter.unusedSimpArgs false
theorem DateNext (a0 : Int) (g0 : (Lit.int .i64 a0).wf = true) : ∃ k, mandolinelaw06_DateNext.f k a0 = some true := by
  refine Ev.ends ?_
  unfold mandolinelaw06_DateNext.f
  refine Ev.bind wakes_ok ?_
  simp only [if_true]
  have hj : Ev (fun k => mandolinelaw06_DateNext.j0 k a0 true) true := Ev.step (f := fun _ => some true) (fun k => by rw [mandolinelaw06_DateNext.j0]; simp) (Ev.const rfl)
  by_cases h0 : a0 < 0
  · simp only [h0, if_true]; exact hj
  simp only [h0, if_false]
  by_cases h1 : a0 > 253402214399
  · simp only [h1, decide_true]; exact hj
  simp only [h1, decide_false]
  obtain ⟨y, m, d, e1, e2, _⟩ := of_ok a0 (by omega) (by omega)
  obtain ⟨y', m', d', f1, f2, _⟩ := of_ok (a0 + 86400) (by omega) (by omega)
  have hn : (a0 + 86400) / 86400 = a0 / 86400 + 1 := by omega
  have hs : (a0 + 86400) % 86400 = a0 % 86400 := by omega
  rw [hn, hs] at f2
  rw [hn] at f1
  refine Ev.step (fun k => by rw [mandolinelaw06_DateNext.j0]) ?_
  simp only [Bool.false_eq_true, if_false]
  refine Ev.bind e2 ?_
  rw [wrap64_eq (x := a0 + 86400) (by omega) (by omega)]
  refine Ev.bind f2 ?_
  simp only [if_true]
  have hw : ((4 + (a0 / 86400 + 1)) % 7 != Int.tmod (wrap64 ((4 + a0 / 86400) % 7 + 1)) 7) = false := by
    rw [wrap64_eq (by omega) (by omega), tmod_pos (by omega)]
    exact bne_eq_false_iff_eq.mpr (by omega)
  rw [hw]
  refine Ev.step (fun k => by rw [mandolinelaw06_DateNext.j1]) (Ev.const ?_)
  simp only [Bool.false_eq_true, if_false]
  have hm1 := e1.m1; have hm2 := e1.m2; have hd1 := e1.d1; have hd2 := e1.d2; have hday := e1.day; have hy1 := e1.y1; have hy2 := e1.y2
  have hdm := dm_bound y m
  by_cases c1 : d < dm y m
  · obtain ⟨rfl, rfl, rfl⟩ := f1.uniq (⟨hy1, hy2, hm1, hm2, by omega, by omega, by omega⟩ : IsDay (a0 / 86400 + 1) y m (d + 1))
    rw [wrap64_eq (x := d + 1) (by omega) (by omega), if_neg (by omega), if_pos rfl, if_pos rfl]
    simp
  have hd : d = dm y m := by omega
  by_cases c2 : m < 12
  · have hc := cum_step y m hm1
    obtain ⟨rfl, rfl, rfl⟩ := f1.uniq (⟨hy1, hy2, by omega, by omega, by omega, by have := dm_bound y ((m + 1 : Nat) : Int); omega, by omega⟩ : IsDay (a0 / 86400 + 1) y (m + 1) 1)
    rw [if_pos rfl, if_neg (by omega), if_pos (by omega), if_pos (by omega), wrap64_eq (by omega) (by omega), if_pos (by omega)]
    simp
  · obtain rfl : m = 12 := by omega
    have h13 := cum_13 y
    rw [show (13 : Nat) = 12 + 1 from rfl, cum_step y 12 (by omega)] at h13
    have hst := bf_step y
    have hy : y + 1 ≤ 9999 := by
      have a := f1.inYear
      have b := f1.range
      by_cases hc : y = 9999
      · rw [hc] at hst h13 hday hd
        have := bf_last
        rw [show (9999 : Int) + 1 = 10000 from rfl] at hst
        omega
      · omega
    obtain ⟨rfl, rfl, rfl⟩ := f1.uniq (⟨by omega, hy, by omega, by omega, by omega, by have := dm_bound (y + 1) ((1 : Nat) : Int); omega, by simp only [cum]; omega⟩ : IsDay (a0 / 86400 + 1) (y + 1) 1 1)
    have h31 : dm y ((12 : Nat) : Int) = 31 := by unfold dm; simp
    rw [if_pos rfl, if_pos (show ((1 : Nat) : Int) = 1 from rfl), if_pos (show d = 31 by omega), if_pos (show ((12 : Nat) : Int) = 12 from rfl), wrap64_eq (by omega) (by omega)]
    simp
end Go.Proofs.YtiifmbajiibciaaDoor.Pure
