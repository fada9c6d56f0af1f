/- ControlMix, in plain words: a directive's work does not hang on its place, and a comma parts a value whose quotes are closed. Texts are no longer than the form's reach. -/
import Derived.Test.YtmapdckelbobiaaDoorX0
import Derived.Test.YtmapdckelbobiaaDoorX3
import Derived.Test.YtmapdckelbobiaaDoorX18
import Derived.Test.YtmapdckelbobiaaDoorPureAwake
import Derived.Test.YtmapdckelbobiaaDoorPureParse
namespace Go.Proofs.YtmapdckelbobiaaDoor.Pure
open Go Go.RowKit Go.Proofs.YtmapdckelbobiaaDoor Go.Proofs.YtmapdckelbobiaaDoor.X Go.Proofs.YtmapdckelbobiaaDoorW.PrintWords
set_option linter.unusedVariables false
set_option linter.unusedSimpArgs false
/-! ### one directive, and another -/
theorem less_comm (k1 k2 : Bool) (n1 n2 x : Int) (h1 : k1 = true → 0 ≤ n1) (h2 : k2 = true → 0 ≤ n2) : control_Rule_say.less k1 n1 (control_Rule_say.less k2 n2 x) = control_Rule_say.less k2 n2 (control_Rule_say.less k1 n1 x) := by
  unfold control_Rule_say.less
  cases k1 with
  | false => simp
  | true =>
    cases k2 with
    | false => simp
    | true =>
      have := h1 rfl
      have := h2 rfl
      simp only [true_and]
      repeat' split
      all_goals omega
theorem less_idem (k : Bool) (n x : Int) : control_Rule_say.less k n (control_Rule_say.less k n x) = control_Rule_say.less k n x := by
  unfold control_Rule_say.less
  cases k with
  | false => simp
  | true =>
    simp only [true_and]
    repeat' split
    all_goals omega
def lessIf (p : Prop) [Decidable p] (k : Bool) (n x : Int) : Int := if p then control_Rule_say.less k n x else x
theorem lessIf_comm (p q : Prop) [Decidable p] [Decidable q] (k1 k2 : Bool) (n1 n2 x : Int) (h1 : k1 = true → 0 ≤ n1) (h2 : k2 = true → 0 ≤ n2) : lessIf p k1 n1 (lessIf q k2 n2 x) = lessIf q k2 n2 (lessIf p k1 n1 x) := by
  unfold lessIf
  by_cases hp : p
  · by_cases hq : q
    · simp only [if_pos hp, if_pos hq]; exact less_comm k1 k2 n1 n2 x h1 h2
    · simp only [if_neg hq]
  · simp only [if_neg hp]
theorem lessIf_idem (p : Prop) [Decidable p] (k : Bool) (n x : Int) : lessIf p k n (lessIf p k n x) = lessIf p k n x := by
  unfold lessIf
  by_cases hp : p
  · simp only [if_pos hp]; exact less_idem k n x
  · simp only [if_neg hp]
def orIf (p : Prop) [Decidable p] (b : Bool) : Bool := if p then true else b
theorem orIf_comm (p q : Prop) [Decidable p] [Decidable q] (b : Bool) : orIf p (orIf q b) = orIf q (orIf p b) := by
  unfold orIf
  by_cases hp : p <;> by_cases hq : q <;> simp [hp, hq]
theorem orIf_idem (p : Prop) [Decidable p] (b : Bool) : orIf p (orIf p b) = orIf p b := by
  unfold orIf
  by_cases hp : p <;> simp [hp]
def K1 : List UInt8 := [109, 97, 120, 45, 97, 103, 101]
def K2 : List UInt8 := [115, 45, 109, 97, 120, 97, 103, 101]
def K3 : List UInt8 := [115, 116, 97, 108, 101, 45, 119, 104, 105, 108, 101, 45, 114, 101, 118, 97, 108, 105, 100, 97, 116, 101]
def K4 : List UInt8 := [115, 116, 97, 108, 101, 45, 105, 102, 45, 101, 114, 114, 111, 114]
def K5 : List UInt8 := [110, 111, 45, 115, 116, 111, 114, 101]
def K6 : List UInt8 := [110, 111, 45, 99, 97, 99, 104, 101]
def K7 : List UInt8 := [112, 114, 105, 118, 97, 116, 101]
def each (m : List UInt8) (k : Bool) (n : Int) (r : R7) : R7 := (lessIf (m = K1) k n r.1, lessIf (m = K2) k n r.2.1, lessIf (m = K3) k n r.2.2.1, lessIf (m = K4) k n r.2.2.2.1, orIf (m = K5) r.2.2.2.2.1, orIf (m = K6) r.2.2.2.2.2.1, orIf (m = K7) r.2.2.2.2.2.2)
theorem upd_each (m : List UInt8) (k : Bool) (n : Int) (r : R7) : control_Rule_say.upd m k n r.1 r.2.1 r.2.2.1 r.2.2.2.1 r.2.2.2.2.1 r.2.2.2.2.2.1 r.2.2.2.2.2.2 = each m k n r := by
  obtain ⟨a, b, c, d, e, f, g⟩ := r
  unfold each lessIf orIf
  show control_Rule_say.upd m k n a b c d e f g = _
  by_cases c1 : m = K1
  · subst c1; rfl
  by_cases c2 : m = K2
  · subst c2; rfl
  by_cases c3 : m = K3
  · subst c3; rfl
  by_cases c4 : m = K4
  · subst c4; rfl
  by_cases c5 : m = K5
  · subst c5; rfl
  by_cases c6 : m = K6
  · subst c6; rfl
  by_cases c7 : m = K7
  · subst c7; rfl
  simp only [if_neg c1, if_neg c2, if_neg c3, if_neg c4, if_neg c5, if_neg c6, if_neg c7]
  unfold control_Rule_say.upd
  rw [if_neg (show ¬ m = [109, 97, 120, 45, 97, 103, 101] from c1), if_neg (show ¬ m = [115, 45, 109, 97, 120, 97, 103, 101] from c2), if_neg (show ¬ m = [115, 116, 97, 108, 101, 45, 119, 104, 105, 108, 101, 45, 114, 101, 118, 97, 108, 105, 100, 97, 116, 101] from c3), if_neg (show ¬ m = [115, 116, 97, 108, 101, 45, 105, 102, 45, 101, 114, 114, 111, 114] from c4), if_neg (show ¬ m = [110, 111, 45, 115, 116, 111, 114, 101] from c5), if_neg (show ¬ m = [110, 111, 45, 99, 97, 99, 104, 101] from c6), if_neg (show ¬ m = [112, 114, 105, 118, 97, 116, 101] from c7)]
theorem numP_ok (l : List UInt8) : (numP l).2 = true → 0 ≤ (numP l).1 := by
  unfold numP
  cases h : numF l with
  | none => intro e; cases e
  | some m => intro _; exact (numF_bound h).1
theorem say_comm (r : R7) (x y : List UInt8) : sayP (sayP r x) y = sayP (sayP r y) x := by
  unfold sayP tellP
  simp only [upd_each]
  unfold each
  have hx := numP_ok (quoL (argL x))
  have hy := numP_ok (quoL (argL y))
  simp only [lessIf_comm _ _ _ _ _ _ _ hy hx, orIf_comm (lowL (nameL y) = _)]
theorem say_idem (r : R7) (x : List UInt8) : sayP (sayP r x) x = sayP r x := by
  unfold sayP tellP
  simp only [upd_each]
  unfold each
  simp only [lessIf_idem, orIf_idem]
theorem fold_one (x : List UInt8) : ∀ (l : List (List UInt8)) (r : R7), sayP (l.foldl sayP r) x = l.foldl sayP (sayP r x)
  | [], _ => rfl
  | y :: l, r => by
    rw [List.foldl_cons, List.foldl_cons, fold_one x l, say_comm]
theorem fold_two (l : List (List UInt8)) : ∀ (m : List (List UInt8)) (r : R7), m.foldl sayP (l.foldl sayP r) = l.foldl sayP (m.foldl sayP r)
  | [], _ => rfl
  | x :: m, r => by
    rw [List.foldl_cons, List.foldl_cons, fold_one x l, fold_two l m]
theorem fold_idem : ∀ (l : List (List UInt8)) (r : R7), l.foldl sayP (l.foldl sayP r) = l.foldl sayP r
  | [], _ => rfl
  | x :: l, r => by
    rw [List.foldl_cons, List.foldl_cons, fold_one x l, say_idem, fold_idem l]
theorem val_comm (r : R7) (a b : ByteArray) : valP (valP r a) b = valP (valP r b) a := fold_two _ _ r
theorem val_idem (r : R7) (a : ByteArray) : valP (valP r a) a = valP r a := fold_idem _ r
theorem mix1 (a b c : ByteArray) : parseP [c, a, b] = parseP [a, b, c] := by
  show valP (valP (valP r0 c) a) b = valP (valP (valP r0 a) b) c
  rw [val_comm r0 c a, val_comm _ c b]
theorem mix2 (a b c : ByteArray) : parseP [b, a, c, a] = parseP [a, b, c] := by
  show valP (valP (valP (valP r0 b) a) c) a = valP (valP (valP r0 a) b) c
  rw [val_comm _ c a, val_idem, val_comm r0 b a]
/-! ### a comma between -/
def par : Bool → List UInt8 → Bool
  | q, [] => q
  | q, b :: l => par (if b = 34 then !q else q) l
theorem cutC_comma (m : List UInt8) : ∀ (l cur : List UInt8) (q : Bool), par q l = false → cutC cur q (l ++ 44 :: m) = cutC cur q l ++ cutC [] false m
  | [], cur, q, h => by
    have hq : q = false := h
    subst hq
    rw [List.nil_append, cutC, cutC, if_neg (by decide), if_pos ⟨rfl, rfl⟩]
    rfl
  | b :: l, cur, q, h => by
    rw [par] at h
    rw [List.cons_append, cutC, cutC]
    by_cases h34 : b = 34
    · rw [if_pos h34] at h ⊢
      rw [if_pos h34]
      exact cutC_comma m l _ _ h
    · rw [if_neg h34] at h ⊢
      rw [if_neg h34]
      by_cases hc : b = 44 ∧ q = false
      · rw [if_pos hc, if_pos hc]
        have hq := hc.2
        subst hq
        rw [cutC_comma m l _ _ h]
        rfl
      · rw [if_neg hc, if_neg hc]
        exact cutC_comma m l _ _ h
theorem mix3 (a b c : ByteArray) (h : par false a.data.toList = false) : parseP [(a ++ (⟨#[44]⟩ : ByteArray)) ++ b, c] = parseP [a, b, c] := by
  have e : valP r0 ((a ++ (⟨#[44]⟩ : ByteArray)) ++ b) = valP (valP r0 a) b := by
    unfold valP
    rw [append_list, append_list]
    have e1 : a.data.toList ++ (⟨#[44]⟩ : ByteArray).data.toList ++ b.data.toList = a.data.toList ++ 44 :: b.data.toList := by rw [List.append_assoc]; rfl
    rw [e1]
    unfold dirL
    rw [cutC_comma _ _ _ _ h, List.map_append, List.foldl_append]
  show valP (valP r0 _) c = valP (valP (valP r0 a) b) c
  rw [e]
def cnt : List UInt8 → Nat
  | [] => 0
  | b :: l => (if b = 34 then 1 else 0) + cnt l
theorem par_cnt : ∀ (l : List UInt8) (q : Bool), cnt l % 2 = (if par q l = q then 0 else 1)
  | [], q => by rw [par, if_pos rfl]; rfl
  | b :: l, q => by
    rw [par, cnt]
    by_cases h : b = 34
    · rw [if_pos h, if_pos h]
      have ih := par_cnt l (!q)
      generalize par (!q) l = z at ih ⊢
      cases q <;> cases z <;> simp at ih ⊢ <;> omega
    · rw [if_neg h, if_neg h]
      have ih := par_cnt l q
      omega
theorem eqs (r : R7) : (r.1 == r.1 && (r.2.1 == r.2.1 && (r.2.2.1 == r.2.2.1 && (r.2.2.2.1 == r.2.2.2.1 && (r.2.2.2.2.1 == r.2.2.2.2.1 && (r.2.2.2.2.2.1 == r.2.2.2.2.2.1 && (r.2.2.2.2.2.2 == r.2.2.2.2.2.2))))))) = true := by simp
theorem nes (r : R7) : (!(r.1 == r.1) || (!(r.2.1 == r.2.1) || (!(r.2.2.1 == r.2.2.1) || (!(r.2.2.2.1 == r.2.2.2.1) || (!(r.2.2.2.2.1 == r.2.2.2.2.1) || (!(r.2.2.2.2.2.1 == r.2.2.2.2.2.1) || (!(r.2.2.2.2.2.2 == r.2.2.2.2.2.2)))))))) = false := by simp
theorem Mix_l0 (a b c : ByteArray) (hs : a.size + 1 + b.size ≤ 1000) (hc : c.size ≤ 1000) : ∀ (d n : Nat) (i : Int), n + d ≤ 2000 → 0 ≤ i → i + d = a.size → n + cnt (a.data.toList.drop i.toNat) = cnt a.data.toList →
    Ev (fun k => mandolinelaw09_ControlMix.l0 k a b c n a.size i (parseP [a, b, c]).1 (parseP [a, b, c]).2.1 (parseP [a, b, c]).2.2.1 (parseP [a, b, c]).2.2.2.1 (parseP [a, b, c]).2.2.2.2.1 (parseP [a, b, c]).2.2.2.2.2.1 (parseP [a, b, c]).2.2.2.2.2.2) true := by
  intro d
  induction d with
  | zero =>
    intro n i hn h0 h1 h2
    refine Ev.step (fun k => by rw [mandolinelaw09_ControlMix.l0]) ?_
    rw [drop_end (by rw [← size_list]; omega)] at h2
    have h2' : n = cnt a.data.toList := h2
    refine Ev.neg (by omega) ?_
    have et : Int.tmod (n : Int) 2 = ((n % 2 : Nat) : Int) := by rw [Int.tmod_eq_emod_of_nonneg (by omega)]; omega
    rw [et]
    have hp := par_cnt a.data.toList false
    by_cases h : ((n % 2 : Nat) : Int) = 1
    · exact Ev.pos h (Ev.const rfl)
    · refine Ev.neg h ?_
      refine Ev.pos (by omega) ?_
      refine Ev.pos (by omega) ?_
      have hq : par false a.data.toList = false := by
        rw [← h2'] at hp
        by_cases hz : par false a.data.toList = false
        · exact hz
        · rw [if_neg hz] at hp
          omega
      refine Ev.bind (Parse_f _ ?_) ?_
      · intro x hx
        simp only [List.mem_cons, List.not_mem_nil, or_false] at hx
        rcases hx with rfl | rfl
        · have ea := size_list a
          have eb := size_list b
          rw [size_list, append_list, append_list, List.length_append, List.length_append]
          have : (⟨#[44]⟩ : ByteArray).data.toList.length = 1 := rfl
          omega
        · exact hc
      · rw [mix3 a b c hq]
        exact Ev.const (congrArg some (eqs _))
  | succ d ih =>
    intro n i hn h0 h1 h2
    obtain ⟨x, hd, hx⟩ := bt_drop (s := a) (i := i) (by omega) (by omega)
    rw [hd, cnt] at h2
    refine Ev.step (fun k => by rw [mandolinelaw09_ControlMix.l0]) ?_
    refine Ev.pos (by omega) ?_
    refine Ev.pos (by omega) ?_
    refine Ev.pos (by omega) ?_
    rw [hx, wrap64_eq (x := i + 1) (by omega) (by omega), wrap64_eq (x := (n : Int) + 1) (by omega) (by omega)]
    by_cases h34 : x = 34
    · refine Ev.pos (b34.2 h34) ?_
      rw [if_pos h34] at h2
      exact ih (n + 1) (i + 1) (by omega) (by omega) (by omega) (by omega)
    · refine Ev.neg (fun e => h34 (b34.1 e)) ?_
      rw [if_neg h34] at h2
      exact ih n (i + 1) (by omega) (by omega) (by omega) (by omega)
theorem ControlMix (a0 : ByteArray) (a1 : ByteArray) (a2 : ByteArray) (g0 : a0.size ≤ reachBytes) (g1 : a1.size ≤ reachBytes) (g2 : a2.size ≤ reachBytes) : ∃ k, mandolinelaw09_ControlMix.f k a0 a1 a2 = some true := by
  have r : reachBytes = 140737488351232 := rfl
  refine Ev.ends ?_
  unfold mandolinelaw09_ControlMix.f
  refine Ev.bind awake_ok ?_
  simp only [if_true]
  obtain ⟨g, hg, hg'⟩ := Great_f [a0, a1, a2] (by simp) (fun x hx => by simp only [List.mem_cons, List.not_mem_nil, or_false] at hx; rcases hx with rfl | rfl | rfl <;> omega)
  refine Ev.bind hg ?_
  refine Ev.step (fun k => by rw [mandolinelaw09_ControlMix.j0]) ?_
  cases g with
  | true => exact Ev.pos rfl (Ev.bind awake_ok (Ev.const rfl))
  | false =>
    have hb : 1 + a0.size + (1 + a1.size + (1 + a2.size + 0)) ≤ 600 := hg' rfl
    have h3 : ∀ x ∈ [a0, a1, a2], x.size ≤ 1000 := fun x hx => by simp only [List.mem_cons, List.not_mem_nil, or_false] at hx; rcases hx with rfl | rfl | rfl <;> omega
    refine Ev.neg (by decide) ?_
    refine Ev.bind (Parse_f _ h3) ?_
    refine Ev.bind (Parse_f [a2, a0, a1] (fun x hx => h3 x (by simp only [List.mem_cons, List.not_mem_nil, or_false] at hx ⊢; rcases hx with rfl | rfl | rfl <;> simp))) ?_
    rw [mix1 a0 a1 a2, nes]
    refine Ev.neg (by decide) ?_
    refine Ev.bind (Parse_f [a1, a0, a2, a0] (fun x hx => h3 x (by simp only [List.mem_cons, List.not_mem_nil, or_false] at hx ⊢; rcases hx with rfl | rfl | rfl | rfl <;> simp))) ?_
    rw [mix2 a0 a1 a2, nes]
    refine Ev.step (fun k => by rw [mandolinelaw09_ControlMix.j1]) ?_
    refine Ev.neg (by decide) ?_
    exact Mix_l0 a0 a1 a2 (by omega) (by omega) a0.size 0 0 (by omega) (by omega) (by omega) (by rw [Int.toNat_zero, List.drop_zero, Nat.zero_add])
end Go.Proofs.YtmapdckelbobiaaDoor.Pure
