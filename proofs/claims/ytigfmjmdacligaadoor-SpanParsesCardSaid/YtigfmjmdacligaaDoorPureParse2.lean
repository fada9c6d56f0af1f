/- The document's way of reading a span's text. -/
import Derived.Test.YtigfmjmdacligaaDoorX0
import Derived.Test.YtigfmjmdacligaaDoorX10
import Derived.Test.YtigfmjmdacligaaDoorX24
import Derived.Test.YtigfmjmdacligaaDoorX25
import Derived.Test.YtigfmjmdacligaaDoorPureParse
namespace Go.Proofs.YtigfmjmdacligaaDoor.Pure
open Go Go.RowKit Go.Proofs.YtigfmjmdacligaaDoor Go.Proofs.YtigfmjmdacligaaDoor.X Go.Proofs.YtigfmjmdacligaaDoorW.PrintWords Go.Proofs.YtigfmjmdacligaaDoorW.PrintMore
set_option linter.unusedVariables false
set_option linter.unusedSimpArgs false
theorem Number_step (s : ByteArray) (acc i d : Nat) (v : Int) (hd : d < 10) (hb : bt s (i : Int) = 48 + (d : Int)) (hi : (i : Int) < (s.size : Int)) (hz : s.size ≤ 1000) (hle : 10 * (acc : Int) + (d : Int) ≤ 4611686018427387904)
    (next : Ev (fun k => mandolineref01_Number.l0 k s ((10 * acc + d : Nat) : Int) ((i + 1 : Nat) : Int)) v) : Ev (fun k => mandolineref01_Number.l0 k s (acc : Int) (i : Int)) v := by
  refine Ev.step (fun k => by rw [mandolineref01_Number.l0]) ?_
  have c1 : (0 : Int) ≤ (i : Int) := Int.natCast_nonneg i
  have c2 : ¬ ((d : Int) < 0) := Int.not_lt.2 (Int.natCast_nonneg d)
  have c3 : ¬ ((d : Int) > 9) := by clear next hb hi hle; omega
  have k6 : (i : Int) + 1 ≤ 9223372036854775807 := by clear next hb hle; omega
  have k4 : 10 * (acc : Int) ≤ 9223372036854775807 := by clear next hb hi k6; omega
  have k5 : 10 * (acc : Int) + (d : Int) ≤ 9223372036854775807 := by clear next hb hi k6 k4; omega
  have k1 : (48 : Int) + (d : Int) ≤ 9223372036854775807 := by clear next hb hi k6 k4 k5 hle; omega
  have n4 : (0 : Int) ≤ 10 * (acc : Int) := by clear next hb hi k6 k4 k5 k1 hle; omega
  have n5 : (0 : Int) ≤ 10 * (acc : Int) + (d : Int) := by clear next hb hi k6 k4 k5 k1 hle; omega
  have lo : (-9223372036854775808 : Int) ≤ 0 := by decide
  have e1 : wrap64 (wrap64 (bt s (i : Int)) - 48) = (d : Int) := by
    have x1 : wrap64 (48 + (d : Int)) = 48 + (d : Int) := wrap64_eq (by clear next hb hi k6 k4 k5 hle n4 n5; omega) k1
    have x2 : (48 : Int) + (d : Int) - 48 = (d : Int) := by clear x1 next hb hi k6 k4 k5 hle n4 n5; omega
    rw [hb, x1, x2]
    exact wrap64_eq (by clear x1 x2 next hb hi k6 k4 k5 hle n4 n5; omega) (by clear x1 x2 next hb hi k6 k4 k5 hle n4 n5; omega)
  have k2 : (4611686018427387904 - (d : Int)) ≤ 9223372036854775807 := by clear e1 next hb hi k6 k4 k5 k1 hle n4 n5; omega
  have n2 : (0 : Int) ≤ 4611686018427387904 - (d : Int) := by clear e1 next hb hi k6 k4 k5 k1 hle n4 n5 k2; omega
  have e2 : wrap64 (4611686018427387904 - (d : Int)) = 4611686018427387904 - (d : Int) := wrap64_eq (Int.le_trans lo n2) k2
  have n3 : (0 : Int) ≤ (4611686018427387904 - (d : Int)) / 10 := Int.ediv_nonneg n2 (by decide)
  have k3 : (4611686018427387904 - (d : Int)) / 10 ≤ 9223372036854775807 := Int.le_trans (Int.ediv_le_self _ n2) k2
  have e3 : wrap64 (Int.tdiv (4611686018427387904 - (d : Int)) 10) = (4611686018427387904 - (d : Int)) / 10 := by rw [Int.tdiv_eq_ediv_of_nonneg n2]; exact wrap64_eq (Int.le_trans lo n3) k3
  have e4 : wrap64 (10 * (acc : Int)) = 10 * (acc : Int) := wrap64_eq (Int.le_trans lo n4) k4
  have e5 : wrap64 (10 * (acc : Int) + (d : Int)) = ((10 * acc + d : Nat) : Int) := by
    rw [wrap64_eq (Int.le_trans lo n5) k5]
    push_cast
    rfl
  have e6 : wrap64 ((i : Int) + 1) = ((i + 1 : Nat) : Int) := wrap64_eq (Int.le_trans lo (Int.le_trans c1 (Int.le_add_of_nonneg_right (by decide)))) k6
  have c4 : ¬ ((acc : Int) > (4611686018427387904 - (d : Int)) / 10) := by
    have : (acc : Int) ≤ (4611686018427387904 - (d : Int)) / 10 := (Int.le_ediv_iff_mul_le (by decide)).2 (by clear e1 e2 e3 e4 e5 e6 n3 k3 next hb hi; omega)
    exact Int.not_lt.2 this
  unfold mandolineref01_end.f
  simp only [hi, if_true, c1, e1, c2, c3, if_false, Option.bind_some, e2, e3, c4, e4, e5, e6]
  exact next
theorem Number_dd (s : ByteArray) (v : Int) (hz : s.size ≤ 1000) (m : Nat) (h : (m : Int) ≤ 4611686018427387904) : ∀ r, s.data.toList = Lib.decDigits m ++ r →
    Ev (fun k => mandolineref01_Number.l0 k s (m : Int) ((Lib.decDigits m).length : Int)) v → Ev (fun k => mandolineref01_Number.l0 k s 0 0) v := by
  induction m using Nat.strongRecOn with
  | _ m ih =>
    intro r hr hn
    have step : ∀ (acc i : Nat), acc = m / 10 → (∃ l, s.data.toList = l ++ dgt m :: r ∧ l.length = i) → (Lib.decDigits m).length = i + 1 → Ev (fun k => mandolineref01_Number.l0 k s (acc : Int) (i : Int)) v := by
      intro acc i ha ⟨l, hl, hi⟩ hlen
      have hsz := size_list s
      rw [hl, List.length_append, List.length_cons] at hsz
      have hb : bt s (i : Int) = ((dgt m).toNat : Int) := bt_get (by rw [hl, Int.toNat_natCast, ← hi]; simp)
      rw [dgt_nat] at hb
      refine Number_step s acc i (m % 10) v (by omega) (by rw [hb]; omega) (by omega) hz (by omega) ?_
      have e : 10 * acc + m % 10 = m := by omega
      rw [e, ← hlen]
      exact hn
    by_cases h1 : m < 10
    · have e := dd_small h1
      exact step 0 0 (by omega) ⟨[], by rw [hr, e]; rfl, rfl⟩ (by rw [e]; rfl)
    · have e := dd_big h1
      rw [e, List.append_assoc] at hr
      exact ih (m / 10) (by omega) (by omega) _ hr (step _ _ rfl ⟨_, hr, rfl⟩ (by rw [e]; simp))
theorem Number_f (n : Nat) (h : (n : Int) ≤ 4611686018427387904) (s : ByteArray) (hs : s.data.toList = Lib.decDigits n) : Ev (fun k => mandolineref01_Number.f k s) (n : Int) := by
  have hp : n < 10 ^ (18 + 1) := Nat.lt_of_le_of_lt (m := 4611686018427387904) (by omega) (by decide)
  have hl := dd_len_lt 18 hp
  have hsz := size_list s
  rw [hs] at hsz
  have hne : (Lib.decDigits n).length ≠ 0 := fun e => dd_ne n (List.eq_nil_of_length_eq_zero e)
  have main : Ev (fun k => mandolineref01_Number.j0 k s false) (n : Int) := by
    refine Ev.step (fun k => by rw [mandolineref01_Number.j0]) ?_
    simp only [Bool.false_eq_true, if_false]
    refine Number_dd s n (by omega) n h [] (by rw [hs, List.append_nil]) ?_
    refine Ev.step (fun k => by rw [mandolineref01_Number.l0]) ?_
    have : ¬ (((Lib.decDigits n).length : Int) < (s.size : Int)) := by omega
    simp only [this, if_false]
    exact Ev.now _
  unfold mandolineref01_Number.f
  have c1 : ¬ ((s.size : Int) = 0) := by omega
  have c2 : ¬ ((s.size : Int) > 19) := by omega
  have c3 : (0 : Int) < (s.size : Int) := by omega
  simp only [c1, c2, c3, if_true, if_false]
  by_cases h0 : n = 0
  · subst h0
    have e1 : (Lib.decDigits 0).length = 1 := by rw [dd_small (by omega)]; rfl
    have hb : bt s 0 = ((48 : UInt8).toNat : Int) := bt_get (by rw [hs, dd_small (by omega)]; rfl)
    have hb' : bt s 0 = 48 := hb
    have hd : decide ((s.size : Int) > 1) = false := decide_eq_false (by omega)
    simp only [hb', if_true, hd]
    exact main
  · obtain ⟨b, r, e, hb48⟩ := dd_head n (by omega)
    have hb : bt s 0 = (b.toNat : Int) := bt_get (by rw [hs, e]; rfl)
    have hb' : ¬ (bt s 0 = 48) := by
      rw [hb]
      intro e'
      exact hb48 (UInt8.toNat_inj.1 (by show b.toNat = 48; omega))
    simp only [hb', if_false]
    exact main
theorem Number_f_int {n : Int} (h0 : 0 ≤ n) (h : n ≤ 4611686018427387904) (s : ByteArray) (hs : s.data.toList = Lib.decDigits n.toNat) : Ev (fun k => mandolineref01_Number.f k s) n := by
  have := Number_f n.toNat (by omega) s hs
  rw [Int.toNat_of_nonneg h0] at this
  exact this
/-- It ends, whatever is read. -/
theorem Number_l0_some (s : ByteArray) (hz : s.size ≤ 1000) : ∀ (d : Nat) (i x : Int), 0 ≤ i → i + d = s.size → ∃ v, Ev (fun k => mandolineref01_Number.l0 k s x i) v := by
  intro d
  induction d with
  | zero =>
    intro i x h0 h1
    refine ⟨x, Ev.step (fun k => by rw [mandolineref01_Number.l0]) ?_⟩
    have : ¬ (i < (s.size : Int)) := by omega
    simp only [this, if_false]
    exact Ev.now _
  | succ d ih =>
    intro i x h0 h1
    have hi : i < (s.size : Int) := by omega
    have e6 : wrap64 (i + 1) = i + 1 := wrap64_eq (by omega) (by omega)
    generalize hD : wrap64 (wrap64 (bt s i) - 48) = D
    by_cases c2 : D < 0
    · refine ⟨-1, Ev.step (fun k => by rw [mandolineref01_Number.l0]) ?_⟩
      simp only [hi, h0, if_true, hD, c2]
      exact Ev.now _
    · by_cases c3 : D > 9
      · refine ⟨-1, Ev.step (fun k => by rw [mandolineref01_Number.l0]) ?_⟩
        simp only [hi, h0, if_true, if_false, hD, c2, c3]
        exact Ev.now _
      · by_cases c4 : x > wrap64 (Int.tdiv (wrap64 (4611686018427387904 - D)) 10)
        · refine ⟨-1, Ev.step (fun k => by rw [mandolineref01_Number.l0]) ?_⟩
          unfold mandolineref01_end.f
          simp only [hi, h0, if_true, if_false, hD, c2, c3, Option.bind_some, c4]
          exact Ev.now _
        · obtain ⟨v, hv⟩ := ih (i + 1) (wrap64 (wrap64 (10 * x) + D)) (by omega) (by omega)
          refine ⟨v, Ev.step (fun k => by rw [mandolineref01_Number.l0]) ?_⟩
          unfold mandolineref01_end.f
          simp only [hi, h0, if_true, if_false, hD, c2, c3, Option.bind_some, c4, e6]
          exact hv
theorem Number_some (s : ByteArray) (hz : s.size ≤ 1000) : ∃ v, Ev (fun k => mandolineref01_Number.f k s) v := by
  have j : ∀ b, ∃ v, Ev (fun k => mandolineref01_Number.j0 k s b) v := by
    intro b
    cases b with
    | true =>
      refine ⟨-1, Ev.step (fun k => by rw [mandolineref01_Number.j0]) ?_⟩
      simp only [if_true]
      exact Ev.now _
    | false =>
      obtain ⟨v, hv⟩ := Number_l0_some s hz s.size 0 0 (by omega) (by omega)
      refine ⟨v, Ev.step (fun k => by rw [mandolineref01_Number.j0]) ?_⟩
      simp only [Bool.false_eq_true, if_false]
      exact hv
  unfold mandolineref01_Number.f
  by_cases c1 : (s.size : Int) = 0
  · simp only [c1, if_true]
    exact j true
  · by_cases c2 : (s.size : Int) > 19
    · simp only [c1, c2, if_true, if_false]
      exact j true
    · have c3 : (0 : Int) < (s.size : Int) := by omega
      by_cases c4 : bt s 0 = 48
      · simp only [c1, c2, c3, c4, if_true, if_false]
        exact j _
      · simp only [c1, c2, c3, c4, if_true, if_false]
        exact j _
/-! ### the whole text -/
theorem Parse_j2 (s : ByteArray) (v u : Int) : Ev (fun k => mandolineref01_Parse.j2 k s v u) (if R v u = true ∧ Tx v u = s.data.toList then (v, u, 0) else (0, 0, 2)) := by
  refine Ev.step (fun k => by rw [mandolineref01_Parse.j2]) ?_
  simp only [ref_Right_eq, Option.bind_some]
  cases h : R v u with
  | false =>
    simp only [Bool.false_eq_true, if_false, false_and]
    exact Ev.now _
  | true =>
    simp only [if_true, true_and]
    refine Ev.bind (ref_Text_f v u) ?_
    simp only [toList_data, bs_list]
    by_cases hc : Tx v u = s.data.toList
    · simp only [hc, if_true]
      exact Ev.now _
    · simp only [hc, if_false]
      exact Ev.now _
theorem Parse_scan (s : ByteArray) (v : Int × Int × Int) (l r : List UInt8) (hs : s.data.toList = l ++ r) (hl : ∀ b ∈ l, b ≠ 45) (hz : s.size ≤ 1000) (hv : Ev (fun k => mandolineref01_Parse.l0 k s (l.length : Int)) v) :
    ∀ n : Nat, n ≤ l.length → Ev (fun k => mandolineref01_Parse.l0 k s ((l.length - n : Nat) : Int)) v := by
  intro n
  induction n with
  | zero => intro _; exact hv
  | succ n ih =>
    intro hn
    have ih' := ih (by omega)
    have hsz := size_list s
    rw [hs, List.length_append] at hsz
    have hlt : l.length - (n + 1) < l.length := by omega
    have hb : bt s ((l.length - (n + 1) : Nat) : Int) = ((l[l.length - (n + 1)]).toNat : Int) := bt_get (by
      rw [hs, Int.toNat_natCast, List.getElem?_append_left hlt, List.getElem?_eq_getElem hlt])
    have h45 : ¬ (bt s ((l.length - (n + 1) : Nat) : Int) = 45) := by
      rw [hb]
      intro e
      exact hl _ (List.getElem_mem hlt) (UInt8.toNat_inj.1 (by show _ = 45; omega))
    refine Ev.step (fun k => by rw [mandolineref01_Parse.l0]) ?_
    have c1 : ((l.length - (n + 1) : Nat) : Int) < (s.size : Int) := by omega
    have c2 : (0 : Int) ≤ ((l.length - (n + 1) : Nat) : Int) := by omega
    have e : wrap64 (((l.length - (n + 1) : Nat) : Int) + 1) = ((l.length - n : Nat) : Int) := by rw [wrap64_eq (by omega) (by omega)]; omega
    simp only [c1, c2, if_true, h45, if_false, e]
    exact ih'
theorem Parse_f (s : ByteArray) (v : Int × Int × Int) (l r : List UInt8) (hs : s.data.toList = l ++ r) (hl : ∀ b ∈ l, b ≠ 45) (hz : s.size ≤ 1000) (hr : r = [] ∨ ∃ t, r = 45 :: t) (hv : Ev (fun k => mandolineref01_Parse.j1 k s (l.length : Int)) v) :
    Ev (fun k => mandolineref01_Parse.f k s) v := by
  have hsz := size_list s
  rw [hs, List.length_append] at hsz
  have h := Parse_scan s v l r hs hl hz (by
    refine Ev.step (fun k => by rw [mandolineref01_Parse.l0]) ?_
    rcases hr with rfl | ⟨t, rfl⟩
    · have c : ¬ ((l.length : Int) < (s.size : Int)) := by rw [List.length_nil] at hsz; omega
      simp only [c, if_false]
      exact hv
    · rw [List.length_cons] at hsz
      have c : (l.length : Int) < (s.size : Int) := by omega
      have c2 : (0 : Int) ≤ (l.length : Int) := by omega
      have hb : bt s (l.length : Int) = ((45 : UInt8).toNat : Int) := bt_get (by rw [hs, Int.toNat_natCast]; simp)
      have hb' : bt s (l.length : Int) = 45 := hb
      simp only [c, c2, if_true, hb']
      exact hv) l.length (Nat.le_refl _)
  rw [Nat.sub_self] at h
  exact h
theorem dash_split : ∀ l : List UInt8, (∀ b ∈ l, b ≠ 45) ∨ ∃ a t, l = a ++ 45 :: t ∧ ∀ b ∈ a, b ≠ 45
  | [] => .inl (by simp)
  | c :: l => by
    by_cases hc : c = 45
    · exact .inr ⟨[], l, by rw [hc]; rfl, by simp⟩
    · rcases dash_split l with h | ⟨a, t, e, h⟩
      · refine .inl (fun b hb => ?_)
        rcases List.mem_cons.1 hb with rfl | hb
        · exact hc
        · exact h b hb
      · refine .inr ⟨c :: a, t, by rw [e]; rfl, fun b hb => ?_⟩
        rcases List.mem_cons.1 hb with rfl | hb
        · exact hc
        · exact h b hb
/-- At a dash: the two numbers. -/
theorem Parse_j1 (s : ByteArray) (l t : List UInt8) (v u : Int) (hs : s.data.toList = l ++ 45 :: t) (hz : s.size ≤ 1000) (h1 : Ev (fun k => mandolineref01_Number.f k (bs l)) v)
    (h2 : if t = [] then u = 4611686018427387904 else Ev (fun k => mandolineref01_Number.f k (bs t)) u) : Ev (fun k => mandolineref01_Parse.j1 k s (l.length : Int)) (if R v u = true ∧ Tx v u = s.data.toList then (v, u, 0) else (0, 0, 2)) := by
  have hsz := size_list s
  rw [hs, List.length_append, List.length_cons] at hsz
  have c0 : ¬ ((l.length : Int) = (s.size : Int)) := by omega
  have c1 : (0 : Int) ≤ (l.length : Int) := by omega
  have c2 : (l.length : Int) ≤ (s.size : Int) := by omega
  have e1 : wrap64 ((l.length : Int) + 1) = (l.length : Int) + 1 := wrap64_eq (by omega) (by omega)
  have x1 : s.extract 0 ((l.length : Int)).toNat = bs l := ext_list (by rw [extract_list, hs, bs_list, Int.toNat_natCast]; simp)
  refine Ev.step (fun k => by rw [mandolineref01_Parse.j1]) ?_
  unfold mandolineref01_end.f
  simp only [c0, c1, c2, if_true, if_false, x1, e1]
  refine Ev.bind h1 ?_
  simp only [Option.bind_some]
  by_cases ht : t = []
  · rw [if_pos ht] at h2
    subst h2
    have c3 : ¬ ((l.length : Int) + 1 < (s.size : Int)) := by rw [ht, List.length_nil] at hsz; omega
    simp only [c3, if_false]
    exact Parse_j2 s v _
  · rw [if_neg ht] at h2
    have hlen : t.length ≠ 0 := fun e => ht (List.eq_nil_of_length_eq_zero e)
    have c3 : (l.length : Int) + 1 < (s.size : Int) := by omega
    have c4 : (0 : Int) ≤ (l.length : Int) + 1 := by omega
    have c5 : (l.length : Int) + 1 ≤ (s.size : Int) := by omega
    have x2 : s.extract ((l.length : Int) + 1).toNat s.size = bs t := ext_list (by
      rw [extract_list, hs, bs_list, show ((l.length : Int) + 1).toNat = l.length + 1 by omega]
      have : List.drop (l.length + 1) (l ++ 45 :: t) = t := by simp
      rw [this, List.take_of_length_le (by omega)])
    simp only [c3, c4, c5, if_true, x2]
    exact Ev.bind h2 (Parse_j2 s v u)
theorem ref_Parse_in {s : ByteArray} {a b : Int} (h : R a b = true) (hs : s.size ≤ 1000) (e : Tx a b = s.data.toList) : Ev (fun k => mandolineref01_Parse.f k s) (a, b, 0) := by
  have h' := R_iff.1 h
  obtain ⟨r, er, hr⟩ := Tx_form h
  have hl : s.data.toList = Lib.decDigits a.toNat ++ 45 :: r := by rw [← e, er]
  have hn := Number_f_int h'.1 (by omega) (bs (Lib.decDigits a.toNat)) (bs_list _)
  have key := Parse_j1 s _ r a b hl hs hn (by
    rcases hr with ⟨rfl, rfl⟩ | rfl
    · rw [if_pos rfl]
    · rw [if_neg (dd_ne _)]
      exact Number_f_int (by omega) (by omega) _ (bs_list _))
  rw [if_pos ⟨h, e⟩] at key
  exact Parse_f s _ _ _ hl (dd_dash _) hs (.inr ⟨r, rfl⟩) key
theorem ref_Parse_out {s : ByteArray} (hs : s.size ≤ 1000) (h : ∀ a b, R a b = true → Tx a b ≠ s.data.toList) : Ev (fun k => mandolineref01_Parse.f k s) (0, 0, 2) := by
  have hsz := size_list s
  rcases dash_split s.data.toList with hd | ⟨l, t, e, hd⟩
  · refine Parse_f s _ s.data.toList [] (by simp) hd hs (.inl rfl) ?_
    refine Ev.step (fun k => by rw [mandolineref01_Parse.j1]) ?_
    have c : (s.data.toList.length : Int) = (s.size : Int) := by omega
    simp only [c, if_true]
    exact Ev.now _
  · have hlen := hsz
    rw [e, List.length_append, List.length_cons] at hlen
    obtain ⟨v, hv⟩ := Number_some (bs l) (by rw [bs_size]; omega)
    obtain ⟨u, hu⟩ := Number_some (bs t) (by rw [bs_size]; omega)
    refine Parse_f s _ l (45 :: t) e hd hs (.inr ⟨t, rfl⟩) ?_
    by_cases ht : t = []
    · have key := Parse_j1 s l t v 4611686018427387904 e hs hv (by rw [if_pos ht])
      rw [if_neg (fun hh => h _ _ hh.1 hh.2)] at key
      exact key
    · have key := Parse_j1 s l t v u e hs hv (by rw [if_neg ht]; exact hu)
      rw [if_neg (fun hh => h _ _ hh.1 hh.2)] at key
      exact key
end Go.Proofs.YtigfmjmdacligaaDoor.Pure
