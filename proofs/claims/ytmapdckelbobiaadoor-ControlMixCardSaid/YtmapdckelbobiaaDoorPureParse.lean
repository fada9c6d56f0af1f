/- What a directive says, and what values say. Values are few and short. -/
import Derived.Test.YtmapdckelbobiaaDoorX0
import Derived.Test.YtmapdckelbobiaaDoorX2
import Derived.Test.YtmapdckelbobiaaDoorX3
import Derived.Test.YtmapdckelbobiaaDoorX4
import Derived.Test.YtmapdckelbobiaaDoorX11
import Derived.Test.YtmapdckelbobiaaDoorX12
import Derived.Test.YtmapdckelbobiaaDoorX13
import Derived.Test.YtmapdckelbobiaaDoorPureGreat
namespace Go.Proofs.YtmapdckelbobiaaDoor.Pure
open Go Go.RowKit Go.Proofs.YtmapdckelbobiaaDoor Go.Proofs.YtmapdckelbobiaaDoor.X Go.Proofs.YtmapdckelbobiaaDoorW.PrintWords
set_option linter.unusedVariables false
set_option linter.unusedSimpArgs false
def lowL (l : List UInt8) : List UInt8 := l.map control_low.b
theorem control_low_f (l : List UInt8) (h : l.length ≤ 1000) : control_low.f (bs l) = some (bs (lowL l)) := by
  unfold control_low.f
  rw [if_pos (by rw [bs_size]; omega), bs_list]
  rfl
theorem strOfNums_low (l : List UInt8) : strOfNums (l.map fun b => ((control_low.b b).toNat : Int)) = bs (lowL l) := by
  refine ext_list ?_
  rw [strOfNums_data, List.map_map, bs_list]
  unfold lowL
  refine List.map_congr_left (fun b _ => ?_)
  simp
theorem lower_l0 (s : ByteArray) (hs : s.size ≤ 1000) : ∀ (d : Nat) (acc : List Int) (i : Int), acc.length + d ≤ 2000 → 0 ≤ i → i + d = s.size →
    Ev (fun k => mandolineref09_lower.l0 k s acc i) (strOfNums (acc ++ (s.data.toList.drop i.toNat).map fun b => ((control_low.b b).toNat : Int))) := by
  intro d
  induction d with
  | zero =>
    intro acc i hl h0 h1
    refine Ev.step (fun k => by rw [mandolineref09_lower.l0]) ?_
    rw [drop_end (by rw [← size_list]; omega)]
    refine Ev.neg (by omega) (Ev.const ?_)
    rw [List.map_nil, List.append_nil]
  | succ d ih =>
    intro acc i hl h0 h1
    obtain ⟨b, hd, hb⟩ := bt_drop (s := s) (i := i) (by omega) (by omega)
    have hb' := b.toNat_lt
    have t := ih (acc ++ [((control_low.b b).toNat : Int)]) (i + 1) (by rw [List.length_append, List.length_singleton]; omega) (by omega) (by omega)
    rw [List.append_assoc] at t
    refine Ev.step (fun k => by rw [mandolineref09_lower.l0]) ?_
    rw [hd, List.map_cons]
    refine Ev.pos (by omega) ?_
    refine Ev.pos (by omega) ?_
    rw [hb, wrap64_eq (x := i + 1) (by omega) (by omega)]
    unfold control_low.b at t ⊢
    by_cases h65 : 65 ≤ b.toNat
    · refine Ev.pos (by omega) ?_
      by_cases h90 : b.toNat ≤ 90
      · refine Ev.pos (by omega) (Ev.pos (by omega) ?_)
        rw [if_pos ⟨h65, h90⟩] at t ⊢
        have e : ((b.toNat : Int) + 32) % 256 = ((b + 32).toNat : Int) := by
          rw [UInt8.toNat_add]
          have : (32 : UInt8).toNat = 32 := rfl
          omega
        rw [e]
        exact t
      · refine Ev.neg (by omega) (Ev.pos (by omega) ?_)
        rw [if_neg (fun h => h90 h.2)] at t ⊢
        exact t
    · refine Ev.neg (by omega) (Ev.pos (by omega) ?_)
      rw [if_neg (fun h => h65 h.1)] at t ⊢
      exact t
theorem lower_f (l : List UInt8) (h : l.length ≤ 1000) : Ev (fun k => mandolineref09_lower.f k (bs l)) (bs (lowL l)) := by
  have t := lower_l0 (bs l) (by rw [bs_size]; omega) (bs l).size [] 0 (by rw [bs_size]; simp; omega) (by omega) (by omega)
  rw [Int.toNat_zero, List.drop_zero, List.nil_append, bs_list, strOfNums_low] at t
  exact t
/-! ### a directive's name and its argument -/
def nameL (l : List UInt8) : List UInt8 := l.takeWhile (· != 61)
def argL (l : List UInt8) : List UInt8 := (l.dropWhile (· != 61)).drop 1
theorem index_61 : ∀ l : List UInt8, Lib.index l [61] = if 61 ∈ l then ((nameL l).length : Int) else -1
  | [] => rfl
  | b :: l => by
    rw [Lib.index]
    by_cases h : b = 61
    · subst h
      rw [if_pos (by simp [List.isPrefixOf]), if_pos (by simp)]
      simp [nameL]
    · have hp : List.isPrefixOf [61] (b :: l) = false := by simp [List.isPrefixOf]; exact fun e => h e.symm
      have hn : nameL (b :: l) = b :: nameL l := by unfold nameL; rw [List.takeWhile_cons, if_pos (by simpa using h)]
      have hm : (61 ∈ b :: l) ↔ 61 ∈ l := by simp [Ne.symm h]
      rw [if_neg (by rw [hp]; decide), index_61 l, hn]
      by_cases hl : 61 ∈ l
      · rw [if_pos hl, if_pos (hm.2 hl)]
        have : (((nameL l).length : Int) == -1) = false := beq_eq_false_iff_ne.2 (by omega)
        rw [this]
        simp
      · rw [if_neg hl, if_neg (fun e => hl (hm.1 e))]
        rfl
theorem tw_self (p : UInt8 → Bool) : ∀ (l : List UInt8), (∀ x ∈ l, p x = true) → l.takeWhile p = l ∧ l.dropWhile p = []
  | [], _ => ⟨rfl, rfl⟩
  | b :: l, h => by
    have hb := h b (by simp)
    have ih := tw_self p l (fun x hx => h x (by simp [hx]))
    rw [List.takeWhile_cons, List.dropWhile_cons, if_pos hb, if_pos hb, ih.1]
    exact ⟨rfl, ih.2⟩
theorem name_free {l : List UInt8} (h : 61 ∉ l) : nameL l = l ∧ argL l = [] := by
  unfold nameL argL
  have hp : ∀ x ∈ l, (x != 61) = true := fun x hx => by
    have : x ≠ 61 := fun e => h (e ▸ hx)
    simpa using this
  have t := tw_self _ l hp
  exact ⟨t.1, by rw [t.2]; rfl⟩
theorem name_app (l : List UInt8) : l = nameL l ++ l.dropWhile (· != 61) := List.takeWhile_append_dropWhile.symm
theorem name_take (l : List UInt8) : l.take (nameL l).length = nameL l := by
  conv => lhs; rw [name_app l]
  rw [List.take_left']
  conv => rhs; rw [← name_app l]
theorem arg_drop (l : List UInt8) : l.drop ((nameL l).length + 1) = argL l := by
  unfold argL
  conv => lhs; rw [name_app l]
  rw [← List.drop_drop]
  congr 1
  have : (nameL l).length = (nameL (nameL l ++ l.dropWhile (· != 61))).length := by rw [← name_app l]
  rw [← this, List.drop_left]
theorem cut_61 (l : List UInt8) : (Lib.cut l [61]).1 = nameL l ∧ (Lib.cut l [61]).2.1 = argL l := by
  unfold Lib.cut
  rw [index_61]
  by_cases h : 61 ∈ l
  · rw [if_pos h, if_pos (by omega)]
    refine ⟨?_, ?_⟩
    · show l.take ((nameL l).length : Int).toNat = nameL l
      rw [Int.toNat_natCast]
      exact name_take l
    · show l.drop (((nameL l).length : Int).toNat + [61].length) = argL l
      rw [Int.toNat_natCast]
      exact arg_drop l
  · rw [if_neg h, if_neg (by omega)]
    have := name_free h
    exact ⟨this.1.symm, this.2.symm⟩
theorem name_len (l : List UInt8) : (nameL l).length ≤ l.length := (List.takeWhile_prefix _).length_le
theorem arg_len (l : List UInt8) : (argL l).length ≤ l.length := by
  unfold argL
  rw [List.length_drop]
  have := (List.dropWhile_suffix (· != 61) (l := l)).length_le
  omega
/-- Without quotes. -/
abbrev quoL (l : List UInt8) : List UInt8 := control_Rule_say.arg l
theorem quo_len (l : List UInt8) : (quoL l).length ≤ l.length := by
  unfold quoL control_Rule_say.arg
  split
  · rw [List.length_dropLast, List.length_drop]; omega
  · exact Nat.le_refl _
abbrev R7 := Int × Int × Int × Int × Bool × Bool × Bool
def numP (l : List UInt8) : Int × Bool := (numF l).elim (0, false) fun m => (m, true)
def tellP (nm ar : List UInt8) (r : R7) : R7 := control_Rule_say.upd (lowL nm) (numP (quoL ar)).2 (numP (quoL ar)).1 r.1 r.2.1 r.2.2.1 r.2.2.2.1 r.2.2.2.2.1 r.2.2.2.2.2.1 r.2.2.2.2.2.2
def sayP (r : R7) (l : List UInt8) : R7 := tellP (nameL l) (argL l) r
theorem say_f (r : R7) (l : List UInt8) (h : l.length ≤ 1000) : Ev (fun k => control_Rule_say.f k r.1 r.2.1 r.2.2.1 r.2.2.2.1 r.2.2.2.2.1 r.2.2.2.2.2.1 r.2.2.2.2.2.2 (bs l)) (sayP r l) := by
  unfold control_Rule_say.f
  have hc := cut_61 l
  have h1 := name_len l
  have h2 := arg_len l
  have h3 := quo_len (argL l)
  refine Ev.pos (by rw [bs_size]; omega) ?_
  rw [bs_list, hc.1, hc.2]
  have e1 : control_low.f (⟨(nameL l).toArray⟩ : ByteArray) = some (bs (lowL (nameL l))) := control_low_f (nameL l) (by omega)
  rw [e1]
  simp only [Option.bind_some]
  refine Ev.bind (number_f (bs (quoL (argL l))) (by rw [bs_size]; omega)) ?_
  exact Ev.const rfl
/-! ### the document's -/
theorem less_f (o : Option Int) (ho : ∀ m, o = some m → 0 ≤ m) (x : Int) : mandolineref09_less.f x (o.getD (-1)) = some (control_Rule_say.less (o.elim ((0 : Int), false) fun m => (m, true)).2 (o.elim ((0 : Int), false) fun m => (m, true)).1 x) := by
  unfold mandolineref09_less.f control_Rule_say.less
  cases o with
  | none => rfl
  | some m =>
    have := ho m rfl
    simp only [Option.getD_some, Option.elim]
    rw [if_neg (by omega)]
    by_cases h1 : x ≥ 0
    · rw [if_pos h1]
      by_cases h2 : x < m
      · rw [if_pos h2, if_neg (by omega)]
      · rw [if_neg h2]
        by_cases h3 : m < x
        · rw [if_pos ⟨trivial, .inr h3⟩]
        · rw [if_neg (by omega)]
          congr 1
          omega
    · rw [if_neg h1, if_pos ⟨trivial, .inl (by omega)⟩]
theorem one_j2 (nm ar : List UInt8) (h1 : nm.length ≤ 1000) (h2 : ar.length ≤ 1000) (r0 r1 r2 r3 : Int) (b0 b1 b2 : Bool) :
    Ev (fun k => mandolineref09_one.j2 k (bs nm) (bs ar) r0 r1 r2 r3 b0 b1 b2) (control_Rule_say.upd (lowL nm) (numP ar).2 (numP ar).1 r0 r1 r2 r3 b0 b1 b2) := by
  refine Ev.step (fun k => by rw [mandolineref09_one.j2]) ?_
  refine Ev.bind (lower_f nm h1) ?_
  have num := ref_number_f (bs ar) (by rw [bs_size]; omega)
  rw [bs_list] at num
  have les := less_f (numF ar) (fun m hm => (numF_bound hm).1)
  rw [toList_data, bs_list]
  unfold control_Rule_say.upd
  generalize lowL nm = L
  by_cases c1 : L = [109, 97, 120, 45, 97, 103, 101]
  · rw [if_pos c1]
    refine Ev.pos c1 (Ev.bind num ?_)
    rw [les r0]
    exact Ev.const rfl
  rw [if_neg c1]
  refine Ev.neg c1 ?_
  by_cases c2 : L = [115, 45, 109, 97, 120, 97, 103, 101]
  · rw [if_pos c2]
    refine Ev.pos c2 (Ev.bind num ?_)
    rw [les r1]
    exact Ev.const rfl
  rw [if_neg c2]
  refine Ev.neg c2 ?_
  by_cases c3 : L = [115, 116, 97, 108, 101, 45, 119, 104, 105, 108, 101, 45, 114, 101, 118, 97, 108, 105, 100, 97, 116, 101]
  · rw [if_pos c3]
    refine Ev.pos c3 (Ev.bind num ?_)
    rw [les r2]
    exact Ev.const rfl
  rw [if_neg c3]
  refine Ev.neg c3 ?_
  by_cases c4 : L = [115, 116, 97, 108, 101, 45, 105, 102, 45, 101, 114, 114, 111, 114]
  · rw [if_pos c4]
    refine Ev.pos c4 (Ev.bind num ?_)
    rw [les r3]
    exact Ev.const rfl
  rw [if_neg c4]
  refine Ev.neg c4 ?_
  refine Ev.const ?_
  by_cases c5 : L = [110, 111, 45, 115, 116, 111, 114, 101]
  · rw [if_pos c5, if_pos c5]
  rw [if_neg c5, if_neg c5]
  by_cases c6 : L = [110, 111, 45, 99, 97, 99, 104, 101]
  · rw [if_pos c6, if_pos c6]
  rw [if_neg c6, if_neg c6]
  by_cases c7 : L = [112, 114, 105, 118, 97, 116, 101]
  · rw [if_pos c7, if_pos c7]
  rw [if_neg c7, if_neg c7]
theorem one_tail (s : ByteArray) (nm ar : List UInt8) (h1 : nm.length ≤ 1000) (h2 : ar.length ≤ 1000) (r : R7) :
    Ev (fun k => mandolineref09_one.l0 k s (bs nm) (bs ar) (-1) r.1 r.2.1 r.2.2.1 r.2.2.2.1 r.2.2.2.2.1 r.2.2.2.2.2.1 r.2.2.2.2.2.2) (tellP nm ar r) := by
  unfold tellP
  have hz : ((bs ar).size : Int) = ar.length := by rw [bs_size]
  have hj2 : ∀ q : List UInt8, q.length ≤ 1000 → quoL ar = q → Ev (fun k => mandolineref09_one.j2 k (bs nm) (bs q) r.1 r.2.1 r.2.2.1 r.2.2.2.1 r.2.2.2.2.1 r.2.2.2.2.2.1 r.2.2.2.2.2.2) (control_Rule_say.upd (lowL nm) (numP (quoL ar)).2 (numP (quoL ar)).1 r.1 r.2.1 r.2.2.1 r.2.2.2.1 r.2.2.2.2.1 r.2.2.2.2.2.1 r.2.2.2.2.2.2) := by
    intro q hq e
    rw [e]
    exact one_j2 nm q h1 hq _ _ _ _ _ _ _
  have no : ¬ (2 ≤ ar.length ∧ ar.head? = some 34 ∧ ar.getLast? = some 34) → Ev (fun k => mandolineref09_one.j1 k (bs nm) (bs ar) false r.1 r.2.1 r.2.2.1 r.2.2.2.1 r.2.2.2.2.1 r.2.2.2.2.2.1 r.2.2.2.2.2.2) (control_Rule_say.upd (lowL nm) (numP (quoL ar)).2 (numP (quoL ar)).1 r.1 r.2.1 r.2.2.1 r.2.2.2.1 r.2.2.2.2.1 r.2.2.2.2.2.1 r.2.2.2.2.2.2) := by
    intro hn
    refine Ev.step (fun k => by rw [mandolineref09_one.j1]) ?_
    exact Ev.neg (by decide) (hj2 ar h2 (if_neg hn))
  refine Ev.step (fun k => by rw [mandolineref09_one.l0]) ?_
  refine Ev.neg (by decide) ?_
  by_cases hl : 2 ≤ ar.length
  · obtain ⟨b, hb⟩ : ∃ b, ar.head? = some b := ⟨_, List.head?_eq_some_head (by intro e; rw [e] at hl; simp at hl)⟩
    obtain ⟨c, hc⟩ : ∃ c, ar.getLast? = some c := ⟨_, List.getLast?_eq_some_getLast (by intro e; rw [e] at hl; simp at hl)⟩
    have hb0 : bt (bs ar) 0 = (b.toNat : Int) := bt_get (by rw [bs_list, Int.toNat_zero, ← List.head?_eq_getElem?]; exact hb)
    have hc0 : bt (bs ar) ((ar.length : Int) - 1) = (c.toNat : Int) := bt_get (by rw [bs_list, show ((ar.length : Int) - 1).toNat = ar.length - 1 by omega, ← List.getLast?_eq_getElem?]; exact hc)
    rw [hz, wrap64_eq (x := (ar.length : Int) - 1) (by omega) (by omega), hb0, hc0]
    refine Ev.pos (by omega) ?_
    refine Ev.pos (by omega) ?_
    by_cases h34 : b = 34
    · refine Ev.pos (b34.2 h34) ?_
      refine Ev.pos (by omega) ?_
      refine Ev.pos (by omega) ?_
      by_cases hc34 : c = 34
      · have e : ((c.toNat : Int) == 34) = true := beq_iff_eq.2 (b34.2 hc34)
        rw [e]
        refine Ev.step (fun k => by rw [mandolineref09_one.j1]) ?_
        rw [hz, wrap64_eq (x := (ar.length : Int) - 1) (by omega) (by omega)]
        refine Ev.pos rfl ?_
        refine Ev.pos (by omega) ?_
        refine Ev.pos (by omega) ?_
        have eq : quoL ar = (ar.drop 1).dropLast := if_pos ⟨hl, by rw [hb, h34], by rw [hc, hc34]⟩
        have ex : (bs ar).extract 1 ((ar.length : Int) - 1).toNat = bs ((ar.drop 1).dropLast) := by
          refine ext_list ?_
          rw [extract_list, bs_list, bs_list, List.dropLast_eq_take, List.length_drop, show ((ar.length : Int) - 1).toNat - 1 = ar.length - 1 - 1 by omega]
        rw [ex]
        exact hj2 _ (by rw [List.length_dropLast, List.length_drop]; omega) eq
      · have e : ((c.toNat : Int) == 34) = false := beq_eq_false_iff_ne.2 (fun x => hc34 (b34.1 x))
        rw [e]
        exact no (fun h => hc34 (by have := h.2.2; rw [hc] at this; exact Option.some.inj this))
    · exact Ev.neg (fun x => h34 (b34.1 x)) (no (fun h => h34 (by have := h.2.1; rw [hb] at this; exact Option.some.inj this)))
  · exact Ev.neg (by omega) (no (fun h => hl h.1))
theorem name_at {l : List UInt8} {n : Nat} (h : l[n]? = some 61) (hf : 61 ∉ l.take n) : nameL l = l.take n ∧ argL l = l.drop (n + 1) := by
  obtain ⟨hn, he⟩ := List.getElem?_eq_some_iff.1 h
  have e : l = l.take n ++ 61 :: l.drop (n + 1) := by
    conv => lhs; rw [← List.take_append_drop n l, List.drop_eq_getElem_cons hn, he]
  have hp : ∀ x ∈ l.take n, (x != 61) = true := fun x hx => by
    have : x ≠ 61 := fun q => hf (q ▸ hx)
    simpa using this
  unfold nameL argL
  constructor
  · conv => lhs; rw [e]
    rw [List.takeWhile_append_of_pos hp, List.takeWhile_cons]
    simp
  · conv => lhs; rw [e]
    rw [List.dropWhile_append_of_pos hp, List.dropWhile_cons]
    simp
theorem one_l0 (s : ByteArray) (hs : s.size ≤ 1000) (r : R7) : ∀ (n : Nat) (nm ar : List UInt8), n ≤ s.size → nm.length ≤ 1000 → ar.length ≤ 1000 →
    Ev (fun k => mandolineref09_one.l0 k s (bs nm) (bs ar) ((n : Int) - 1) r.1 r.2.1 r.2.2.1 r.2.2.2.1 r.2.2.2.2.1 r.2.2.2.2.2.1 r.2.2.2.2.2.2) (if 61 ∈ s.data.toList.take n then sayP r s.data.toList else tellP nm ar r) := by
  have hsl := size_list s
  intro n
  induction n with
  | zero =>
    intro nm ar hn h1 h2
    rw [if_neg (by simp)]
    exact one_tail s nm ar h1 h2 r
  | succ n ih =>
    intro nm ar hn h1 h2
    obtain ⟨b, hd, hb⟩ := bt_drop (s := s) (i := (n : Int)) (by omega) (by omega)
    rw [Int.toNat_natCast] at hd
    have hg : s.data.toList[n]? = some b := by
      have h := congrArg (fun l => l[0]?) hd
      simpa [List.getElem?_drop] using h
    have ht : s.data.toList.take (n + 1) = s.data.toList.take n ++ [b] := by rw [List.take_add_one, hg]; rfl
    rw [show (((n + 1 : Nat) : Int) - 1) = (n : Int) by omega]
    refine Ev.step (fun k => by rw [mandolineref09_one.l0]) ?_
    rw [hb, wrap64_eq (x := (n : Int) - 1) (by omega) (by omega), wrap64_eq (x := (n : Int) + 1) (by omega) (by omega)]
    refine Ev.pos (by omega) ?_
    refine Ev.pos (by omega) ?_
    refine Ev.pos (by omega) ?_
    rw [ht]
    by_cases hq : b = 61
    · subst hq
      refine Ev.pos rfl ?_
      refine Ev.pos (by omega) ?_
      refine Ev.pos (by omega) ?_
      refine Ev.pos (by omega) ?_
      have e1 : s.extract 0 ((n : Int)).toNat = bs (s.data.toList.take n) := ext_list (by rw [extract_list, Int.toNat_natCast, List.drop_zero, Nat.sub_zero]; rfl)
      have e2 : s.extract ((n : Int) + 1).toNat s.size = bs (s.data.toList.drop (n + 1)) := ext_list (by rw [extract_list, show ((n : Int) + 1).toNat = n + 1 by omega, List.take_of_length_le (by rw [List.length_drop]; omega)]; rfl)
      rw [e1, e2]
      have t := ih (s.data.toList.take n) (s.data.toList.drop (n + 1)) (by omega) (by rw [List.length_take]; omega) (by rw [List.length_drop]; omega)
      rw [if_pos (by simp)]
      by_cases hm : 61 ∈ s.data.toList.take n
      · rw [if_pos hm] at t
        exact t
      · rw [if_neg hm] at t
        have := name_at hg hm
        unfold sayP
        rw [this.1, this.2]
        exact t
    · refine Ev.neg (fun e => hq ((byte_eq (b := b) (c := 61)).1 e)) ?_
      have t := ih nm ar (by omega) h1 h2
      have hm : (61 ∈ s.data.toList.take n ++ [b]) ↔ 61 ∈ s.data.toList.take n := by simp [Ne.symm hq]
      by_cases h : 61 ∈ s.data.toList.take n
      · rw [if_pos h] at t
        rw [if_pos (hm.2 h)]
        exact t
      · rw [if_neg h] at t
        rw [if_neg (fun e => h (hm.1 e))]
        exact t
theorem one_f (r : R7) (l : List UInt8) (h : l.length ≤ 1000) : Ev (fun k => mandolineref09_one.f k r.1 r.2.1 r.2.2.1 r.2.2.2.1 r.2.2.2.2.1 r.2.2.2.2.2.1 r.2.2.2.2.2.2 (bs l)) (sayP r l) := by
  have t := one_l0 (bs l) (by rw [bs_size]; exact h) r l.length l [] (by rw [bs_size]; exact Nat.le_refl _) h (by simp)
  unfold mandolineref09_one.f
  rw [bs_size, wrap64_eq (x := (l.length : Int) - 1) (by omega) (by omega)]
  rw [bs_list, List.take_length] at t
  by_cases hm : 61 ∈ l
  · rw [if_pos hm] at t
    exact t
  · rw [if_neg hm] at t
    have := name_free hm
    unfold sayP
    rw [this.1, this.2]
    exact t
/-! ### all values -/
def r0 : R7 := (-1, -1, -1, -1, false, false, false)
def valP (r : R7) (v : ByteArray) : R7 := (dirL v.data.toList).foldl sayP r
def parseP (l : List ByteArray) : R7 := l.foldl valP r0
theorem Parse_l1 : ∀ (l : List (List UInt8)) (r : R7), (∀ x ∈ l, x.length ≤ 1000) → Ev (fun k => control_Parse.l1 k (l.map bs) r) (l.foldl sayP r)
  | [], r, _ => Ev.const rfl
  | x :: l, r, h => by
    show Ev (fun k => (control_Parse.sayR k r (bs x)).bind fun r' => control_Parse.l1 k (l.map bs) r') _
    refine Ev.bind (say_f r x (h x (by simp))) ?_
    exact Parse_l1 l (sayP r x) (fun y hy => h y (by simp [hy]))
theorem Parse_l0 : ∀ (l : List ByteArray) (r : R7), (∀ x ∈ l, x.size ≤ 1000) → Ev (fun k => control_Parse.l0 k l r) (l.foldl valP r)
  | [], r, _ => Ev.const rfl
  | v :: l, r, h => by
    have hv := h v (by simp)
    have hv' := hv
    rw [size_list] at hv'
    show Ev (fun k => (control_directives.f k v).bind fun ds => (control_Parse.l1 k ds r).bind fun r' => control_Parse.l0 k l r') _
    refine Ev.bind (directives_f v hv) ?_
    refine Ev.bind (Parse_l1 _ r (fun x hx => by have := dirL_mem hx; omega)) ?_
    exact Parse_l0 l (valP r v) (fun y hy => h y (by simp [hy]))
theorem Parse_f (l : List ByteArray) (h : ∀ x ∈ l, x.size ≤ 1000) : Ev (fun k => control_Parse.f k l) (parseP l) := Parse_l0 l r0 h
theorem ref_Parse_l1 {out : R7} (vs : List ByteArray) (j : Int) (ds : List (List UInt8)) (hd : ∀ x ∈ ds, x.length ≤ 1000) (hz : ds.length ≤ 2000) (hj : 0 ≤ j) (hj' : j ≤ 100000) (res : R7)
    (hk : Ev (fun k => mandolineref09_Parse.l0 k vs (j + 1) res.1 res.2.1 res.2.2.1 res.2.2.2.1 res.2.2.2.2.1 res.2.2.2.2.2.1 res.2.2.2.2.2.2) out) : ∀ (d : Nat) (i : Int) (r : R7), 0 ≤ i → i + d = ds.length → (ds.drop i.toNat).foldl sayP r = res →
    Ev (fun k => mandolineref09_Parse.l1 k vs j (ds.map bs) i r.1 r.2.1 r.2.2.1 r.2.2.2.1 r.2.2.2.2.1 r.2.2.2.2.2.1 r.2.2.2.2.2.2) out := by
  intro d
  induction d with
  | zero =>
    intro i r h0 h1 h2
    rw [drop_end (by omega)] at h2
    obtain rfl : r = res := h2
    refine Ev.step (fun k => by rw [mandolineref09_Parse.l1]) ?_
    refine Ev.neg (by rw [List.length_map]; omega) ?_
    rw [wrap64_eq (x := j + 1) (by omega) (by omega)]
    exact hk
  | succ d ih =>
    intro i r h0 h1 h2
    rw [getD_drop (l := ds) (z := []) h0 (by omega), List.foldl_cons] at h2
    have hx := hd _ (getD_mem (l := ds) (z := []) h0 (by omega))
    have t := ih (i + 1) _ (by omega) (by omega) h2
    refine Ev.step (fun k => by rw [mandolineref09_Parse.l1]) ?_
    refine Ev.pos (by rw [List.length_map]; omega) ?_
    refine Ev.pos h0 ?_
    have e : rdOf ByteArray.empty (ds.map bs) i = bs (ds.getD i.toNat []) := by
      unfold rdOf
      rw [List.getD_eq_getElem?_getD, List.getD_eq_getElem?_getD, List.getElem?_map, List.getElem?_eq_getElem (by omega)]
      rfl
    rw [e, wrap64_eq (x := i + 1) (by omega) (by omega)]
    refine Ev.bind (one_f r _ hx) ?_
    exact t
theorem cutC_len : ∀ (l cur : List UInt8) (q : Bool), (cutC cur q l).length ≤ l.length + 1
  | [], cur, q => by rw [cutC]; simp
  | b :: l, cur, q => by
    rw [cutC, List.length_cons]
    split
    · have := cutC_len l (cur ++ [b]) (!q); omega
    · split
      · have := cutC_len l [] false; rw [List.length_cons]; omega
      · have := cutC_len l (cur ++ [b]) q; omega
theorem ref_Parse_l0 (vs : List ByteArray) (hv : ∀ x ∈ vs, x.size ≤ 1000) (hz : vs.length ≤ 1000) : ∀ (d : Nat) (i : Int) (r : R7), 0 ≤ i → i + d = vs.length →
    Ev (fun k => mandolineref09_Parse.l0 k vs i r.1 r.2.1 r.2.2.1 r.2.2.2.1 r.2.2.2.2.1 r.2.2.2.2.2.1 r.2.2.2.2.2.2) ((vs.drop i.toNat).foldl valP r) := by
  intro d
  induction d with
  | zero =>
    intro i r h0 h1
    rw [drop_end (by omega)]
    refine Ev.step (fun k => by rw [mandolineref09_Parse.l0]) ?_
    exact Ev.neg (by omega) (Ev.const rfl)
  | succ d ih =>
    intro i r h0 h1
    rw [getD_drop (l := vs) (z := ByteArray.empty) h0 (by omega), List.foldl_cons]
    have hx := hv _ (getD_mem (l := vs) (z := ByteArray.empty) h0 (by omega))
    refine Ev.step (fun k => by rw [mandolineref09_Parse.l0]) ?_
    refine Ev.pos (by omega) ?_
    refine Ev.pos h0 ?_
    have e : rdOf ByteArray.empty vs i = vs.getD i.toNat ByteArray.empty := rfl
    rw [e]
    generalize vs.getD i.toNat ByteArray.empty = v at hx ⊢
    have hx' := hx
    rw [size_list] at hx'
    refine Ev.bind (parts_f v hx) ?_
    have hc := cutC_len v.data.toList [] false
    exact ref_Parse_l1 vs i (dirL v.data.toList) (fun x hx => by have := dirL_mem hx; omega) (by unfold dirL; rw [List.length_map]; omega) h0 (by omega) (valP r v) (ih (i + 1) (valP r v) (by omega) (by omega)) (dirL v.data.toList).length 0 r (by omega) (by omega) rfl
theorem ref_Parse_f (l : List ByteArray) (h : ∀ x ∈ l, x.size ≤ 1000) (hz : l.length ≤ 1000) : Ev (fun k => mandolineref09_Parse.f k l) (parseP l) := by
  have t := ref_Parse_l0 l h hz l.length 0 r0 (by omega) (by omega)
  rw [Int.toNat_zero, List.drop_zero] at t
  exact t
end Go.Proofs.YtmapdckelbobiaaDoor.Pure
