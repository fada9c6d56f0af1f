/- What Parse and Put of layer 7 (field), the program's and the document's, compute, in plain words. Texts below 2^31 bytes. -/
import Derived.Test.YtcdjeofhhhffcaaDoorX0
import Derived.Test.YtcdjeofhhhffcaaDoorX2
import Derived.Test.YtcdjeofhhhffcaaDoorX5
import Derived.Test.YtcdjeofhhhffcaaDoorX11
import Derived.Test.YtcdjeofhhhffcaaDoorX12
import Derived.Test.YtcdjeofhhhffcaaDoorX13
import Derived.Test.YtcdjeofhhhffcaaDoorPureLists
import Derived.Lib.IndexLaws
namespace Go.Proofs.YtcdjeofhhhffcaaDoor.Pure
open Go Go.RowKit Go.Proofs.YtcdjeofhhhffcaaDoor Go.Proofs.YtcdjeofhhhffcaaDoor.X Go.Proofs.YtcdjeofhhhffcaaDoorW.PrintWords
set_option linter.unusedVariables false
set_option linter.unusedSimpArgs false

/-! ### where a line ends -/
theorem beq_dec (a b : UInt8) : (a == b) = decide (b = a) := by
  by_cases h : b = a
  · subst h; simp
  · rw [decide_eq_false h]; exact beq_eq_false_iff_ne.2 (fun e => h e.symm)
def eol : List UInt8 := [13, 10]
theorem eol_cons (b : UInt8) (l : List UInt8) : Lib.index (b :: l) eol = if b = 13 ∧ l.head? = some 10 then 0 else if Lib.index l eol = -1 then -1 else Lib.index l eol + 1 := by
  rw [Lib.index]
  have e : List.isPrefixOf eol (b :: l) = decide (b = 13 ∧ l.head? = some 10) := by
    cases l with
    | nil => simp [eol, List.isPrefixOf]
    | cons c r =>
      simp only [eol, List.isPrefixOf, List.head?_cons, Option.some.injEq]
      rw [beq_dec, beq_dec, Bool.and_true, Bool.decide_and]
  rw [e]
  simp only [decide_eq_true_eq, beq_iff_eq]
theorem eol_nil : Lib.index [] eol = -1 := rfl
theorem eol_one (b : UInt8) : Lib.index [b] eol = -1 := by rw [eol_cons, if_neg (by simp), eol_nil]; rfl
theorem eol_free : ∀ (l r : List UInt8), (∀ b ∈ l, b ≠ 13) → Lib.index (l ++ 13 :: 10 :: r) eol = l.length
  | [], r, _ => by rw [List.nil_append, eol_cons, if_pos ⟨rfl, rfl⟩]; rfl
  | c :: l, r, h => by
    rw [List.cons_append, eol_cons, if_neg (fun e => h c (by simp) e.1), eol_free l r (fun b hb => h b (by simp [hb])), if_neg (by omega), List.length_cons]
    omega
theorem eol_none : ∀ (l : List UInt8), (∀ b ∈ l, b ≠ 13) → Lib.index l eol = -1
  | [], _ => rfl
  | c :: l, h => by rw [eol_cons, if_neg (fun e => h c (by simp) e.1), eol_none l (fun b hb => h b (by simp [hb])), if_pos rfl]
theorem eol_none' : ∀ (l : List UInt8), (∀ b ∈ l, b ≠ 13) → Lib.index (l ++ [13]) eol = -1
  | [], _ => eol_one 13
  | c :: l, h => by rw [List.cons_append, eol_cons, if_neg (fun e => h c (by simp) e.1), eol_none' l (fun b hb => h b (by simp [hb])), if_pos rfl]
theorem eol_room (l : List UInt8) (h : 0 ≤ Lib.index l eol) : Lib.index l eol + 2 ≤ l.length := by
  induction l with
  | nil => rw [eol_nil] at h; omega
  | cons b l ih =>
    rw [eol_cons] at h ⊢
    split
    · rename_i hc
      cases l with
      | nil => simp at hc
      | cons c r => simp; omega
    · rename_i hc
      rw [if_neg hc] at h
      split
      · rename_i h1
        rw [if_pos h1] at h
        omega
      · rename_i h1
        rw [if_neg h1] at h
        have := Lib.index_ge l eol
        have := ih (by omega)
        simp only [List.length_cons]
        omega
theorem colon_cons (b : UInt8) (l : List UInt8) : Lib.index (b :: l) [58] = if b = 58 then 0 else if Lib.index l [58] = -1 then -1 else Lib.index l [58] + 1 := by
  rw [Lib.index]
  have e : List.isPrefixOf [58] (b :: l) = decide (b = 58) := by
    simp only [List.isPrefixOf, Bool.and_true]
    rw [beq_dec]
  rw [e]
  simp only [decide_eq_true_eq, beq_iff_eq]
theorem colon_free : ∀ (l r : List UInt8), (∀ b ∈ l, b ≠ 58) → Lib.index (l ++ 58 :: r) [58] = l.length
  | [], r, _ => by rw [List.nil_append, colon_cons, if_pos rfl]; rfl
  | c :: l, r, h => by
    rw [List.cons_append, colon_cons, if_neg (h c (by simp)), colon_free l r (fun b hb => h b (by simp [hb])), if_neg (by omega), List.length_cons]
    omega

theorem ref_line_l0 (s : ByteArray) (hs : s.size ≤ 4611686018427387904) : ∀ (d : Nat) (i : Int), 0 ≤ i → i + d = s.size →
    Ev (fun k => mandolineref07_line.l0 k s i) (if Lib.index (s.data.toList.drop i.toNat) eol = -1 then -1 else i + Lib.index (s.data.toList.drop i.toNat) eol) := by
  intro d
  induction d with
  | zero =>
    intro i h0 h1
    refine Ev.step (fun k => by rw [mandolineref07_line.l0]) ?_
    rw [drop_end (by rw [← size_list]; omega), eol_nil]
    simp (disch := omega) only [if_neg, wrap64_eq]
    exact Ev.const rfl
  | succ d ih =>
    intro i h0 h1
    obtain ⟨b, hd, hb⟩ := bt_drop (s := s) h0 (by omega)
    refine Ev.step (fun k => by rw [mandolineref07_line.l0]) ?_
    rw [hd]
    by_cases hl : i + 1 < s.size
    · obtain ⟨c, hd', hc⟩ := bt_drop (s := s) (i := i + 1) (by omega) hl
      have ih' := ih (i + 1) (by omega) (by omega)
      have hge := Lib.index_ge (s.data.toList.drop (i + 1).toNat) eol
      obtain ⟨v, hv⟩ : ∃ v, v = Lib.index (b :: s.data.toList.drop (i + 1).toNat) eol := ⟨_, rfl⟩
      rw [← hv]
      rw [eol_cons] at hv
      have hh : (s.data.toList.drop (i + 1).toNat).head? = some c := by rw [hd']; rfl
      rw [hh] at hv
      generalize Lib.index (s.data.toList.drop (i + 1).toNat) eol = u at hv ih' hge
      simp (disch := omega) only [if_pos, wrap64_eq, hb, hc]
      by_cases hyes : b = 13 ∧ c = 10
      · rw [if_pos ⟨hyes.1, by rw [hyes.2]⟩] at hv
        subst hv
        obtain ⟨rfl, rfl⟩ := hyes
        rw [if_neg (by omega), Int.add_zero]
        refine Ev.pos (by rfl) (Ev.pos (by rfl) ?_)
        exact Ev.const rfl
      · rw [if_neg (fun e => hyes ⟨e.1, Option.some.inj e.2⟩)] at hv
        have hsame : (if u = -1 then (-1 : Int) else i + 1 + u) = (if v = -1 then -1 else i + v) := by
          split at hv
          · subst hv; rename_i h; rw [if_pos h, if_pos rfl]
          · rename_i h; rw [if_neg h, if_neg (by omega)]; omega
        rw [← hsame]
        by_cases h13 : b = 13
        · refine Ev.pos (by rw [h13]; rfl) (Ev.neg (fun e => hyes ⟨h13, byte_eq.1 (e.trans rfl)⟩) ?_)
          exact ih'
        · refine Ev.neg (fun e => h13 (byte_eq.1 (e.trans rfl))) ?_
          exact ih'
    · have hn : s.data.toList.drop (i + 1).toNat = [] := drop_end (by rw [← size_list]; omega)
      rw [hn, eol_one]
      simp (disch := omega) only [if_neg, wrap64_eq]
      exact Ev.const rfl
theorem ref_line_f (s : ByteArray) (hs : s.size ≤ 4611686018427387904) (i : Int) (h0 : 0 ≤ i) (h1 : i ≤ s.size) :
    Ev (fun k => mandolineref07_line.f k s i) (if Lib.index (s.data.toList.drop i.toNat) eol = -1 then -1 else i + Lib.index (s.data.toList.drop i.toNat) eol) :=
  ref_line_l0 s hs (s.size - i.toNat) i h0 (by omega)

/-! ### a line's field -/
def fieldL (l : List UInt8) : Option S33 := if 0 ≤ Lib.index l [58] ∧ rightL (l.take (Lib.index l [58]).toNat) (trimL (l.drop ((Lib.index l [58]).toNat + 1))) = true then some ⟨bs (l.take (Lib.index l [58]).toNat), bs (trimL (l.drop ((Lib.index l [58]).toNat + 1)))⟩ else none
def outF : Option S33 → ByteArray × ByteArray × Bool → Prop
  | some x, q => q = (x.f0, x.f1, true)
  | none, q => q.2.2 = false
theorem ref_field_l0 (s : ByteArray) (hs : s.size ≤ 4294967000) : ∀ (d : Nat) (i : Int), 0 ≤ i → i + d = s.size → (i = 0 ∨ Lib.index s.data.toList [58] = if Lib.index (s.data.toList.drop i.toNat) [58] = -1 then -1 else i + Lib.index (s.data.toList.drop i.toNat) [58]) →
    ∃ q, Ev (fun k => mandolineref07_field.l0 k s i) q ∧ outF (fieldL s.data.toList) q := by
  intro d
  induction d with
  | zero =>
    intro i h0 h1 hi
    have e : Lib.index s.data.toList [58] = -1 := by
      rcases hi with rfl | hi
      · have : s.data.toList = [] := List.eq_nil_of_length_eq_zero (by rw [← size_list]; omega)
        rw [this]; rfl
      · rw [hi, drop_end (by rw [← size_list]; omega)]; rfl
    refine ⟨_, Ev.step (fun k => by rw [mandolineref07_field.l0]) (by simp (disch := omega) only [if_neg]; exact Ev.const rfl), ?_⟩
    unfold fieldL
    rw [e, if_neg (by omega)]
    rfl
  | succ d ih =>
    intro i h0 h1 hi
    obtain ⟨b, hd, hb⟩ := bt_drop (s := s) h0 (by omega)
    have hi' : Lib.index s.data.toList [58] = if Lib.index (s.data.toList.drop i.toNat) [58] = -1 then -1 else i + Lib.index (s.data.toList.drop i.toNat) [58] := by
      rcases hi with rfl | hi
      · rw [Int.toNat_zero, List.drop_zero]; split <;> omega
      · exact hi
    rw [hd, colon_cons] at hi'
    have hge := Lib.index_ge (s.data.toList.drop (i + 1).toNat) [58]
    by_cases h58 : b = 58
    · subst h58
      rw [if_pos rfl, if_neg (by omega), Int.add_zero] at hi'
      have e1 : (s.extract ((i + 1 : Int)).toNat s.size).data.toList = s.data.toList.drop (i + 1).toNat := by
        rw [extract_list, List.take_of_length_le]
        rw [List.length_drop, ← size_list]
        omega
      have e2 : (s.extract 0 i.toNat).data.toList = s.data.toList.take i.toNat := by rw [extract_list, List.drop_zero, Nat.sub_zero]
      have z1 : (s.extract ((i + 1 : Int)).toNat s.size).size ≤ s.size := by rw [size_list, e1, List.length_drop, ← size_list]; omega
      have z2 : (s.extract 0 i.toNat).size ≤ s.size := by rw [size_list, e2, List.length_take, ← size_list]; omega
      have ht := ref_trim_f (s.extract ((i + 1 : Int)).toNat s.size) (by omega)
      rw [e1] at ht
      have zt : (bs (trimL (s.data.toList.drop (i + 1).toNat))).size ≤ s.size := by
        rw [bs_size]
        have h1 : (trimL (s.data.toList.drop (i + 1).toNat)).length ≤ (s.data.toList.drop (i + 1).toNat).length := by
          unfold trimL Lib.trimS Lib.trimLeftS Lib.trimRightS
          refine Nat.le_trans (List.Sublist.length_le (List.dropWhile_sublist _)) ?_
          rw [List.length_reverse]
          refine Nat.le_trans (List.Sublist.length_le (List.dropWhile_sublist _)) ?_
          rw [List.length_reverse]
          exact Nat.le_refl _
        rw [List.length_drop, ← size_list] at h1
        omega
      have hr := ref_Right_f (s.extract 0 i.toNat) (bs (trimL (s.data.toList.drop (i + 1).toNat))) (by omega) (by omega)
      rw [e2, bs_list] at hr
      refine ⟨(s.extract 0 i.toNat, bs (trimL (s.data.toList.drop (i + 1).toNat)), rightL (s.data.toList.take i.toNat) (trimL (s.data.toList.drop (i + 1).toNat))), ?_, ?_⟩
      · refine Ev.step (fun k => by rw [mandolineref07_field.l0]) ?_
        simp (disch := omega) only [if_pos, wrap64_eq, hb]
        refine Ev.pos (by rfl) ?_
        refine Ev.bind ht ?_
        refine Ev.bind hr ?_
        exact Ev.const rfl
      · unfold fieldL
        rw [hi', show i.toNat + 1 = (i + 1).toNat by omega]
        have eb : bs (s.data.toList.take i.toNat) = s.extract 0 i.toNat := ext_list (by rw [bs_list, e2])
        rw [eb]
        cases hrr : rightL (s.data.toList.take i.toNat) (trimL (s.data.toList.drop (i + 1).toNat)) with
        | true => rw [if_pos ⟨h0, rfl⟩]; rfl
        | false => rw [if_neg (by simp)]; rfl
    · rw [if_neg h58] at hi'
      obtain ⟨q, hq, ho⟩ := ih (i + 1) (by omega) (by omega) (Or.inr (by
        rw [hi']
        split
        · rename_i h; rw [if_pos rfl]
        · rename_i h; rw [if_neg (by omega)]; omega))
      refine ⟨q, ?_, ho⟩
      refine Ev.step (fun k => by rw [mandolineref07_field.l0]) ?_
      simp (disch := omega) only [if_pos, wrap64_eq, hb]
      refine Ev.neg (fun e => h58 (byte_eq.1 (e.trans rfl))) ?_
      exact hq
theorem ref_field_f (s : ByteArray) (hs : s.size ≤ 4294967000) : ∃ q, Ev (fun k => mandolineref07_field.f k s) q ∧ outF (fieldL s.data.toList) q :=
  ref_field_l0 s hs s.size 0 (by omega) (by omega) (.inl rfl)

/-! ### a block -/
def parseL (s : List UInt8) : Nat → Nat → List S33 → List S33 × Int × Int
  | 0, _, _ => ([], 0, 0)
  | n + 1, a, acc => if Lib.index (s.drop a) eol < 0 then (if s.length ≤ 65536 then ([], 0, 3) else ([], 0, 4)) else
      if 65536 < a + (Lib.index (s.drop a) eol).toNat + 2 then ([], 0, 4) else if Lib.index (s.drop a) eol = 0 then (acc, ((a + 2 : Nat) : Int), 0) else if acc.length = 100 then ([], 0, 4) else
        match fieldL ((s.drop a).take (Lib.index (s.drop a) eol).toNat) with
        | none => ([], 0, 2)
        | some x => parseL s n (a + (Lib.index (s.drop a) eol).toNat + 2) (acc ++ [x])
theorem cut_eol (l : List UInt8) : Lib.cut l eol = if 0 ≤ Lib.index l eol then (l.take (Lib.index l eol).toNat, l.drop ((Lib.index l eol).toNat + 2), true) else (l, [], false) := rfl
theorem cut_colon (l : List UInt8) : Lib.cut l [58] = if 0 ≤ Lib.index l [58] then (l.take (Lib.index l [58]).toNat, l.drop ((Lib.index l [58]).toNat + 1), true) else (l, [], false) := rfl
theorem trimL_len (l : List UInt8) : (trimL l).length ≤ l.length := by
  unfold trimL Lib.trimS Lib.trimLeftS Lib.trimRightS
  refine Nat.le_trans (List.Sublist.length_le (List.dropWhile_sublist _)) ?_
  rw [List.length_reverse]
  refine Nat.le_trans (List.Sublist.length_le (List.dropWhile_sublist _)) ?_
  rw [List.length_reverse]
  exact Nat.le_refl _
theorem extract_end (s : ByteArray) (a : Nat) : (s.extract a s.size).data.toList = s.data.toList.drop a := by
  rw [extract_list, List.take_of_length_le]
  rw [List.length_drop, ← size_list]
  omega
theorem field_Parse_l0 (s : ByteArray) (hs : s.size ≤ 2147483647) : ∀ (n a : Nat) (acc : List S33), a ≤ s.size → s.size - a < n → acc.length ≤ 100 →
    Ev (fun k => field_Parse.l0 k s acc a) (parseL s.data.toList n a acc) := by
  intro n
  induction n with
  | zero => intro a acc h0 h1; omega
  | succ n ih =>
    intro a acc h0 h1 h2
    have z := size_list s
    have hroom := eol_room (s.data.toList.drop a)
    have hge := Lib.index_ge (s.data.toList.drop a) eol
    have hdl : (s.data.toList.drop a).length = s.size - a := by rw [List.length_drop, ← z]
    refine Ev.step (fun k => by rw [field_Parse.l0]) ?_
    have hc : strings_Cut.f (s.extract (a : Int).toNat s.size) (⟨#[13, 10]⟩ : ByteArray) = some (⟨(Lib.cut (s.data.toList.drop a) eol).1.toArray⟩, ⟨(Lib.cut (s.data.toList.drop a) eol).2.1.toArray⟩, (Lib.cut (s.data.toList.drop a) eol).2.2) := by
      unfold strings_Cut.f
      have e : (s.extract (a : Int).toNat s.size).data.toList = s.data.toList.drop a := by rw [Int.toNat_natCast]; exact extract_end s a
      rw [if_pos (by rw [size_list, e, hdl]; omega), e]
      rfl
    refine Ev.pos (by omega) (Ev.pos (by omega) ?_)
    simp only [hc, Option.bind_some]
    rw [parseL, cut_eol]
    by_cases hi : 0 ≤ Lib.index (s.data.toList.drop a) eol
    · have hr := hroom hi
      rw [if_pos hi, if_neg (by omega)]
      simp only [if_true]
      have hln : ((⟨((s.data.toList.drop a).take (Lib.index (s.data.toList.drop a) eol).toNat).toArray⟩ : ByteArray).size : Int) = Lib.index (s.data.toList.drop a) eol := by
        rw [size_list]
        simp only [List.toArray, List.length_take, hdl]
        omega
      rw [hln, wrap64_eq (x := Lib.index (s.data.toList.drop a) eol + 2) (by omega) (by omega), wrap64_eq (by omega) (by omega)]
      refine Ev.step (fun k => by rw [field_Parse.j1]) ?_
      simp only [Bool.false_eq_true, if_false, if_true]
      refine Ev.step (fun k => by rw [field_Parse.j2]) ?_
      by_cases hbig : 65536 < a + (Lib.index (s.data.toList.drop a) eol).toNat + 2
      · rw [if_pos hbig]
        refine Ev.pos (decide_eq_true (by omega)) ?_
        exact Ev.const rfl
      · rw [if_neg hbig]
        refine Ev.neg (by simp; omega) ?_
        have htl : ((⟨((s.data.toList.drop a).take (Lib.index (s.data.toList.drop a) eol).toNat).toArray⟩ : ByteArray).toList = []) ↔ Lib.index (s.data.toList.drop a) eol = 0 := by
          rw [toList_data]
          show (s.data.toList.drop a).take (Lib.index (s.data.toList.drop a) eol).toNat = [] ↔ _
          constructor
          · intro h
            have := congrArg List.length h
            rw [List.length_take, hdl, List.length_nil] at this
            omega
          · intro h
            rw [h]
            rfl
        by_cases h0' : Lib.index (s.data.toList.drop a) eol = 0
        · rw [if_pos h0']
          refine Ev.pos (htl.2 h0') ?_
          exact Ev.const (by rw [h0']; congr 1)
        · rw [if_neg h0']
          refine Ev.neg (fun h => h0' (htl.1 h)) ?_
          by_cases h100 : acc.length = 100
          · rw [if_pos h100]
            refine Ev.pos (by omega) ?_
            exact Ev.const rfl
          · rw [if_neg h100]
            refine Ev.neg (by omega) ?_
            generalize hL : (s.data.toList.drop a).take (Lib.index (s.data.toList.drop a) eol).toNat = L
            have hLl : L.length ≤ s.size := by rw [← hL, List.length_take, hdl]; omega
            have hc2 : strings_Cut.f (⟨L.toArray⟩ : ByteArray) (⟨#[58]⟩ : ByteArray) = some (⟨(Lib.cut L [58]).1.toArray⟩, ⟨(Lib.cut L [58]).2.1.toArray⟩, (Lib.cut L [58]).2.2) := by
              unfold strings_Cut.f
              rw [if_pos (by rw [size_list]; show L.length < _; omega)]
            simp only [hc2, Option.bind_some]
            unfold fieldL
            rw [cut_colon]
            by_cases hk : 0 ≤ Lib.index L [58]
            · rw [if_pos hk]
              have ht : strings_Trim.f (⟨(L.drop ((Lib.index L [58]).toNat + 1)).toArray⟩ : ByteArray) (⟨#[32, 9]⟩ : ByteArray) = some (bs (trimL (L.drop ((Lib.index L [58]).toNat + 1)))) := strings_Trim_blank _ (by rw [size_list]; simp; omega)
              simp only [ht, Option.bind_some, if_true]
              have hrf := field_Right_f (bs (L.take (Lib.index L [58]).toNat)) (bs (trimL (L.drop ((Lib.index L [58]).toNat + 1)))) (by rw [bs_size, List.length_take]; omega) (by rw [bs_size]; have := trimL_len (L.drop ((Lib.index L [58]).toNat + 1)); rw [List.length_drop] at this; omega)
              rw [bs_list, bs_list] at hrf
              refine Ev.bind hrf ?_
              cases hrr : rightL (L.take (Lib.index L [58]).toNat) (trimL (L.drop ((Lib.index L [58]).toNat + 1))) with
              | false =>
                simp only [Bool.false_eq_true, if_false, and_false]
                exact Ev.const rfl
              | true =>
                simp only [if_true, and_true, hk]
                refine Ev.pos (by omega) ?_
                have := ih (a + (Lib.index (s.data.toList.drop a) eol).toNat + 2) (acc ++ [⟨bs (L.take (Lib.index L [58]).toNat), bs (trimL (L.drop ((Lib.index L [58]).toNat + 1)))⟩]) (by omega) (by omega) (by simp; omega)
                rw [show ((a : Int) + (Lib.index (s.data.toList.drop a) eol + 2)) = ((a + (Lib.index (s.data.toList.drop a) eol).toNat + 2 : Nat) : Int) by omega]
                exact this
            · rw [if_neg hk]
              have ht : strings_Trim.f (⟨(([] : List UInt8)).toArray⟩ : ByteArray) (⟨#[32, 9]⟩ : ByteArray) = some (bs (trimL [])) := strings_Trim_blank _ (by decide)
              simp only [ht, Option.bind_some, Bool.false_eq_true, if_false, hk, false_and]
              exact Ev.const rfl
    · rw [if_neg hi, if_pos (by omega)]
      simp only [Bool.false_eq_true, if_false]
      refine Ev.step (fun k => by rw [field_Parse.j1]) ?_
      by_cases h6 : s.data.toList.length ≤ 65536
      · rw [if_pos h6]
        refine Ev.pos (decide_eq_true (by omega)) ?_
        exact Ev.const rfl
      · rw [if_neg h6]
        refine Ev.neg (by simp; omega) (Ev.neg (by simp) ?_)
        refine Ev.step (fun k => by rw [field_Parse.j2]) ?_
        exact Ev.const rfl
theorem field_Parse_f (s : ByteArray) (hs : s.size ≤ 2147483647) : Ev (fun k => field_Parse.f k s) (parseL s.data.toList (s.size + 1) 0 []) := field_Parse_l0 s hs (s.size + 1) 0 [] (by omega) (by omega) (by simp)
theorem ref_Parse_l0 (s : ByteArray) (hs : s.size ≤ 2147483647) : ∀ (n a : Nat) (acc : List S33), a ≤ s.size → s.size - a < n → acc.length ≤ 100 →
    Ev (fun k => mandolineref07_Parse.l0 k s acc a) (parseL s.data.toList n a acc) := by
  intro n
  induction n with
  | zero => intro a acc h0 h1; omega
  | succ n ih =>
    intro a acc h0 h1 h2
    have z := size_list s
    have hroom := eol_room (s.data.toList.drop a)
    have hge := Lib.index_ge (s.data.toList.drop a) eol
    have hdl : (s.data.toList.drop a).length = s.size - a := by rw [List.length_drop, ← z]
    refine Ev.step (fun k => by rw [mandolineref07_Parse.l0]) ?_
    have hline := ref_line_f s (by omega) a (by omega) (by omega)
    rw [Int.toNat_natCast] at hline
    refine Ev.bind hline ?_
    rw [parseL]
    by_cases hi : 0 ≤ Lib.index (s.data.toList.drop a) eol
    · have hr := hroom hi
      rw [if_neg (by omega : ¬ Lib.index (s.data.toList.drop a) eol = -1), if_neg (by omega : ¬ Lib.index (s.data.toList.drop a) eol < 0)]
      refine Ev.neg (by omega) ?_
      refine Ev.step (fun k => by rw [mandolineref07_Parse.j1]) ?_
      refine Ev.neg (by simp) (Ev.neg (by omega) ?_)
      rw [wrap64_eq (x := (a : Int) + Lib.index (s.data.toList.drop a) eol + 2) (by omega) (by omega)]
      refine Ev.step (fun k => by rw [mandolineref07_Parse.j2]) ?_
      by_cases hbig : 65536 < a + (Lib.index (s.data.toList.drop a) eol).toNat + 2
      · rw [if_pos hbig]
        refine Ev.pos (decide_eq_true (by omega)) ?_
        exact Ev.const rfl
      · rw [if_neg hbig]
        refine Ev.neg (by simp; omega) ?_
        by_cases h0' : Lib.index (s.data.toList.drop a) eol = 0
        · rw [if_pos h0']
          refine Ev.pos (by omega) ?_
          rw [wrap64_eq (by omega) (by omega)]
          exact Ev.const rfl
        · rw [if_neg h0']
          refine Ev.neg (by omega) ?_
          by_cases h100 : acc.length = 100
          · rw [if_pos h100]
            refine Ev.pos (by omega) ?_
            exact Ev.const rfl
          · rw [if_neg h100]
            refine Ev.neg (by omega) (Ev.pos (by omega) (Ev.pos (by omega) (Ev.pos (by omega) ?_)))
            have ex : (s.extract (a : Int).toNat ((a : Int) + Lib.index (s.data.toList.drop a) eol).toNat).data.toList = (s.data.toList.drop a).take (Lib.index (s.data.toList.drop a) eol).toNat := by
              rw [extract_list, Int.toNat_natCast, show ((a : Int) + Lib.index (s.data.toList.drop a) eol).toNat - a = (Lib.index (s.data.toList.drop a) eol).toNat by omega]
            obtain ⟨q, hq, ho⟩ := ref_field_f (s.extract (a : Int).toNat ((a : Int) + Lib.index (s.data.toList.drop a) eol).toNat) (by rw [size_list, ex, List.length_take, hdl]; omega)
            rw [ex] at ho
            refine Ev.bind hq ?_
            cases hf : fieldL ((s.data.toList.drop a).take (Lib.index (s.data.toList.drop a) eol).toNat) with
            | none =>
              rw [hf] at ho
              have ho' : q.2.2 = false := ho
              simp only [ho', Bool.false_eq_true, if_false]
              exact Ev.const rfl
            | some x =>
              rw [hf] at ho
              have ho' : q = (x.f0, x.f1, true) := ho
              subst ho'
              simp only [if_true]
              refine Ev.pos (by omega) ?_
              rw [wrap64_eq (x := (a : Int) + Lib.index (s.data.toList.drop a) eol + 2) (by omega) (by omega)]
              have := ih (a + (Lib.index (s.data.toList.drop a) eol).toNat + 2) (acc ++ [x]) (by omega) (by omega) (by simp; omega)
              rw [show ((a : Int) + Lib.index (s.data.toList.drop a) eol + 2) = ((a + (Lib.index (s.data.toList.drop a) eol).toNat + 2 : Nat) : Int) by omega]
              exact this
    · have e1 : Lib.index (s.data.toList.drop a) eol = -1 := by omega
      rw [if_pos e1, if_pos (by omega : Lib.index (s.data.toList.drop a) eol < 0)]
      refine Ev.pos (by omega) ?_
      refine Ev.step (fun k => by rw [mandolineref07_Parse.j1]) ?_
      by_cases h6 : s.data.toList.length ≤ 65536
      · rw [if_pos h6]
        refine Ev.pos (decide_eq_true (by omega)) ?_
        exact Ev.const rfl
      · rw [if_neg h6]
        refine Ev.neg (by simp; omega) (Ev.pos (by omega) ?_)
        refine Ev.step (fun k => by rw [mandolineref07_Parse.j2]) ?_
        exact Ev.const rfl
theorem ref_Parse_f (s : ByteArray) (hs : s.size ≤ 2147483647) : Ev (fun k => mandolineref07_Parse.f k s) (parseL s.data.toList (s.size + 1) 0 []) := ref_Parse_l0 s hs (s.size + 1) 0 [] (by omega) (by omega) (by simp)
theorem parseL_len (s : List UInt8) : ∀ (n a : Nat) (acc : List S33), acc.length ≤ 100 → (parseL s n a acc).1.length ≤ 100
  | 0, a, acc, h => by simp [parseL]
  | n + 1, a, acc, h => by
    rw [parseL]
    repeat' split
    all_goals first | (simp; done) | exact h | skip
    rename_i h100 _ x _
    exact parseL_len s n _ _ (by simp; omega)
end Go.Proofs.YtcdjeofhhhffcaaDoor.Pure
