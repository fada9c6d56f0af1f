/- What List of layer 5 (tag), the program's and the document's, computes: the parts between commas outside of quotes, each a tag. Texts of at most a million bytes. -/
import Derived.Test.YtbgbbpmbmccgiaaDoorX0
import Derived.Test.YtbgbbpmbmccgiaaDoorX3
import Derived.Test.YtbgbbpmbmccgiaaDoorX5
import Derived.Test.YtbgbbpmbmccgiaaDoorX6
import Derived.Test.YtbgbbpmbmccgiaaDoorPureTexts
namespace Go.Proofs.YtbgbbpmbmccgiaaDoor.Pure
open Go Go.RowKit Go.Proofs.YtbgbbpmbmccgiaaDoor Go.Proofs.YtbgbbpmbmccgiaaDoor.X Go.Proofs.YtbgbbpmbmccgiaaDoorW.PrintWords
set_option linter.unusedVariables false
set_option linter.unusedSimpArgs false

/-- The quotes' state behind a byte. -/
def stepQ (q : Bool) (b : UInt8) : Bool := if b = 34 then !q else q
/-- What stands between the commas outside of quotes. -/
def splitL (q : Bool) (cur : List UInt8) : List UInt8 → List (List UInt8)
  | [] => [cur]
  | b :: r => if b = 44 ∧ stepQ q b = false then cur :: splitL (stepQ q b) [] r else splitL (stepQ q b) (cur ++ [b]) r
def partsL (ps : List (List UInt8)) : List (List UInt8) := (ps.map trimL).filter (fun p => decide (p ≠ []))
def collect (ps : List (List UInt8)) : Option (List S23) := ps.mapM fun p => (parseL p).map fun q => (⟨bs q.1, q.2⟩ : S23)
def outL : Option (List S23) → List S23 × Bool × Int
  | none => ([], false, 2)
  | some l => if l.length = 0 then ([], false, 2) else if 64 < l.length then ([], false, 4) else (l, false, 0)
def listL (l : List UInt8) : List S23 × Bool × Int := if trimL l = [42] then ([], true, 0) else outL (collect (partsL (splitL false [] l)))

theorem partsL_cons (p : List UInt8) (ps : List (List UInt8)) : partsL (p :: ps) = if trimL p = [] then partsL ps else trimL p :: partsL ps := by
  unfold partsL
  rw [List.map_cons, List.filter_cons]
  by_cases h : trimL p = []
  · simp [h]
  · simp [h]
theorem partsL_nil : partsL [] = [] := rfl

theorem strings_Trim_cut (s : ByteArray) (a b : Int) (h0 : 0 ≤ a) (h1 : a ≤ b) (h2 : b ≤ s.size) (hs : s.size ≤ 1000000) : strings_Trim.f (s.extract a.toNat b.toNat) (⟨#[32, 9]⟩ : ByteArray) = some (bs (trimL ((s.data.toList.drop a.toNat).take (b.toNat - a.toNat)))) := by
  have hz : (s.extract a.toNat b.toNat).size ≤ 1000000 := by
    rw [size_list (s.extract _ _), extract_list, List.length_take, List.length_drop, ← size_list]
    omega
  rw [strings_Trim_blank _ (by omega), extract_list]

theorem tag_parts_l0 (s : ByteArray) (hs : s.size ≤ 1000000) : ∀ (d : Nat) (acc : List ByteArray) (a i : Int) (q : Bool), 0 ≤ a → a ≤ i → i + d = s.size → (acc.length : Int) ≤ i →
    Ev (fun k => tag_parts.l0 k s acc a q (wrap64 ((s.size : Int) + 1)) i) (acc ++ (partsL (splitL q ((s.data.toList.drop a.toNat).take (i.toNat - a.toNat)) (s.data.toList.drop i.toNat))).map bs) := by
  intro d
  induction d with
  | zero =>
    intro acc a i q h0 h1 h2 h3
    have hp : splitL q ((s.data.toList.drop a.toNat).take (i.toNat - a.toNat)) (s.data.toList.drop i.toNat) = [(s.data.toList.drop a.toNat).take (i.toNat - a.toNat)] := by
      rw [show s.data.toList.drop i.toNat = [] from List.drop_of_length_le (by rw [← size_list]; omega)]
      rfl
    rw [hp, partsL_cons, partsL_nil]
    refine Ev.step (fun k => by rw [tag_parts.l0]) ?_
    simp (disch := omega) only [if_pos, if_neg, wrap64_eq]
    refine Ev.step (fun k => by rw [tag_parts.j1]) ?_
    simp only [Bool.false_eq_true, if_false]
    refine Ev.step (fun k => by rw [tag_parts.j2]) ?_
    simp (disch := omega) only [if_pos, if_neg]
    refine Ev.step (fun k => by rw [tag_parts.j3]) ?_
    simp (disch := omega) only [if_pos, if_neg, Bool.false_eq_true, if_false, strings_Trim_cut s a i h0 h1 (by omega) hs, Option.bind_some, wrap64_eq, toList_data, bs_list]
    by_cases ht : trimL ((s.data.toList.drop a.toNat).take (i.toNat - a.toNat)) = []
    · simp only [ht, if_true]
      refine Ev.step (fun k => by rw [tag_parts.l0]) ?_
      simp (disch := omega) only [if_neg]
      exact Ev.const (by simp)
    · simp only [ht, if_false]
      refine Ev.step (fun k => by rw [tag_parts.l0]) ?_
      simp (disch := omega) only [if_neg]
      exact Ev.const (by simp)
  | succ d ih =>
    intro acc a i q h0 h1 h2 h3
    obtain ⟨b, hd, hb⟩ := bt_drop (s := s) (i := i) (by omega) (by omega)
    have ht : (s.data.toList.drop a.toNat).take ((i + 1).toNat - a.toNat) = (s.data.toList.drop a.toNat).take (i.toNat - a.toNat) ++ [b] := by
      rw [show (i + 1).toNat - a.toNat = (i.toNat - a.toNat) + 1 by omega, List.take_add_one, List.getElem?_drop, show a.toNat + (i.toNat - a.toNat) = i.toNat by omega]
      have : s.data.toList[i.toNat]? = some b := by
        have := congrArg (fun l => l[0]?) hd
        simpa using this
      rw [this]
      rfl
    rw [hd]
    have hq : ((b.toNat : Int) == 34) = decide (b = 34) := by
      rw [Bool.eq_iff_iff, beq_iff_eq, decide_eq_true_eq, ← byte_eq]
      rfl
    have hq2 : ((b.toNat : Int) != 44) = !decide (b = 44) := by
      have : ((b.toNat : Int) == 44) = decide (b = 44) := by
        rw [Bool.eq_iff_iff, beq_iff_eq, decide_eq_true_eq, ← byte_eq]
        rfl
      rw [bne, this]
    refine Ev.step (fun k => by rw [tag_parts.l0]) ?_
    simp (disch := omega) only [if_pos, if_neg, wrap64_eq, hb, hq]
    have rest : ∀ q', q' = stepQ q b → Ev (fun k => tag_parts.j2 k s acc a q' i ((s.size : Int) + 1) i) (acc ++ (partsL (splitL q ((s.data.toList.drop a.toNat).take (i.toNat - a.toNat)) (b :: s.data.toList.drop (i + 1).toNat))).map bs) := by
      intro q' hq'
      have go : b ≠ 44 ∨ q' = true → Ev (fun k => tag_parts.l0 k s acc a q' ((s.size : Int) + 1) (i + 1)) (acc ++ (partsL (splitL q ((s.data.toList.drop a.toNat).take (i.toNat - a.toNat)) (b :: s.data.toList.drop (i + 1).toNat))).map bs) := by
        intro hc
        have ih' := ih acc a (i + 1) q' h0 (by omega) (by omega) (by omega)
        rw [wrap64_eq (by omega) (by omega), ht] at ih'
        rw [splitL, if_neg, ← hq']
        · exact ih'
        · rw [← hq']
          rintro ⟨e1, e2⟩
          rcases hc with hc | hc
          · exact hc e1
          · rw [hc] at e2
            cases e2
      refine Ev.step (fun k => by rw [tag_parts.j2]) ?_
      simp (disch := omega) only [if_pos, if_neg, hb, hq2]
      cases hqq : q' with
      | true =>
        simp only [if_true]
        refine Ev.step (fun k => by rw [tag_parts.j3]) ?_
        simp (disch := omega) only [if_true, wrap64_eq]
        have := go (.inr hqq)
        rw [hqq] at this
        exact this
      | false =>
        simp only [Bool.false_eq_true, if_false]
        refine Ev.step (fun k => by rw [tag_parts.j3]) ?_
        by_cases h44 : b = 44
        · subst h44
          have ih' := fun acc' h => ih acc' (i + 1) (i + 1) false (by omega) (by omega) (by omega) h
          rw [wrap64_eq (by omega) (by omega)] at ih'
          simp only [Nat.sub_self, List.take_zero] at ih'
          simp (disch := omega) only [decide_true, Bool.not_true, Bool.false_eq_true, if_false, if_pos, strings_Trim_cut s a i h0 h1 (by omega) hs, Option.bind_some, wrap64_eq, toList_data, bs_list]
          rw [splitL, if_pos ⟨rfl, by rw [← hq', hqq]⟩, ← hq', hqq, partsL_cons]
          by_cases hte : trimL ((s.data.toList.drop a.toNat).take (i.toNat - a.toNat)) = []
          · simp only [hte, if_true]
            exact ih' acc (by omega)
          · simp only [hte, if_false]
            have := ih' (acc ++ [bs (trimL ((s.data.toList.drop a.toNat).take (i.toNat - a.toNat)))]) (by simp; omega)
            simpa using this
        · simp (disch := omega) only [h44, decide_false, Bool.not_false, if_true, wrap64_eq]
          have := go (.inl h44)
          rw [hqq] at this
          exact this
    refine Ev.step (fun k => by rw [tag_parts.j1]) ?_
    by_cases h34 : b = 34
    · simp only [h34, decide_true, if_true]
      rw [← h34]
      exact rest (!q) (by simp [stepQ, h34])
    · simp only [h34, decide_false, Bool.false_eq_true, if_false]
      exact rest q (by simp [stepQ, h34])
theorem tag_parts_f (s : ByteArray) (hs : s.size ≤ 1000000) : Ev (fun k => tag_parts.f k s) ((partsL (splitL false [] s.data.toList)).map bs) := by
  have := tag_parts_l0 s hs s.size [] 0 0 false (by omega) (by omega) (by omega) (by simp)
  unfold tag_parts.f
  simpa using this

theorem splitL_len : ∀ (l : List UInt8) (q : Bool) (cur : List UInt8), (splitL q cur l).length ≤ l.length + 1
  | [], q, cur => by simp [splitL]
  | b :: l, q, cur => by
    rw [splitL]
    split
    · have := splitL_len l (stepQ q b) []
      simp
      omega
    · have := splitL_len l (stepQ q b) (cur ++ [b])
      simp
      omega
theorem partsL_len (ps : List (List UInt8)) : (partsL ps).length ≤ ps.length := by
  unfold partsL
  exact Nat.le_trans (List.length_filter_le _ _) (by simp)
theorem splitL_sizes : ∀ (l : List UInt8) (q : Bool) (cur : List UInt8), ∀ p ∈ splitL q cur l, p.length ≤ cur.length + l.length
  | [], q, cur, p, h => by
    rw [splitL, List.mem_singleton] at h
    rw [h]
    simp
  | b :: l, q, cur, p, h => by
    rw [splitL] at h
    split at h
    · rcases List.mem_cons.1 h with rfl | h
      · rw [List.length_cons]
        omega
      · have := splitL_sizes l _ _ p h
        rw [List.length_nil] at this
        rw [List.length_cons]
        omega
    · have := splitL_sizes l _ _ p h
      rw [List.length_append, List.length_singleton] at this
      rw [List.length_cons]
      omega
theorem trimL_len (l : List UInt8) : (trimL l).length ≤ l.length := trimS_len _ _

theorem collect_cons (p : List UInt8) (ps : List (List UInt8)) : collect (p :: ps) = (parseL p).bind fun q => (collect ps).map fun l => (⟨bs q.1, q.2⟩ : S23) :: l := by
  unfold collect
  rw [List.mapM_cons]
  cases parseL p with
  | none => rfl
  | some q =>
    simp
    cases List.mapM (fun p => (parseL p).map fun q => (⟨bs q.1, q.2⟩ : S23)) ps <;> rfl
def addL (acc : List S23) (o : Option (List S23)) : List S23 × Bool × Int := outL (o.map (acc ++ ·))
theorem addL_cons (acc : List S23) (q : List UInt8 × Bool) (o : Option (List S23)) : addL acc (o.map fun l => (⟨bs q.1, q.2⟩ : S23) :: l) = addL (acc ++ [⟨bs q.1, q.2⟩]) o := by
  unfold addL
  cases o <;> simp
theorem outL_acc (acc : List S23) : outL (some acc) = if (acc.length : Int) = 0 then ([], false, 2) else if (acc.length : Int) > 64 then ([], false, 4) else (acc, false, 0) := by
  unfold outL
  by_cases h0 : acc.length = 0
  · simp [h0]
  · by_cases h1 : 64 < acc.length
    · simp (disch := omega) only [if_pos, if_neg]
    · simp (disch := omega) only [if_pos, if_neg]

theorem tag_List_l0 (ps : List (List UInt8)) (hp : ∀ p ∈ ps, p.length ≤ 1000000) (hz : ps.length ≤ 2000000) : ∀ (d : Nat) (acc : List S23) (i : Int), 0 ≤ i → i + d = ps.length → (acc.length : Int) ≤ i →
    Ev (fun k => tag_List.l0 k acc (ps.map bs) ps.length i) (addL acc (collect (ps.drop i.toNat))) := by
  intro d
  induction d with
  | zero =>
    intro acc i h0 h1 h2
    rw [drop_end (by omega)]
    refine Ev.step (fun k => by rw [tag_List.l0]) ?_
    simp (disch := omega) only [if_neg]
    have e : addL acc (collect []) = outL (some acc) := by simp [addL, collect]
    rw [e, outL_acc]
    by_cases h3 : (acc.length : Int) = 0
    · simp only [h3, if_true]
      exact Ev.now _
    · by_cases h4 : (acc.length : Int) > 64
      · simp only [h3, h4, if_true, if_false]
        exact Ev.now _
      · simp only [h3, h4, if_false]
        exact Ev.now _
  | succ d ih =>
    intro acc i h0 h1 h2
    have hd := getD_drop (l := ps) (z := []) (i := i) (by omega) (by omega)
    have hm := getD_mem (l := ps) (z := []) (i := i) (by omega) (by omega)
    have er : rdOf ByteArray.empty (ps.map bs) i = bs (ps.getD i.toNat []) := by
      unfold rdOf
      have hi : i.toNat < ps.length := by omega
      simp [List.getD_eq_getElem?_getD, hi]
    rw [hd, collect_cons]
    refine Ev.step (fun k => by rw [tag_List.l0]) ?_
    rw [er]
    have hl : ((ps.map bs).length : Int) = ps.length := by simp
    rw [hl]
    simp (disch := omega) only [if_pos, wrap64_eq]
    refine Ev.bind (tag_Parse_f _ (by rw [bs_size]; have := hp _ hm; omega)) ?_
    rw [bs_list]
    cases hq : parseL (ps.getD i.toNat []) with
    | none => exact Ev.const rfl
    | some q =>
      have := ih (acc ++ [⟨bs q.1, q.2⟩]) (i + 1) (by omega) (by omega) (by simp; omega)
      simp only [outP, if_true, Option.bind_some]
      rw [addL_cons]
      exact this
theorem tag_List_f (s : ByteArray) (hs : s.size ≤ 1000000) : Ev (fun k => tag_List.f k s) (listL s.data.toList) := by
  unfold tag_List.f listL
  simp only [strings_Trim_blank s (by omega), Option.bind_some, toList_data, bs_list]
  by_cases h : trimL s.data.toList = [42]
  · simp only [h, if_true]
    exact Ev.now _
  · simp only [h, if_false]
    refine Ev.bind (tag_parts_f s hs) ?_
    have h1 := splitL_len s.data.toList false []
    rw [← size_list] at h1
    have h2 := partsL_len (splitL false [] s.data.toList)
    have := tag_List_l0 (partsL (splitL false [] s.data.toList)) (fun p hp => by
      unfold partsL at hp
      obtain ⟨p', hp', rfl⟩ := List.mem_map.1 (List.mem_filter.1 hp).1
      have h3 := splitL_sizes _ _ _ p' hp'
      have h4 := trimL_len p'
      rw [← size_list] at h3
      simp at h3
      omega) (by omega) (partsL (splitL false [] s.data.toList)).length [] 0 (by omega) (by omega) (by simp)
    have e : addL [] (collect (List.drop (0 : Int).toNat (partsL (splitL false [] s.data.toList)))) = outL (collect (partsL (splitL false [] s.data.toList))) := by
      unfold addL
      simp
    rw [e] at this
    simpa using this
end Go.Proofs.YtbgbbpmbmccgiaaDoor.Pure
