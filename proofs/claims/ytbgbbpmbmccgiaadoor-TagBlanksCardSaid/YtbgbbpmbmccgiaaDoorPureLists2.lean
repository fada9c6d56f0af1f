/- What the document's List of layer 5 (tag) computes: the same. Texts of at most a million bytes. -/
import Derived.Test.YtbgbbpmbmccgiaaDoorX0
import Derived.Test.YtbgbbpmbmccgiaaDoorX18
import Derived.Test.YtbgbbpmbmccgiaaDoorX19
import Derived.Test.YtbgbbpmbmccgiaaDoorPureList
namespace Go.Proofs.YtbgbbpmbmccgiaaDoor.Pure
open Go Go.RowKit Go.Proofs.YtbgbbpmbmccgiaaDoor Go.Proofs.YtbgbbpmbmccgiaaDoor.X Go.Proofs.YtbgbbpmbmccgiaaDoorW.PrintWords
set_option linter.unusedVariables false
set_option linter.unusedSimpArgs false

theorem trimL_idem (l : List UInt8) : trimL (trimL l) = trimL l := trim_idem l _
theorem parseL_trim (l : List UInt8) : parseL (trimL l) = parseL l := by
  unfold parseL
  rw [trimL_idem]
theorem ref_List_l1 (ps : List (List UInt8)) (hp : ∀ p ∈ ps, p.length ≤ 1000000) (hz : ps.length ≤ 2000000) : ∀ (d : Nat) (acc : List S23) (i : Int), 0 ≤ i → i + d = ps.length → (acc.length : Int) ≤ i →
    Ev (fun k => mandolineref05_List.l1 k (ps.map bs) acc i) (addL acc (collect (partsL (ps.drop i.toNat)))) := by
  intro d
  induction d with
  | zero =>
    intro acc i h0 h1 h2
    rw [drop_end (by omega)]
    have hl : ((ps.map bs).length : Int) = ps.length := by simp
    refine Ev.step (fun k => by rw [mandolineref05_List.l1]) ?_
    rw [hl]
    simp (disch := omega) only [if_neg]
    have e : addL acc (collect (partsL [])) = outL (some acc) := by simp [addL, collect, partsL]
    rw [e, outL_acc]
    by_cases h3 : (acc.length : Int) = 0
    · simp only [h3, if_true]
      exact Ev.now _
    · by_cases h4 : (acc.length : Int) > 64
      · simp only [h3, h4, if_true, if_false]
        exact Ev.now _
      · simp only [h3, h4, if_false]
        exact Ev.now _
  | succ d ih =>
    intro acc i h0 h1 h2
    have hd := getD_drop (l := ps) (z := []) (i := i) (by omega) (by omega)
    have hm := getD_mem (l := ps) (z := []) (i := i) (by omega) (by omega)
    have er : rdOf ByteArray.empty (ps.map bs) i = bs (ps.getD i.toNat []) := by
      unfold rdOf
      have hi : i.toNat < ps.length := by omega
      simp [List.getD_eq_getElem?_getD, hi]
    have hl : ((ps.map bs).length : Int) = ps.length := by simp
    have hz := hp _ hm
    rw [hd, partsL_cons]
    refine Ev.step (fun k => by rw [mandolineref05_List.l1]) ?_
    rw [er, hl]
    simp (disch := omega) only [if_pos, wrap64_eq]
    refine Ev.bind (ref_trim_f _ (by rw [bs_size]; omega)) ?_
    simp only [toList_data, bs_list]
    by_cases ht : trimL (ps.getD i.toNat []) = []
    · simp only [ht, if_true]
      exact ih acc (i + 1) (by omega) (by omega) (by omega)
    · simp only [ht, if_false]
      refine Ev.bind (ref_Parse_f _ (by rw [bs_size]; omega)) ?_
      rw [bs_list, collect_cons, parseL_trim]
      cases hq : parseL (ps.getD i.toNat []) with
      | none => exact Ev.const rfl
      | some q =>
        have := ih (acc ++ [⟨bs q.1, q.2⟩]) (i + 1) (by omega) (by omega) (by simp; omega)
        simp only [outP, if_true, Option.bind_some]
        rw [addL_cons]
        exact this
theorem ref_List_l0 (s : ByteArray) (hs : s.size ≤ 1000000) (r : List S23 × Bool × Int) : ∀ (d : Nat) (acc : List (List UInt8)) (now : ByteArray) (i : Int) (q : Bool), 0 ≤ i → i + d = s.size → (acc.length : Int) ≤ i → (now.size : Int) ≤ i →
    Ev (fun k => mandolineref05_List.l1 k ((acc ++ splitL q now.data.toList (s.data.toList.drop i.toNat)).map bs) [] 0) r → Ev (fun k => mandolineref05_List.l0 k s (acc.map bs) now q i) r := by
  intro d
  induction d with
  | zero =>
    intro acc now i q h0 h1 h2 h3 hr
    have hl : (acc.map bs).length = acc.length := by simp
    rw [show s.data.toList.drop i.toNat = [] from List.drop_of_length_le (by rw [← size_list]; omega)] at hr
    refine Ev.step (fun k => by rw [mandolineref05_List.l0]) ?_
    rw [hl]
    simp (disch := omega) only [if_pos, if_neg]
    have e : ((acc ++ splitL q now.data.toList []).map bs) = acc.map bs ++ [now] := by simp [splitL, bs_of]
    rw [e] at hr
    exact hr
  | succ d ih =>
    intro acc now i q h0 h1 h2 h3 hr
    have hl : (acc.map bs).length = acc.length := by simp
    obtain ⟨b, hd, hb⟩ := bt_drop (s := s) (i := i) (by omega) (by omega)
    rw [hd] at hr
    have ex : (s.extract i.toNat (i + 1).toNat).data.toList = [b] := by
      rw [extract_list, hd, show (i + 1).toNat - i.toNat = 1 by omega]
      rfl
    have exz : (s.extract i.toNat (i + 1).toNat).size = 1 := by rw [size_list (s.extract _ _), ex]; rfl
    have en : (now ++ s.extract i.toNat (i + 1).toNat).data.toList = now.data.toList ++ [b] := by rw [append_list, ex]
    have enz : (now ++ s.extract i.toNat (i + 1).toNat).size = now.size + 1 := by rw [size_list, en, List.length_append, ← size_list]; rfl
    have keep : ∀ q', stepQ q b = q' → (b ≠ 44 ∨ q' = true) → Ev (fun k => mandolineref05_List.l0 k s (acc.map bs) (now ++ s.extract i.toNat (i + 1).toNat) q' (i + 1)) r := by
      intro q' hq hc
      refine ih acc _ (i + 1) q' (by omega) (by omega) (by omega) (by rw [enz]; omega) ?_
      rw [splitL, if_neg, hq] at hr
      · rw [en]
        exact hr
      · rw [hq]
        rintro ⟨e1, e2⟩
        rcases hc with hc | hc
        · exact hc e1
        · rw [hc] at e2
          cases e2
    refine Ev.step (fun k => by rw [mandolineref05_List.l0]) ?_
    rw [hl]
    simp (disch := omega) only [if_pos, if_neg, wrap64_eq, hb, exz]
    by_cases h34 : b = 34
    · subst h34
      have n44 : ¬ (((34 : UInt8).toNat : Int) = 44) := by decide
      have y34 : (((34 : UInt8).toNat : Int) = 34) := rfl
      simp only [y34, if_true, n44, if_false]
      exact keep (!q) (by simp [stepQ]) (.inl (by decide))
    · have n34 : ¬ ((b.toNat : Int) = 34) := fun e => h34 (UInt8.toNat_inj.1 (by show b.toNat = 34; omega))
      simp only [n34, if_false]
      by_cases h44 : b = 44
      · subst h44
        have y44 : (((44 : UInt8).toNat : Int) = 44) := rfl
        simp only [y44, if_true]
        cases q with
        | true =>
          simp only [if_true]
          exact keep true (by simp [stepQ]) (.inr rfl)
        | false =>
          simp only [Bool.false_eq_true, if_false]
          have hr' := hr
          rw [splitL, if_pos ⟨rfl, by simp [stepQ]⟩] at hr'
          have := ih (acc ++ [now.data.toList]) (⟨#[]⟩ : ByteArray) (i + 1) false (by omega) (by omega) (by simp; omega) (by show ((0 : Nat) : Int) ≤ _; omega) (by
            have e : stepQ false 44 = false := by simp [stepQ]
            rw [e] at hr'
            simpa using hr')
          simpa [bs_of] using this
      · have n44 : ¬ ((b.toNat : Int) = 44) := fun e => h44 (UInt8.toNat_inj.1 (by show b.toNat = 44; omega))
        simp only [n44, if_false]
        exact keep q (by simp [stepQ, h34]) (.inl h44)
theorem ref_List_f (s : ByteArray) (hs : s.size ≤ 1000000) : Ev (fun k => mandolineref05_List.f k s) (listL s.data.toList) := by
  unfold mandolineref05_List.f listL
  refine Ev.bind (ref_trim_f s (by omega)) ?_
  simp only [toList_data, bs_list]
  by_cases h : trimL s.data.toList = [42]
  · simp only [h, if_true]
    exact Ev.now _
  · simp only [h, if_false]
    have h1 := splitL_len s.data.toList false []
    rw [← size_list] at h1
    have h2 := ref_List_l1 (splitL false [] s.data.toList) (fun p hp => by
      have h3 := splitL_sizes _ _ _ p hp
      rw [← size_list, List.length_nil] at h3
      omega) (by omega) (splitL false [] s.data.toList).length [] 0 (by omega) (by omega) (by simp)
    have e : addL [] (collect (partsL (List.drop (0 : Int).toNat (splitL false [] s.data.toList)))) = outL (collect (partsL (splitL false [] s.data.toList))) := by
      unfold addL
      simp
    rw [e] at h2
    have := ref_List_l0 s hs (outL (collect (partsL (splitL false [] s.data.toList)))) s.size [] (⟨#[]⟩ : ByteArray) 0 false (by omega) (by omega) (by simp) (by show ((0 : Nat) : Int) ≤ _; omega) (by simpa using h2)
    exact this

/-! ### two lists that are one -/
theorem ref_Same_l0 (l : List S23) (hz : l.length ≤ 140737488351232) : ∀ (d : Nat) (i : Int), 0 ≤ i → i + d = l.length → Ev (fun k => mandolineref05_Same.l0 k l l i) true := by
  intro d
  induction d with
  | zero =>
    intro i h0 h1
    refine Ev.step (fun k => by rw [mandolineref05_Same.l0]) ?_
    simp (disch := omega) only [if_neg]
    exact Ev.now _
  | succ d ih =>
    intro i h0 h1
    refine Ev.step (fun k => by rw [mandolineref05_Same.l0]) ?_
    simp (disch := omega) only [if_pos, wrap64_eq, beq_self_eq_true, Bool.not_true, Bool.or_self, Bool.false_eq_true, if_false]
    exact ih (i + 1) (by omega) (by omega)
theorem ref_Same_f (l : List S23) (hz : l.length ≤ 140737488351232) : Ev (fun k => mandolineref05_Same.f k l l) true := by
  unfold mandolineref05_Same.f
  simp only [if_true]
  exact ref_Same_l0 l hz l.length 0 (by omega) (by omega)
theorem listL_len (l : List UInt8) : (listL l).1.length ≤ 64 := by
  unfold listL
  split
  · simp
  · cases collect (partsL (splitL false [] l)) with
    | none => simp [outL]
    | some r =>
      unfold outL
      dsimp only
      split
      · simp
      · split
        · simp
        · simp; omega
end Go.Proofs.YtbgbbpmbmccgiaaDoor.Pure
