/- TagBlanks, in plain words: blanks about a list, and a comma more at either end, make no difference. Texts are no longer than the form's reach. -/
import Derived.Test.YtbgbbpmbmccgiaaDoorX0
import Derived.Test.YtbgbbpmbmccgiaaDoorX26
import Derived.Test.YtbgbbpmbmccgiaaDoorPureLists2
import Derived.OpenShut
namespace Go.Proofs.YtbgbbpmbmccgiaaDoor.Pure
open Go Go.RowKit Go.Proofs.YtbgbbpmbmccgiaaDoor Go.Proofs.YtbgbbpmbmccgiaaDoor.X Go.Proofs.YtbgbbpmbmccgiaaDoorW.PrintWords
set_option linter.unusedVariables false
set_option linter.unusedSimpArgs false

def blankB (b : UInt8) : Prop := b = 32 ∨ b = 9
theorem blank_in {b : UInt8} (h : blankB b) : ([32, 9] : List UInt8).contains b = true := by
  rcases h with rfl | rfl <;> decide
theorem trimL_snoc {b : UInt8} (h : blankB b) (l : List UInt8) : trimL (l ++ [b]) = trimL l := trim_snoc (blank_in h)
theorem trimL_cons {b : UInt8} (h : blankB b) (l : List UInt8) : trimL (b :: l) = trimL l := trim_cons (blank_in h)
theorem stepQ_blank {b : UInt8} (h : blankB b) (q : Bool) : stepQ q b = q := by
  rcases h with rfl | rfl <;> simp [stepQ]
theorem blank_no {b : UInt8} (h : blankB b) : b ≠ 44 := by
  rcases h with rfl | rfl <;> decide

/-- What is ahead of the first part makes no difference but for what it is trimmed to. -/
theorem split_lead {b : UInt8} (h : blankB b) : ∀ (l : List UInt8) (q : Bool) (cur : List UInt8), partsL (splitL q (b :: cur) l) = partsL (splitL q cur l)
  | [], q, cur => by
    rw [splitL, splitL, partsL_cons, partsL_cons, trimL_cons h]
  | c :: l, q, cur => by
    rw [splitL, splitL]
    by_cases hc : c = 44 ∧ stepQ q c = false
    · rw [if_pos hc, if_pos hc, partsL_cons, partsL_cons, trimL_cons h]
    · rw [if_neg hc, if_neg hc, List.cons_append]
      exact split_lead h l _ _
theorem parts_lead {b : UInt8} (h : blankB b) (l : List UInt8) : partsL (splitL false [] (b :: l)) = partsL (splitL false [] l) := by
  rw [splitL, if_neg (fun e => blank_no h e.1), stepQ_blank h]
  exact split_lead h l false []
theorem split_tail {b : UInt8} (h : blankB b) : ∀ (l : List UInt8) (q : Bool) (cur : List UInt8), partsL (splitL q cur (l ++ [b])) = partsL (splitL q cur l)
  | [], q, cur => by
    have e : splitL q cur ([] ++ [b]) = [cur ++ [b]] := by
      show (if b = 44 ∧ stepQ q b = false then _ else splitL (stepQ q b) (cur ++ [b]) []) = _
      rw [if_neg (fun e => blank_no h e.1)]
      rfl
    rw [e, show splitL q cur [] = [cur] from rfl, partsL_cons, partsL_cons, trimL_snoc h]
  | c :: l, q, cur => by
    rw [List.cons_append, splitL, splitL]
    by_cases hc : c = 44 ∧ stepQ q c = false
    · rw [if_pos hc, if_pos hc, partsL_cons, partsL_cons, split_tail h l]
    · rw [if_neg hc, if_neg hc]
      exact split_tail h l _ _
theorem listL_lead {b : UInt8} (h : blankB b) (l : List UInt8) : listL (b :: l) = listL l := by
  unfold listL
  rw [trimL_cons h, parts_lead h]
theorem listL_tail {b : UInt8} (h : blankB b) (l : List UInt8) : listL (l ++ [b]) = listL l := by
  unfold listL
  rw [trimL_snoc h, split_tail h]

/-- How many quotes, modulo two: the state behind a text. -/
def endQ : Bool → List UInt8 → Bool
  | q, [] => q
  | q, b :: l => endQ (stepQ q b) l
theorem endQ_append (q : Bool) : ∀ (l m : List UInt8), endQ q (l ++ m) = endQ (endQ q l) m
  | [], m => rfl
  | b :: l, m => by
    show endQ (stepQ q b) (l ++ m) = _
    rw [endQ_append (stepQ q b) l m]
    rfl
theorem endQ_plain (q : Bool) : ∀ (l : List UInt8), (∀ b ∈ l, b ≠ 34) → endQ q l = q
  | [], _ => rfl
  | b :: l, h => by
    show endQ (stepQ q b) l = q
    rw [show stepQ q b = q by simp [stepQ, h b (by simp)]]
    exact endQ_plain q l (fun c hc => h c (by simp [hc]))
/-- The split of a text and a comma, where no quote is open at its end. -/
theorem split_comma : ∀ (l m : List UInt8) (q : Bool) (cur : List UInt8), endQ q l = false → splitL q cur (l ++ 44 :: m) = splitL q cur l ++ splitL false [] m
  | [], m, q, cur, h => by
    obtain rfl : q = false := h
    show (if (44 : UInt8) = 44 ∧ stepQ false 44 = false then cur :: splitL (stepQ false 44) [] m else _) = _
    rw [if_pos ⟨rfl, by simp [stepQ]⟩, show stepQ false 44 = false by simp [stepQ]]
    rfl
  | c :: l, m, q, cur, h => by
    rw [List.cons_append, splitL, splitL]
    have h' : endQ (stepQ q c) l = false := h
    by_cases hc : c = 44 ∧ stepQ q c = false
    · rw [if_pos hc, if_pos hc, split_comma l m _ _ h']
      rfl
    · rw [if_neg hc, if_neg hc]
      exact split_comma l m _ _ h'
/-- All parts but the last one end outside of quotes; the last one ends as the text does. -/
theorem split_last : ∀ (l : List UInt8) (q : Bool) (cur : List UInt8), endQ false cur = q → ∃ ps p, splitL q cur l = ps ++ [p] ∧ endQ false p = endQ q l
  | [], q, cur, h => ⟨[], cur, rfl, h⟩
  | c :: l, q, cur, h => by
    rw [splitL]
    by_cases hc : c = 44 ∧ stepQ q c = false
    · rw [if_pos hc, hc.2]
      obtain ⟨ps, p, e, hp⟩ := split_last l false [] rfl
      refine ⟨cur :: ps, p, by rw [e]; rfl, ?_⟩
      rw [hp]
      show endQ false l = endQ (stepQ q c) l
      rw [hc.2]
    · rw [if_neg hc]
      refine split_last l (stepQ q c) (cur ++ [c]) ?_
      rw [endQ_append, h]
      rfl
theorem mem_takeWhile {p : UInt8 → Bool} : ∀ {l : List UInt8} {b : UInt8}, b ∈ l.takeWhile p → p b = true
  | a :: l, b, h => by
    rw [List.takeWhile_cons] at h
    split at h
    · rename_i ha
      rcases List.mem_cons.1 h with rfl | h
      · exact ha
      · exact mem_takeWhile h
    · simp at h
theorem endQ_trim (p : List UInt8) (h : endQ false (trimL p) = false) : endQ false p = false := by
  have key : ∀ (l : List UInt8) (q : Bool), ∃ a b : List UInt8, l = a ++ trimL l ++ b ∧ (∀ c ∈ a, blankB c) ∧ (∀ c ∈ b, blankB c) := by
    intro l q
    have blank_of : ∀ c : UInt8, ([32, 9] : List UInt8).contains c = true → blankB c := by
      intro c hc
      simpa [blankB] using hc
    have dw : ∀ m : List UInt8, ∃ a, m = a ++ m.dropWhile (([32, 9] : List UInt8).contains ·) ∧ ∀ c ∈ a, blankB c := by
      intro m
      refine ⟨m.takeWhile (([32, 9] : List UInt8).contains ·), (List.takeWhile_append_dropWhile ..).symm, fun c hc => ?_⟩
      exact blank_of c (mem_takeWhile hc)
    obtain ⟨b, hb, hbb⟩ := dw l.reverse
    obtain ⟨a, ha, hab⟩ := dw (l.reverse.dropWhile (([32, 9] : List UInt8).contains ·)).reverse
    refine ⟨a, b.reverse, ?_, hab, fun c hc => hbb c (by simpa using hc)⟩
    have e1 : trimL l = (l.reverse.dropWhile (([32, 9] : List UInt8).contains ·)).reverse.dropWhile (([32, 9] : List UInt8).contains ·) := rfl
    rw [e1, ← ha, ← List.reverse_append, ← hb, List.reverse_reverse]
  obtain ⟨a, b, e, ha, hb⟩ := key p false
  have nq : ∀ l : List UInt8, (∀ c ∈ l, blankB c) → ∀ c ∈ l, c ≠ 34 := by
    intro l hl c hc
    rcases hl c hc with rfl | rfl <;> decide
  rw [e, endQ_append, endQ_append, endQ_plain false a (nq a ha), h, endQ_plain false b (nq b hb)]
theorem okc_no {b : UInt8} (h : okc b = true) : b ≠ 34 := by
  rintro rfl
  exact absurd h (by decide)
theorem parse_closed {p : List UInt8} {q : List UInt8 × Bool} (h : parseL p = some q) : endQ false p = false := by
  refine endQ_trim p ?_
  unfold parseL at h
  obtain ⟨m, hm, rfl⟩ := Option.map_eq_some_iff.1 h
  obtain ⟨e, hr⟩ := unq_some.1 hm
  have hin : endQ false (34 :: m ++ [34]) = false := by
    rw [endQ_append]
    have : endQ false (34 :: m) = true := by
      show endQ (stepQ false 34) m = true
      rw [show stepQ false 34 = true by simp [stepQ]]
      exact endQ_plain true m (fun b hb => okc_no (rightL_mem hr b hb))
    rw [this]
    rfl
  unfold Lib.trimPrefix at e
  split at e
  · rename_i hp
    unfold Lib.hasPrefix at hp
    obtain ⟨r, hr2⟩ := List.isPrefixOf_iff_prefix.1 hp
    rw [← hr2] at e ⊢
    have e' : r = 34 :: m ++ [34] := by simpa using e
    rw [endQ_append, e', show endQ false [87, 47] = false from rfl]
    exact hin
  · rw [e]
    exact hin
theorem collect_append (a b : List (List UInt8)) : collect (a ++ b) = (collect a).bind fun x => (collect b).map (x ++ ·) := by
  induction a with
  | nil =>
    show collect b = _
    cases collect b <;> simp [collect]
  | cons p a ih =>
    rw [List.cons_append, collect_cons, collect_cons, ih]
    cases parseL p with
    | none => rfl
    | some q => cases collect a <;> cases collect b <;> simp
theorem partsL_append (a b : List (List UInt8)) : partsL (a ++ b) = partsL a ++ partsL b := by
  unfold partsL
  rw [List.map_append, List.filter_append]
/-- A list that can be read ends outside of quotes. -/
theorem collect_closed {l : List UInt8} {r : List S23} (h : collect (partsL (splitL false [] l)) = some r) : endQ false l = false := by
  obtain ⟨ps, p, e, hp⟩ := split_last l false [] rfl
  rw [e, partsL_append, collect_append] at h
  rw [← hp]
  obtain ⟨x, _, h2⟩ := Option.bind_eq_some_iff.1 h
  obtain ⟨y, hy, _⟩ := Option.map_eq_some_iff.1 h2
  rw [partsL_cons, partsL_nil] at hy
  by_cases ht : trimL p = []
  · refine endQ_trim p ?_
    rw [ht]
    rfl
  · rw [if_neg ht, collect_cons] at hy
    obtain ⟨q, hq, _⟩ := Option.bind_eq_some_iff.1 hy
    refine endQ_trim p (parse_closed hq)
/-- A comma more at either end. -/
theorem listL_commas (l : List UInt8) (h1 : (listL l).2.1 = false) (h2 : (listL l).2.2 ≠ 2) : listL ([44] ++ l ++ [32, 44, 32]) = listL l := by
  have hs : trimL l ≠ [42] := by
    intro e
    unfold listL at h1
    rw [if_pos e] at h1
    cases h1
  have hl : listL l = outL (collect (partsL (splitL false [] l))) := by
    unfold listL
    rw [if_neg hs]
  rw [hl] at h2 ⊢
  cases hc : collect (partsL (splitL false [] l)) with
  | none =>
    rw [hc] at h2
    exact absurd rfl h2
  | some r =>
    have hq := collect_closed hc
    have hsp : splitL false [] ([44] ++ l ++ [32, 44, 32]) = [] :: (splitL false [] (l ++ [32]) ++ [[32]]) := by
      have e1 : splitL false [] ([44] ++ l ++ [32, 44, 32]) = [] :: splitL false [] ((l ++ [32]) ++ 44 :: [32]) := by
        have : ([44] ++ l ++ [32, 44, 32] : List UInt8) = 44 :: ((l ++ [32]) ++ 44 :: [32]) := by simp
        rw [this, splitL, if_pos ⟨rfl, by simp [stepQ]⟩]
        rw [show stepQ false 44 = false by simp [stepQ]]
      rw [e1, split_comma _ _ _ _ (by rw [endQ_append, hq]; rfl)]
      rfl
    have htr : trimL ([44] ++ l ++ [32, 44, 32]) ≠ [42] := by
      intro e
      have : trimL ([44] ++ l ++ [32, 44, 32]) = [44] ++ l ++ [32, 44] := by
        have e2 : ([44] ++ l ++ [32, 44, 32] : List UInt8) = ([44] ++ l ++ [32, 44]) ++ [32] := by simp
        rw [e2, trimL_snoc (.inl rfl)]
        refine trim_fixed (fun b hb => ?_) (fun b hb => ?_)
        · obtain rfl : 44 = b := by simpa using hb
          decide
        · have : ([44] ++ l ++ [32, 44] : List UInt8) = ([44] ++ l ++ [32]) ++ [44] := by simp
          rw [this, List.getLast?_concat] at hb
          obtain rfl := Option.some.inj hb
          decide
      rw [this] at e
      have := congrArg List.length e
      simp at this
    unfold listL
    rw [if_neg htr, hsp, partsL_cons, if_pos (by decide), partsL_append, split_tail (.inl rfl), partsL_cons, partsL_nil, if_pos (by decide), List.append_nil, hc]

theorem TagBlanks_j2 (a0 : ByteArray) (b : Bool) (hs : a0.size ≤ 300) (hb : b = false → (listL a0.data.toList).2.1 = false ∧ (listL a0.data.toList).2.2 ≠ 2) : Ev (fun k => mandolinelaw05_TagBlanks.j2 k a0 (listL a0.data.toList).1 (listL a0.data.toList).2.2 b) true := by
  refine Ev.step (fun k => by rw [mandolinelaw05_TagBlanks.j2]) ?_
  cases b with
  | true => exact Ev.const rfl
  | false =>
    obtain ⟨h1, h2⟩ := hb rfl
    simp (disch := omega) only [Bool.false_eq_true, if_false, if_pos]
    have e : ((⟨#[44]⟩ : ByteArray) ++ a0 ++ (⟨#[32, 44, 32]⟩ : ByteArray)).data.toList = [44] ++ a0.data.toList ++ [32, 44, 32] := by rw [append_list, append_list]
    have hz : ((⟨#[44]⟩ : ByteArray) ++ a0 ++ (⟨#[32, 44, 32]⟩ : ByteArray)).size ≤ 1000000 := by
      rw [size_list, e, List.length_append, List.length_append, ← size_list]
      simp
      omega
    have := tag_List_f _ hz
    rw [e, listL_commas _ h1 h2] at this
    refine Ev.bind this ?_
    refine Ev.bind (ref_Same_f _ (by have := listL_len a0.data.toList; omega)) ?_
    simp only [if_true, h1, Bool.false_eq_true, if_false, beq_self_eq_true]
    exact Ev.now _
theorem TagBlanks (a0 : ByteArray) (a1 : Int) (g0 : a0.size ≤ reachBytes) (g1 : (Lit.int .u8 a1).wf = true) : ∃ k, mandolinelaw05_TagBlanks.f k a0 a1 = some true := by
  have hb := bounds_u8 g1
  refine Ev.rounds ?_
  unfold mandolinelaw05_TagBlanks.f
  refine Ev.bind awake_ok ?_
  simp only [if_true]
  refine Ev.step (fun k => by rw [mandolinelaw05_TagBlanks.j0]) ?_
  cases h : decide ((a0.size : Int) > 300) with
  | true => exact Ev.bind awake_ok (Ev.now _)
  | false =>
    have h' : ¬ ((a0.size : Int) > 300) := of_decide_eq_false h
    simp only [Bool.false_eq_true, if_false]
    refine Ev.bind (tag_List_f a0 (by omega)) ?_
    simp (disch := omega) only [if_pos, Option.bind_some]
    have ht : Int.tmod a1 3 = a1 % 3 := Int.tmod_eq_emod_of_nonneg hb.1
    rw [ht]
    have h3 : (0 : Int) ≤ a1 % 3 := Int.emod_nonneg _ (by decide)
    have h4 : a1 % 3 < 3 := Int.emod_lt_of_pos _ (by decide)
    have hlen : ∀ x y z : ByteArray, (([x, y, z] : List ByteArray).length : Int) = 3 := fun _ _ _ => rfl
    simp only [hlen, h3, h4, if_true]
    have pick : ∃ t : ByteArray, rdOf ByteArray.empty [(⟨#[32]⟩ : ByteArray) ++ a0, a0 ++ (⟨#[9, 32]⟩ : ByteArray), ((⟨#[9]⟩ : ByteArray) ++ a0) ++ (⟨#[32]⟩ : ByteArray)] (a1 % 3) = t ∧ t.size ≤ 1000000 ∧ listL t.data.toList = listL a0.data.toList := by
      have : a1 % 3 = 0 ∨ a1 % 3 = 1 ∨ a1 % 3 = 2 := by omega
      rcases this with e | e | e
      · rw [e]
        refine ⟨(⟨#[32]⟩ : ByteArray) ++ a0, rfl, ?_, ?_⟩
        · rw [size_list, append_list, List.length_append, ← size_list a0]
          simp
          omega
        · rw [append_list]
          exact listL_lead (.inl rfl) _
      · rw [e]
        refine ⟨a0 ++ (⟨#[9, 32]⟩ : ByteArray), rfl, ?_, ?_⟩
        · rw [size_list, append_list, List.length_append, ← size_list a0]
          simp
          omega
        · rw [append_list]
          have : a0.data.toList ++ (⟨#[9, 32]⟩ : ByteArray).data.toList = (a0.data.toList ++ [9]) ++ [32] := by simp
          rw [this, listL_tail (.inl rfl), listL_tail (.inr rfl)]
      · rw [e]
        refine ⟨((⟨#[9]⟩ : ByteArray) ++ a0) ++ (⟨#[32]⟩ : ByteArray), rfl, ?_, ?_⟩
        · rw [size_list, append_list, append_list, List.length_append, List.length_append, ← size_list a0]
          simp
          omega
        · rw [append_list, append_list]
          have : (⟨#[9]⟩ : ByteArray).data.toList ++ a0.data.toList ++ (⟨#[32]⟩ : ByteArray).data.toList = 9 :: (a0.data.toList ++ [32]) := by simp
          rw [this, listL_lead (.inr rfl), listL_tail (.inl rfl)]
    obtain ⟨t, et, hz, el⟩ := pick
    rw [et]
    have := tag_List_f t hz
    rw [el] at this
    refine Ev.bind this ?_
    refine Ev.bind (ref_Same_f _ (by have := listL_len a0.data.toList; omega)) ?_
    simp only [if_true, bne_self_eq_false, Bool.false_eq_true, if_false]
    refine Ev.step (fun k => by rw [mandolinelaw05_TagBlanks.j1]) ?_
    simp only [Bool.false_eq_true, if_false]
    cases hany : (listL a0.data.toList).2.1 with
    | true =>
      simp only [if_true]
      exact TagBlanks_j2 a0 true (by omega) (by simp)
    | false =>
      simp only [Bool.false_eq_true, if_false]
      refine TagBlanks_j2 a0 _ (by omega) (fun hbf => ⟨hany, ?_⟩)
      simpa using hbf
end Go.Proofs.YtbgbbpmbmccgiaaDoor.Pure
