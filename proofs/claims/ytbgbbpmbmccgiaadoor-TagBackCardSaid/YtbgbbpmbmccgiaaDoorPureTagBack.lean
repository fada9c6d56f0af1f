/- TagBack, in plain words: a right tag is read from its text as it was, and so is a list of right ones. Texts and lists are no longer than the form's reach. -/
import Derived.Test.YtbgbbpmbmccgiaaDoorX0
import Derived.Test.YtbgbbpmbmccgiaaDoorX21
import Derived.Test.YtbgbbpmbmccgiaaDoorPureTagBlanks
namespace Go.Proofs.YtbgbbpmbmccgiaaDoor.Pure
open Go Go.RowKit Go.Proofs.YtbgbbpmbmccgiaaDoor Go.Proofs.YtbgbbpmbmccgiaaDoor.X Go.Proofs.YtbgbbpmbmccgiaaDoorW.PrintWords
set_option linter.unusedVariables false
set_option linter.unusedSimpArgs false

theorem text_ends {l : List UInt8} {wk : Bool} (h : rightL l = true) : (∃ b r, textL l wk = b :: r ∧ (b = 34 ∨ b = 87)) ∧ (textL l wk).getLast? = some 34 := by
  unfold textL
  rw [if_pos h]
  cases wk with
  | true =>
    refine ⟨⟨87, [47, 34] ++ l ++ [34], rfl, .inr rfl⟩, ?_⟩
    rw [if_pos rfl, List.getLast?_concat]
  | false =>
    refine ⟨⟨34, l ++ [34], rfl, .inl rfl⟩, ?_⟩
    rw [if_neg (by simp), List.getLast?_concat]
theorem text_trim {l : List UInt8} {wk : Bool} (h : rightL l = true) : trimL (textL l wk) = textL l wk := by
  obtain ⟨⟨b, r, e, hb⟩, hlast⟩ := text_ends (wk := wk) h
  refine trim_fixed (fun c hc => ?_) (fun c hc => ?_)
  · rw [e] at hc
    obtain rfl : b = c := by simpa using hc
    rcases hb with rfl | rfl <;> decide
  · rw [hlast] at hc
    obtain rfl := Option.some.inj hc
    decide
theorem parse_text (l : List UInt8) (wk : Bool) : parseL (textL l wk) = if rightL l = true then some (l, wk) else none := by
  cases h : rightL l with
  | false =>
    rw [if_neg (by simp)]
    unfold textL
    rw [h]
    rfl
  | true =>
    rw [if_pos rfl]
    unfold parseL
    rw [text_trim h]
    have hu : unq (34 :: l ++ [34]) = some l := unq_some.2 ⟨rfl, h⟩
    unfold textL
    rw [if_pos h]
    cases wk with
    | true =>
      have e : Lib.trimPrefix ([87, 47, 34] ++ l ++ [34]) [87, 47] = 34 :: l ++ [34] := by simp [Lib.trimPrefix, Lib.hasPrefix]
      have e2 : Lib.hasPrefix ([87, 47, 34] ++ l ++ [34]) [87, 47] = true := by simp [Lib.hasPrefix]
      rw [if_pos rfl, e, e2, hu]
      rfl
    | false =>
      have e : Lib.trimPrefix ([34] ++ l ++ [34]) [87, 47] = 34 :: l ++ [34] := by simp [Lib.trimPrefix, Lib.hasPrefix]
      have e2 : Lib.hasPrefix ([34] ++ l ++ [34]) [87, 47] = false := rfl
      rw [if_neg (by simp), e, e2, hu]
      rfl

/-- A text within which no comma parts: it goes to the part as a whole. -/
theorem split_quoted : ∀ (m r : List UInt8) (cur : List UInt8), (∀ b ∈ m, b ≠ 34) → splitL true cur (m ++ r) = splitL true (cur ++ m) r
  | [], r, cur, _ => by rw [List.nil_append, List.append_nil]
  | b :: m, r, cur, h => by
    have hb := h b (by simp)
    have hs : stepQ true b = true := by simp [stepQ, hb]
    rw [List.cons_append, splitL, if_neg (by rw [hs]; simp), hs, split_quoted m r _ (fun c hc => h c (by simp [hc]))]
    simp
theorem split_text {l : List UInt8} {wk : Bool} (h : rightL l = true) (r cur : List UInt8) : splitL false cur (textL l wk ++ r) = splitL false (cur ++ textL l wk) r := by
  have nq : ∀ b ∈ l, b ≠ 34 := fun b hb => okc_no (rightL_mem h b hb)
  have one : ∀ (q : Bool) (b : UInt8) (r cur : List UInt8), b ≠ 44 → splitL q cur (b :: r) = splitL (stepQ q b) (cur ++ [b]) r := by
    intro q b r cur hb
    rw [splitL, if_neg (fun e => hb e.1)]
  have body : ∀ cur : List UInt8, splitL false cur (34 :: (l ++ 34 :: r)) = splitL false (cur ++ (34 :: l ++ [34])) r := by
    intro cur
    rw [one false 34 _ _ (by decide), show stepQ false 34 = true by simp [stepQ], split_quoted l _ _ nq, one true 34 _ _ (by decide), show stepQ true 34 = false by simp [stepQ]]
    simp
  unfold textL
  rw [if_pos h]
  cases wk with
  | true =>
    rw [if_pos rfl]
    have e : ([87, 47, 34] ++ l ++ [34] ++ r : List UInt8) = 87 :: 47 :: 34 :: (l ++ 34 :: r) := by simp
    rw [e, one false 87 _ _ (by decide), show stepQ false 87 = false by simp [stepQ], one false 47 _ _ (by decide), show stepQ false 47 = false by simp [stepQ], body]
    simp
  | false =>
    rw [if_neg (by simp)]
    have e : ([34] ++ l ++ [34] ++ r : List UInt8) = 34 :: (l ++ 34 :: r) := by simp
    rw [e, body]
    simp
theorem text_ne {l : List UInt8} {wk : Bool} (h : rightL l = true) : textL l wk ≠ [] := by
  obtain ⟨⟨b, r, e, _⟩, _⟩ := text_ends (wk := wk) h
  rw [e]
  simp
/-- A list's text parts into the tags' own. -/
theorem parts_join : ∀ (l : List S23) (cur : List UInt8), l.all rightT = true → partsL (splitL false cur (Lib.joinTail [44, 32] (l.map textT))) = partsL [cur] ++ l.map textT
  | [], cur, _ => by
    rw [show Lib.joinTail [44, 32] (([] : List S23).map textT) = [] from rfl, splitL]
    simp
  | x :: l, cur, h => by
    rw [List.all_cons, Bool.and_eq_true] at h
    have hx : rightL x.f0.data.toList = true := h.1
    have e : Lib.joinTail [44, 32] ((x :: l).map textT) = 44 :: 32 :: (textT x ++ Lib.joinTail [44, 32] (l.map textT)) := by simp [Lib.joinTail]
    rw [e, splitL, if_pos ⟨rfl, by simp [stepQ]⟩, show stepQ false 44 = false by simp [stepQ], splitL, if_neg (by decide), show stepQ false 32 = false by simp [stepQ]]
    unfold textT at *
    rw [split_text hx, List.nil_append]
    rw [show ∀ (p : List UInt8) ps, p :: ps = [p] ++ ps from fun _ _ => rfl, partsL_append]
    congr 1
    have ih := parts_join l ([32] ++ textL x.f0.data.toList x.f1) h.2
    unfold textT at ih
    rw [ih, partsL_cons, partsL_nil, List.singleton_append, trimL_cons (.inl rfl), text_trim hx, if_neg (text_ne hx)]
    rfl
theorem collect_texts : ∀ (l : List S23), l.all rightT = true → collect (l.map textT) = some l
  | [], _ => rfl
  | x :: l, h => by
    rw [List.all_cons, Bool.and_eq_true] at h
    have hx : rightL x.f0.data.toList = true := h.1
    rw [List.map_cons, collect_cons, collect_texts l h.2, show textT x = textL x.f0.data.toList x.f1 from rfl, parse_text, if_pos hx]
    simp [bs_of]
theorem textsL_first {x : S23} {l : List S23} (h : (x :: l).all rightT = true) : textsL (x :: l) = textT x ++ Lib.joinTail [44, 32] (l.map textT) := by
  unfold textsL
  rw [if_pos h, List.map_cons, Lib.join_cons]
theorem listL_texts (l : List S23) (h : l.all rightT = true) : listL (textsL l) = outL (some l) := by
  match l, h with
  | [], _ => rfl
  | x :: l, h =>
    rw [textsL_first h]
    rw [List.all_cons, Bool.and_eq_true] at h
    have hx : rightL x.f0.data.toList = true := h.1
    obtain ⟨⟨b, r, e, hb⟩, _⟩ := text_ends (l := x.f0.data.toList) (wk := x.f1) hx
    have hne : trimL (textT x ++ Lib.joinTail [44, 32] (l.map textT)) ≠ [42] := by
      intro e2
      have hh : (trimL (textT x ++ Lib.joinTail [44, 32] (l.map textT))).head? = some b := by
        have e3 : textT x ++ Lib.joinTail [44, 32] (l.map textT) = b :: (r ++ Lib.joinTail [44, 32] (l.map textT)) := by
          unfold textT at *
          rw [e]
          rfl
        rw [e3]
        have e4 : ∀ m, trimL (b :: m) = Lib.trimRightS (b :: m) [32, 9] := by
          intro m
          have : trimL (b :: m) = Lib.trimRightS (Lib.trimLeftS (b :: m) [32, 9]) [32, 9] := trim_comm [32, 9] (b :: m)
          rw [this]
          unfold Lib.trimLeftS
          rw [List.dropWhile_cons, if_neg]
          rcases hb with rfl | rfl <;> decide
        rw [e4]
        have nb : ([32, 9] : List UInt8).contains b = false := by rcases hb with rfl | rfl <;> decide
        have : ∀ m : List UInt8, (Lib.trimRightS (b :: m) [32, 9]).head? = some b := by
          intro m
          unfold Lib.trimRightS
          rw [List.reverse_cons, dropWhile_append_last nb, List.reverse_append]
          rfl
        exact this _
      rw [e2] at hh
      obtain rfl : 42 = b := by simpa using hh
      rcases hb with hb | hb <;> exact absurd hb (by decide)
    unfold listL
    rw [if_neg hne]
    have hsp : partsL (splitL false [] (textT x ++ Lib.joinTail [44, 32] (l.map textT))) = (x :: l).map textT := by
      rw [show textT x = textL x.f0.data.toList x.f1 from rfl, split_text hx, List.nil_append, parts_join l _ h.2, partsL_cons, partsL_nil, text_trim hx, if_neg (text_ne hx)]
      rfl
    rw [hsp, collect_texts (x :: l) (by rw [List.all_cons, Bool.and_eq_true]; exact h)]

theorem textsL_len (l : List S23) (hz : l.length ≤ 1000) : (textsL l).length ≤ 1000 * 106 := by
  unfold textsL
  split
  · have := join_len (l.map textT) [44, 32] 104 (fun x hx => by
      obtain ⟨y, _, rfl⟩ := List.mem_map.1 hx
      exact textL_len _ _)
    rw [List.length_map] at this
    exact Nat.le_trans this (Nat.mul_le_mul hz (by decide))
  · simp
theorem TagBack_l0 (l : List S23) (hl : ∀ x ∈ l, x.f0.size ≤ 140737488351232) (hz : l.length ≤ 1000) : ∀ (d : Nat) (i : Int), 0 ≤ i → i + d = l.length → (l.take i.toNat).all rightT = true →
    Ev (fun k => mandolinelaw05_TagBack.l0 k l l l.length i) true := by
  intro d
  induction d with
  | zero =>
    intro i h0 h1 hr
    rw [List.take_of_length_le (by omega)] at hr
    refine Ev.step (fun k => by rw [mandolinelaw05_TagBack.l0]) ?_
    have h2 : ([] : List S23).length + l.length < 5864062014805 := by simp; omega
    simp (disch := omega) only [if_neg, Option.bind_some, h2, if_true, List.nil_append]
    refine Ev.bind (tag_Texts_f l false hl hz) ?_
    simp only [Bool.false_eq_true, if_false]
    have := tag_List_f (bs (textsL l)) (by rw [bs_size]; have := textsL_len l hz; omega)
    rw [bs_list, listL_texts l hr] at this
    refine Ev.bind this ?_
    unfold outL
    dsimp only
    by_cases h3 : l.length = 0
    · simp (disch := omega) only [if_pos, h3]
      exact Ev.const rfl
    · by_cases h4 : 64 < l.length
      · simp (disch := omega) only [if_pos, if_neg]
        exact Ev.const rfl
      · simp (disch := omega) only [if_pos, if_neg]
        refine Ev.bind (ref_Same_f l (by omega)) ?_
        exact Ev.const rfl
  | succ d ih =>
    intro i h0 h1 hr
    have hx := hl _ (getD_mem (l := l) (z := z23) h0 (by omega))
    have hd := getD_drop (l := l) (z := z23) h0 (by omega)
    refine Ev.step (fun k => by rw [mandolinelaw05_TagBack.l0]) ?_
    unfold rd_T23
    simp (disch := omega) only [if_pos, wrap64_eq]
    refine Ev.bind (tag_Text_f _ _ (by omega)) ?_
    have ht := textL_len (l.getD i.toNat z23).f0.data.toList (l.getD i.toNat z23).f1
    have hp := tag_Parse_f (bs (textL (l.getD i.toNat z23).f0.data.toList (l.getD i.toNat z23).f1)) (by rw [bs_size]; omega)
    rw [bs_list, parse_text] at hp
    refine Ev.bind hp ?_
    refine Ev.bind (ref_Right_f _ _ (by omega)) ?_
    cases hright : rightL (l.getD i.toNat z23).f0.data.toList with
    | true =>
      simp only [outP, if_true, bs_of, bne_self_eq_false, beq_self_eq_true, Bool.false_eq_true, if_false, Bool.not_true, Bool.or_self]
      refine Ev.step (fun k => by rw [mandolinelaw05_TagBack.j2]) ?_
      simp only [Bool.false_eq_true, if_false]
      refine Ev.bind (ref_Right_f _ _ (by omega)) ?_
      simp (disch := omega) only [hright, if_true, wrap64_eq]
      refine ih (i + 1) (by omega) (by omega) ?_
      have e : l.take (i + 1).toNat = l.take i.toNat ++ [l.getD i.toNat z23] := by
        rw [show (i + 1).toNat = i.toNat + 1 by omega, List.take_add_one]
        congr 1
        have hi : i.toNat < l.length := by omega
        simp [List.getD_eq_getElem?_getD, hi]
      rw [e, List.all_append, hr, Bool.true_and]
      simp only [List.all_cons, List.all_nil, Bool.and_true]
      exact hright
    | false =>
      have e0 : (((2 : Int) == 0) : Bool) = false := by decide
      simp only [outP, Bool.false_eq_true, if_false, e0, bne_self_eq_false]
      refine Ev.step (fun k => by rw [mandolinelaw05_TagBack.j2]) ?_
      simp only [Bool.false_eq_true, if_false]
      refine Ev.bind (ref_Right_f _ _ (by omega)) ?_
      have h2 : ([] : List S23).length + l.length < 5864062014805 := by simp; omega
      simp only [hright, Bool.false_eq_true, if_false, Option.bind_some, h2, if_true, List.nil_append]
      refine Ev.bind (tag_Texts_f l false hl hz) ?_
      have e : textsL l = [] := by
        unfold textsL
        rw [if_neg]
        intro hall
        have := List.all_eq_true.1 hall _ (getD_mem (l := l) (z := z23) h0 (by omega))
        have h5 : rightL (l.getD i.toNat z23).f0.data.toList = true := this
        rw [hright] at h5
        cases h5
      rw [e]
      exact Ev.const (by rw [toList_data, bs_list]; rfl)
theorem TagBack (a0 : List S23) (g0 : a0.length * 24 ≤ reachBytes ∧ ∀ a3 ∈ a0, (a3.f0.size ≤ reachBytes) ∧ (True)) : ∃ k, mandolinelaw05_TagBack.f k a0 = some true := by
  have r : reachBytes = 140737488351232 := rfl
  have hl : ∀ x ∈ a0, x.f0.size ≤ 140737488351232 := fun x hx => by have := (g0.2 x hx).1; omega
  refine Ev.rounds ?_
  unfold mandolinelaw05_TagBack.f
  refine Ev.bind awake_ok ?_
  simp only [if_true]
  refine Ev.bind (ref_Great_f a0 hl (by omega)) ?_
  refine Ev.step (fun k => by rw [mandolinelaw05_TagBack.j0]) ?_
  cases h : decide (400 < bulkN a0) with
  | true => exact Ev.bind awake_ok (Ev.now _)
  | false =>
    have h' : ¬ (400 < bulkN a0) := of_decide_eq_false h
    have := bulk_len a0
    simp only [Bool.false_eq_true, if_false]
    exact TagBack_l0 a0 hl (by omega) a0.length 0 (by omega) (by omega) rfl
end Go.Proofs.YtbgbbpmbmccgiaaDoor.Pure
