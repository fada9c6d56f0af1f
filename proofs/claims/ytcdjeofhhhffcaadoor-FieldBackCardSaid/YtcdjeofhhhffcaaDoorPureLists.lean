/- What the functions of layer 7 (field) over lists of fields compute, in plain words. Texts no longer than memory. -/
import Derived.Test.YtcdjeofhhhffcaaDoorX0
import Derived.Test.YtcdjeofhhhffcaaDoorX2
import Derived.Test.YtcdjeofhhhffcaaDoorX6
import Derived.Test.YtcdjeofhhhffcaaDoorX13
import Derived.Test.YtcdjeofhhhffcaaDoorX14
import Derived.Test.YtcdjeofhhhffcaaDoorX15
import Derived.Test.YtcdjeofhhhffcaaDoorX18
import Derived.Test.YtcdjeofhhhffcaaDoorX19
import Derived.Test.YtcdjeofhhhffcaaDoorPureBase
namespace Go.Proofs.YtcdjeofhhhffcaaDoor.Pure
open Go Go.RowKit Go.Proofs.YtcdjeofhhhffcaaDoor Go.Proofs.YtcdjeofhhhffcaaDoor.X Go.Proofs.YtcdjeofhhhffcaaDoorW.PrintWords
set_option linter.unusedVariables false
set_option linter.unusedSimpArgs false

/-! ### how much there is -/
def bulkS (l : List S33) : Nat := (l.map fun x => x.f0.size + x.f1.size).sum
theorem ref_Great_small (l : List S33) (hl : l.length ≤ 130) (hf : ∀ x ∈ l, x.f0.size ≤ 140737488355328 ∧ x.f1.size ≤ 140737488355328) : ∀ (d : Nat) (n : Nat) (i : Int), 0 ≤ i → i + d = l.length → n + d * 281474976710656 ≤ 36591746972385280 →
    Ev (fun k => mandolineref07_Great.l0 k l n l l.length i) (decide (12000 < n + bulkS (l.drop i.toNat))) := by
  intro d
  induction d with
  | zero =>
    intro n i h0 h1 hn
    refine Ev.step (fun k => by rw [mandolineref07_Great.l0]) ?_
    rw [drop_end (by omega)]
    simp (disch := omega) only [if_neg]
    exact Ev.const (congrArg some (by simp only [bulkS, List.map_nil, List.sum_nil, Nat.add_zero]; exact decide_eq_decide.2 (by omega)))
  | succ d ih =>
    intro n i h0 h1 hn
    refine Ev.step (fun k => by rw [mandolineref07_Great.l0]) ?_
    have hx := hf _ (getD_mem (l := l) (z := z33) h0 (by omega))
    have ih' := ih (n + (l.getD i.toNat z33).f0.size + (l.getD i.toNat z33).f1.size) (i + 1) (by omega) (by omega) (by omega)
    rw [getD_drop (l := l) (z := z33) h0 (by omega)]
    have e : bulkS (l.getD i.toNat z33 :: l.drop (i + 1).toNat) = (l.getD i.toNat z33).f0.size + (l.getD i.toNat z33).f1.size + bulkS (l.drop (i + 1).toNat) := by simp [bulkS]
    unfold rd_T33
    simp (disch := omega) only [if_pos, wrap64_eq]
    rw [e, show n + ((l.getD i.toNat z33).f0.size + (l.getD i.toNat z33).f1.size + bulkS (l.drop (i + 1).toNat)) = n + (l.getD i.toNat z33).f0.size + (l.getD i.toNat z33).f1.size + bulkS (l.drop (i + 1).toNat) by omega]
    simpa using ih'
theorem ref_Great_big (l : List S33) (hl : 130 < l.length) (hz : l.length ≤ 140737488355328) : ∀ (d : Nat) (n : Int) (i : Int), 0 ≤ i → i + d = l.length →
    Ev (fun k => mandolineref07_Great.l0 k l n l l.length i) true := by
  intro d
  induction d with
  | zero =>
    intro n i h0 h1
    refine Ev.step (fun k => by rw [mandolineref07_Great.l0]) ?_
    simp (disch := omega) only [if_neg, if_pos]
    exact Ev.const rfl
  | succ d ih =>
    intro n i h0 h1
    refine Ev.step (fun k => by rw [mandolineref07_Great.l0]) ?_
    simp (disch := omega) only [if_pos]
    have ih' := fun n => ih n (i + 1) (by omega) (by omega)
    simp (disch := omega) only [wrap64_eq (x := i + 1)]
    exact ih' _
theorem ref_Great_f (l : List S33) (hz : l.length ≤ 140737488355328) (hf : ∀ x ∈ l, x.f0.size ≤ 140737488355328 ∧ x.f1.size ≤ 140737488355328) :
    ∃ g, Ev (fun k => mandolineref07_Great.f k l) g ∧ (g = false → l.length ≤ 130 ∧ bulkS l ≤ 12000) := by
  unfold mandolineref07_Great.f
  by_cases h : l.length ≤ 130
  · refine ⟨_, by simpa using ref_Great_small l h hf l.length 0 0 (by omega) (by omega) (by omega), ?_⟩
    intro hg
    have := of_decide_eq_false hg
    omega
  · exact ⟨true, ref_Great_big l (by omega) hz l.length 0 0 (by omega) (by omega), by simp⟩
def bulkT (l : List ByteArray) : Nat := (l.map fun x => x.size).sum
theorem law_great_small (l : List ByteArray) (hl : l.length ≤ 60) (hf : ∀ x ∈ l, x.size ≤ 140737488355328) : ∀ (d : Nat) (n : Nat) (i : Int), 0 ≤ i → i + d = l.length → n + d * 140737488355328 ≤ 36591746972385280 →
    Ev (fun k => mandolinelaw07_great.l0 k l n l l.length i) (decide (10000 < n + bulkT (l.drop i.toNat))) := by
  intro d
  induction d with
  | zero =>
    intro n i h0 h1 hn
    refine Ev.step (fun k => by rw [mandolinelaw07_great.l0]) ?_
    rw [drop_end (by omega)]
    simp (disch := omega) only [if_neg]
    by_cases h : 10000 < n
    · refine Ev.pos (by omega) ?_
      exact Ev.const (congrArg some (by simp [bulkT, h]))
    · refine Ev.neg (by omega) ?_
      exact Ev.const (congrArg some (by rw [decide_eq_false (by omega)]; simp [bulkT]; omega))
  | succ d ih =>
    intro n i h0 h1 hn
    refine Ev.step (fun k => by rw [mandolinelaw07_great.l0]) ?_
    have hx := hf _ (getD_mem (l := l) (z := ByteArray.empty) h0 (by omega))
    have ih' := ih (n + (l.getD i.toNat ByteArray.empty).size) (i + 1) (by omega) (by omega) (by omega)
    rw [getD_drop (l := l) (z := ByteArray.empty) h0 (by omega)]
    have e : bulkT (l.getD i.toNat ByteArray.empty :: l.drop (i + 1).toNat) = (l.getD i.toNat ByteArray.empty).size + bulkT (l.drop (i + 1).toNat) := by simp [bulkT]
    unfold rdOf
    simp (disch := omega) only [if_pos, wrap64_eq]
    rw [e, ← Nat.add_assoc]
    simpa using ih'
theorem law_great_big (l : List ByteArray) (hl : 60 < l.length) (hz : l.length ≤ 140737488355328) : ∀ (d : Nat) (n : Int) (i : Int), 0 ≤ i → i + d = l.length →
    Ev (fun k => mandolinelaw07_great.l0 k l n l l.length i) true := by
  intro d
  induction d with
  | zero =>
    intro n i h0 h1
    refine Ev.step (fun k => by rw [mandolinelaw07_great.l0]) ?_
    simp (disch := omega) only [if_neg]
    by_cases h : n > 10000
    · refine Ev.pos h ?_
      exact Ev.const rfl
    · refine Ev.neg h ?_
      exact Ev.const (congrArg some (decide_eq_true (by omega)))
  | succ d ih =>
    intro n i h0 h1
    refine Ev.step (fun k => by rw [mandolinelaw07_great.l0]) ?_
    simp (disch := omega) only [if_pos]
    have ih' := fun n => ih n (i + 1) (by omega) (by omega)
    simp (disch := omega) only [wrap64_eq (x := i + 1)]
    exact ih' _
theorem law_great_f (l : List ByteArray) (hz : l.length ≤ 140737488355328) (hf : ∀ x ∈ l, x.size ≤ 140737488355328) :
    ∃ g, Ev (fun k => mandolinelaw07_great.f k l) g ∧ (g = false → l.length ≤ 60 ∧ bulkT l ≤ 10000) := by
  unfold mandolinelaw07_great.f
  by_cases h : l.length ≤ 60
  · refine ⟨_, by simpa using law_great_small l h hf l.length 0 0 (by omega) (by omega) (by omega), ?_⟩
    intro hg
    have := of_decide_eq_false hg
    omega
  · exact ⟨true, law_great_big l (by omega) hz l.length 0 0 (by omega) (by omega), by simp⟩
theorem bulkS_mem {l : List S33} {x : S33} (h : x ∈ l) : x.f0.size + x.f1.size ≤ bulkS l := by
  induction l with
  | nil => simp at h
  | cons y l ih =>
    simp only [bulkS, List.map_cons, List.sum_cons]
    rcases List.mem_cons.1 h with rfl | h
    · omega
    · have := ih h; unfold bulkS at this; omega

/-! ### alike -/
theorem Same_refl_l0 (l : List S33) (hz : l.length ≤ 140737488355328) : ∀ (d : Nat) (i : Int), 0 ≤ i → i + d = l.length → Ev (fun k => mandolineref07_Same.l0 k l l l.length i) true := by
  intro d
  induction d with
  | zero =>
    intro i h0 h1
    refine Ev.step (fun k => by rw [mandolineref07_Same.l0]) ?_
    simp (disch := omega) only [if_neg]
    exact Ev.const rfl
  | succ d ih =>
    intro i h0 h1
    refine Ev.step (fun k => by rw [mandolineref07_Same.l0]) ?_
    simp (disch := omega) only [if_pos, wrap64_eq]
    refine Ev.neg (by simp) ?_
    exact ih (i + 1) (by omega) (by omega)
theorem Same_refl (l : List S33) (hz : l.length ≤ 140737488355328) : Ev (fun k => mandolineref07_Same.f k l l) true := by
  unfold mandolineref07_Same.f
  refine Ev.pos rfl ?_
  exact Same_refl_l0 l hz l.length 0 (by omega) (by omega)
theorem Texts_refl_l0 (l : List ByteArray) (hz : l.length ≤ 140737488355328) : ∀ (d : Nat) (i : Int), 0 ≤ i → i + d = l.length → Ev (fun k => mandolineref07_Texts.l0 k l l l.length i) true := by
  intro d
  induction d with
  | zero =>
    intro i h0 h1
    refine Ev.step (fun k => by rw [mandolineref07_Texts.l0]) ?_
    simp (disch := omega) only [if_neg]
    exact Ev.const rfl
  | succ d ih =>
    intro i h0 h1
    refine Ev.step (fun k => by rw [mandolineref07_Texts.l0]) ?_
    simp (disch := omega) only [if_pos, wrap64_eq]
    refine Ev.pos trivial ?_
    exact ih (i + 1) (by omega) (by omega)
theorem Texts_refl (l : List ByteArray) (hz : l.length ≤ 140737488355328) : Ev (fun k => mandolineref07_Texts.f k l l) true := by
  unfold mandolineref07_Texts.f
  refine Ev.pos rfl ?_
  exact Texts_refl_l0 l hz l.length 0 (by omega) (by omega)

/-! ### the fields of a name -/
def Small (l : List S33) : Prop := l.length ≤ 1000 ∧ ∀ x ∈ l, x.f0.size ≤ 140737488351232
theorem field_Get_l0 (l : List S33) (name : ByteArray) (hs : Small l) : ∀ (d : Nat) (i : Int), 0 ≤ i → i + d = l.length →
    Ev (fun k => field_Get.l0 k name l l.length i) (((l.drop i.toNat).find? (nameIs name)).elim ((⟨#[]⟩ : ByteArray), false) (fun x => (x.f1, true))) := by
  intro d
  induction d with
  | zero =>
    intro i h0 h1
    have := hs.1
    refine Ev.step (fun k => by rw [field_Get.l0]) ?_
    rw [drop_end (by omega)]
    simp (disch := omega) only [if_neg]
    exact Ev.const rfl
  | succ d ih =>
    intro i h0 h1
    have hs1 := hs.1
    refine Ev.step (fun k => by rw [field_Get.l0]) ?_
    have hx := hs.2 _ (getD_mem (l := l) (z := z33) h0 (by omega))
    rw [getD_drop (l := l) (z := z33) h0 (by omega), List.find?_cons]
    unfold rd_T33
    simp (disch := omega) only [if_pos, wrap64_eq]
    refine Ev.bind (field_alike_f _ name (by omega)) ?_
    change Ev _ (Option.elim (match nameIs name (l.getD i.toNat z33) with | true => some (l.getD i.toNat z33) | false => List.find? (nameIs name) (l.drop (i + 1).toNat)) _ _)
    cases h : nameIs name (l.getD i.toNat z33) with
    | true =>
      have h' : (lowL (l.getD i.toNat z33).f0.data.toList == lowL name.data.toList) = true := h
      simp only [h', if_true]
      exact Ev.const rfl
    | false =>
      have h' : (lowL (l.getD i.toNat z33).f0.data.toList == lowL name.data.toList) = false := h
      simp only [h', if_false, Bool.false_eq_true]
      exact ih (i + 1) (by omega) (by omega)
theorem field_Get_f (l : List S33) (name : ByteArray) (hs : Small l) : Ev (fun k => field_Get.f k l name) ((l.find? (nameIs name)).elim ((⟨#[]⟩ : ByteArray), false) (fun x => (x.f1, true))) := by
  have := field_Get_l0 l name hs l.length 0 (by omega) (by omega)
  unfold field_Get.f
  simpa using this
def ofL (name : ByteArray) (l : List S33) : List ByteArray := (l.filter (nameIs name)).map (·.f1)
theorem ofL_cons (name : ByteArray) (x : S33) (l : List S33) : ofL name (x :: l) = if nameIs name x = true then x.f1 :: ofL name l else ofL name l := by
  unfold ofL
  rw [List.filter_cons]
  split <;> simp
theorem field_Of_l0 (l : List S33) (name : ByteArray) (hs : Small l) : ∀ (d : Nat) (i : Int) (acc : List ByteArray), 0 ≤ i → i + d = l.length → acc.length + d ≤ 1000 →
    Ev (fun k => field_Of.l0 k name acc l l.length i) (acc ++ ofL name (l.drop i.toNat)) := by
  intro d
  induction d with
  | zero =>
    intro i acc h0 h1 h2
    have := hs.1
    refine Ev.step (fun k => by rw [field_Of.l0]) ?_
    rw [drop_end (by omega)]
    simp (disch := omega) only [if_neg]
    exact Ev.const (by simp [ofL])
  | succ d ih =>
    intro i acc h0 h1 h2
    have hs1 := hs.1
    refine Ev.step (fun k => by rw [field_Of.l0]) ?_
    have hx := hs.2 _ (getD_mem (l := l) (z := z33) h0 (by omega))
    rw [getD_drop (l := l) (z := z33) h0 (by omega), ofL_cons]
    unfold rd_T33
    simp (disch := omega) only [if_pos, wrap64_eq]
    refine Ev.bind (field_alike_f _ name (by omega)) ?_
    cases h : nameIs name (l.getD i.toNat z33) with
    | true =>
      have h' : (lowL (l.getD i.toNat z33).f0.data.toList == lowL name.data.toList) = true := h
      simp only [h', if_true]
      have := ih (i + 1) (acc ++ [(l.getD i.toNat z33).f1]) (by omega) (by omega) (by simp; omega)
      simpa using this
    | false =>
      have h' : (lowL (l.getD i.toNat z33).f0.data.toList == lowL name.data.toList) = false := h
      simp only [h', if_false, Bool.false_eq_true]
      exact ih (i + 1) acc (by omega) (by omega) (by omega)
theorem field_Of_f (l : List S33) (name : ByteArray) (hs : Small l) : Ev (fun k => field_Of.f k l name) (ofL name l) := by
  have := field_Of_l0 l name hs l.length 0 [] (by omega) (by omega) (by have := hs.1; simpa using this)
  unfold field_Of.f
  simpa using this
theorem ref_Of_l0 (l : List S33) (name : ByteArray) (hs : Small l) (hn : name.size ≤ 140737488351232) : ∀ (d : Nat) (i : Int) (acc : List ByteArray), 0 ≤ i → i + d = l.length → acc.length + d ≤ 1000 →
    Ev (fun k => mandolineref07_Of.l0 k name acc l l.length i) (acc ++ ofL name (l.drop i.toNat)) := by
  intro d
  induction d with
  | zero =>
    intro i acc h0 h1 h2
    have := hs.1
    refine Ev.step (fun k => by rw [mandolineref07_Of.l0]) ?_
    rw [drop_end (by omega)]
    simp (disch := omega) only [if_neg]
    exact Ev.const (by simp [ofL])
  | succ d ih =>
    intro i acc h0 h1 h2
    have hs1 := hs.1
    refine Ev.step (fun k => by rw [mandolineref07_Of.l0]) ?_
    have hx := hs.2 _ (getD_mem (l := l) (z := z33) h0 (by omega))
    rw [getD_drop (l := l) (z := z33) h0 (by omega), ofL_cons]
    unfold rd_T33
    simp (disch := omega) only [if_pos, wrap64_eq]
    rw [ref_Alike_f _ name (by omega) hn]
    simp only [Option.bind_some]
    cases h : nameIs name (l.getD i.toNat z33) with
    | true =>
      have h' : (lowL (l.getD i.toNat z33).f0.data.toList == lowL name.data.toList) = true := h
      simp only [h', if_true]
      have := ih (i + 1) (acc ++ [(l.getD i.toNat z33).f1]) (by omega) (by omega) (by simp; omega)
      simpa using this
    | false =>
      have h' : (lowL (l.getD i.toNat z33).f0.data.toList == lowL name.data.toList) = false := h
      simp only [h', if_false, Bool.false_eq_true]
      exact ih (i + 1) acc (by omega) (by omega) (by omega)
theorem ref_Of_f (l : List S33) (name : ByteArray) (hs : Small l) (hn : name.size ≤ 140737488351232) : Ev (fun k => mandolineref07_Of.f k l name) (ofL name l) := by
  have := ref_Of_l0 l name hs hn l.length 0 [] (by omega) (by omega) (by have := hs.1; simpa using this)
  unfold mandolineref07_Of.f
  simpa using this
theorem ofL_find (name : ByteArray) (l : List S33) : (ofL name l).head? = (l.find? (nameIs name)).map (·.f1) := by
  unfold ofL
  rw [List.head?_map, List.head?_filter]
theorem ref_Get_f (l : List S33) (name : ByteArray) (hs : Small l) (hn : name.size ≤ 140737488351232) : Ev (fun k => mandolineref07_Get.f k l name) ((l.find? (nameIs name)).elim ((⟨#[]⟩ : ByteArray), false) (fun x => (x.f1, true))) := by
  unfold mandolineref07_Get.f
  refine Ev.bind (ref_Of_f l name hs hn) ?_
  have hh := ofL_find name l
  cases h : l.find? (nameIs name) with
  | none =>
    rw [h] at hh
    have : ofL name l = [] := by
      cases ho : ofL name l with
      | nil => rfl
      | cons a r => rw [ho] at hh; simp at hh
    rw [this]
    exact Ev.const rfl
  | some x =>
    rw [h] at hh
    cases ho : ofL name l with
    | nil => rw [ho] at hh; simp at hh
    | cons a r =>
      rw [ho] at hh
      obtain rfl : a = x.f1 := by simpa using hh
      refine Ev.neg (by simp; omega) (Ev.pos (by simp) ?_)
      exact Ev.const (by simp [rdOf])

/-! ### with one of a name, and without it -/
def setL (name value : ByteArray) : Bool → List S33 → List S33
  | put, [] => if put = true then [] else [⟨name, value⟩]
  | put, x :: r => if nameIs name x = true then (if put = true then setL name value put r else ⟨name, value⟩ :: setL name value true r) else x :: setL name value put r
theorem field_Set_l0 (l : List S33) (name value : ByteArray) (hs : Small l) : ∀ (d : Nat) (i : Int) (put : Bool) (acc : List S33), 0 ≤ i → i + d = l.length → acc.length + d ≤ 1000 →
    Ev (fun k => field_Set.l0 k name value acc put l l.length i) (acc ++ setL name value put (l.drop i.toNat)) := by
  intro d
  induction d with
  | zero =>
    intro i put acc h0 h1 h2
    have := hs.1
    refine Ev.step (fun k => by rw [field_Set.l0]) ?_
    rw [drop_end (by omega)]
    simp (disch := omega) only [if_neg]
    cases put with
    | true => exact Ev.const (by simp [setL])
    | false =>
      simp (disch := omega) only [if_pos, Bool.false_eq_true, if_false]
      exact Ev.const (by simp [setL])
  | succ d ih =>
    intro i put acc h0 h1 h2
    have hs1 := hs.1
    refine Ev.step (fun k => by rw [field_Set.l0]) ?_
    have hx := hs.2 _ (getD_mem (l := l) (z := z33) h0 (by omega))
    rw [getD_drop (l := l) (z := z33) h0 (by omega), setL]
    unfold rd_T33
    simp (disch := omega) only [if_pos, wrap64_eq]
    refine Ev.bind (field_alike_f _ name (by omega)) ?_
    cases h : nameIs name (l.getD i.toNat z33) with
    | true =>
      have h' : (lowL (l.getD i.toNat z33).f0.data.toList == lowL name.data.toList) = true := h
      simp only [h', if_true]
      cases put with
      | true => exact ih (i + 1) true acc (by omega) (by omega) (by omega)
      | false =>
        simp only [Bool.false_eq_true, if_false]
        have := ih (i + 1) true (acc ++ [⟨name, value⟩]) (by omega) (by omega) (by simp; omega)
        simpa using this
    | false =>
      have h' : (lowL (l.getD i.toNat z33).f0.data.toList == lowL name.data.toList) = false := h
      simp only [h', if_false, Bool.false_eq_true]
      have := ih (i + 1) put (acc ++ [l.getD i.toNat z33]) (by omega) (by omega) (by simp; omega)
      simpa using this
theorem field_Set_f (l : List S33) (name value : ByteArray) (hs : Small l) : Ev (fun k => field_Set.f k l name value) (setL name value false l) := by
  have := field_Set_l0 l name value hs l.length 0 false [] (by omega) (by omega) (by have := hs.1; simpa using this)
  unfold field_Set.f
  simpa using this
theorem ref_Set_l0 (l : List S33) (name value : ByteArray) (hs : Small l) (hn : name.size ≤ 140737488351232) : ∀ (d : Nat) (i : Int) (put : Bool) (acc : List S33), 0 ≤ i → i + d = l.length → acc.length + d ≤ 1000 →
    Ev (fun k => mandolineref07_Set.l0 k name value acc put l l.length i) (acc ++ setL name value put (l.drop i.toNat)) := by
  intro d
  induction d with
  | zero =>
    intro i put acc h0 h1 h2
    have := hs.1
    refine Ev.step (fun k => by rw [mandolineref07_Set.l0]) ?_
    rw [drop_end (by omega)]
    simp (disch := omega) only [if_neg]
    cases put with
    | true => exact Ev.const (by simp [setL])
    | false =>
      simp (disch := omega) only [if_pos, Bool.false_eq_true, if_false]
      exact Ev.const (by simp [setL])
  | succ d ih =>
    intro i put acc h0 h1 h2
    have hs1 := hs.1
    refine Ev.step (fun k => by rw [mandolineref07_Set.l0]) ?_
    have hx := hs.2 _ (getD_mem (l := l) (z := z33) h0 (by omega))
    rw [getD_drop (l := l) (z := z33) h0 (by omega), setL]
    unfold rd_T33
    simp (disch := omega) only [if_pos, wrap64_eq]
    rw [ref_Alike_f _ name (by omega) hn]
    simp only [Option.bind_some]
    cases h : nameIs name (l.getD i.toNat z33) with
    | true =>
      have h' : (lowL (l.getD i.toNat z33).f0.data.toList == lowL name.data.toList) = true := h
      simp only [h', if_true]
      cases put with
      | true => exact ih (i + 1) true acc (by omega) (by omega) (by omega)
      | false =>
        simp only [Bool.false_eq_true, if_false]
        have := ih (i + 1) true (acc ++ [⟨name, value⟩]) (by omega) (by omega) (by simp; omega)
        simpa using this
    | false =>
      have h' : (lowL (l.getD i.toNat z33).f0.data.toList == lowL name.data.toList) = false := h
      simp only [h', if_false, Bool.false_eq_true]
      have := ih (i + 1) put (acc ++ [l.getD i.toNat z33]) (by omega) (by omega) (by simp; omega)
      simpa using this
theorem ref_Set_f (l : List S33) (name value : ByteArray) (hs : Small l) (hn : name.size ≤ 140737488351232) : Ev (fun k => mandolineref07_Set.f k l name value) (setL name value false l) := by
  have := ref_Set_l0 l name value hs hn l.length 0 false [] (by omega) (by omega) (by have := hs.1; simpa using this)
  unfold mandolineref07_Set.f
  simpa using this
def withoutL (name : ByteArray) (l : List S33) : List S33 := l.filter (fun x => !nameIs name x)
theorem withoutL_cons (name : ByteArray) (x : S33) (l : List S33) : withoutL name (x :: l) = if nameIs name x = true then withoutL name l else x :: withoutL name l := by
  unfold withoutL
  rw [List.filter_cons]
  cases nameIs name x <;> simp
theorem field_Without_l0 (l : List S33) (name : ByteArray) (hs : Small l) : ∀ (d : Nat) (i : Int) (acc : List S33), 0 ≤ i → i + d = l.length → acc.length + d ≤ 1000 →
    Ev (fun k => field_Without.l0 k name acc l l.length i) (acc ++ withoutL name (l.drop i.toNat)) := by
  intro d
  induction d with
  | zero =>
    intro i acc h0 h1 h2
    have := hs.1
    refine Ev.step (fun k => by rw [field_Without.l0]) ?_
    rw [drop_end (by omega)]
    simp (disch := omega) only [if_neg]
    exact Ev.const (by simp [withoutL])
  | succ d ih =>
    intro i acc h0 h1 h2
    have hs1 := hs.1
    refine Ev.step (fun k => by rw [field_Without.l0]) ?_
    have hx := hs.2 _ (getD_mem (l := l) (z := z33) h0 (by omega))
    rw [getD_drop (l := l) (z := z33) h0 (by omega), withoutL_cons]
    unfold rd_T33
    simp (disch := omega) only [if_pos, wrap64_eq]
    refine Ev.bind (field_alike_f _ name (by omega)) ?_
    cases h : nameIs name (l.getD i.toNat z33) with
    | true =>
      have h' : (lowL (l.getD i.toNat z33).f0.data.toList == lowL name.data.toList) = true := h
      simp only [h', if_true]
      exact ih (i + 1) acc (by omega) (by omega) (by omega)
    | false =>
      have h' : (lowL (l.getD i.toNat z33).f0.data.toList == lowL name.data.toList) = false := h
      simp only [h', if_false, Bool.false_eq_true]
      have := ih (i + 1) (acc ++ [l.getD i.toNat z33]) (by omega) (by omega) (by simp; omega)
      simpa using this
theorem field_Without_f (l : List S33) (name : ByteArray) (hs : Small l) : Ev (fun k => field_Without.f k l name) (withoutL name l) := by
  have := field_Without_l0 l name hs l.length 0 [] (by omega) (by omega) (by have := hs.1; simpa using this)
  unfold field_Without.f
  simpa using this
theorem ref_Without_l0 (l : List S33) (name : ByteArray) (hs : Small l) (hn : name.size ≤ 140737488351232) : ∀ (d : Nat) (i : Int) (acc : List S33), 0 ≤ i → i + d = l.length → acc.length + d ≤ 1000 →
    Ev (fun k => mandolineref07_Without.l0 k name acc l l.length i) (acc ++ withoutL name (l.drop i.toNat)) := by
  intro d
  induction d with
  | zero =>
    intro i acc h0 h1 h2
    have := hs.1
    refine Ev.step (fun k => by rw [mandolineref07_Without.l0]) ?_
    rw [drop_end (by omega)]
    simp (disch := omega) only [if_neg]
    exact Ev.const (by simp [withoutL])
  | succ d ih =>
    intro i acc h0 h1 h2
    have hs1 := hs.1
    refine Ev.step (fun k => by rw [mandolineref07_Without.l0]) ?_
    have hx := hs.2 _ (getD_mem (l := l) (z := z33) h0 (by omega))
    rw [getD_drop (l := l) (z := z33) h0 (by omega), withoutL_cons]
    unfold rd_T33
    simp (disch := omega) only [if_pos, wrap64_eq]
    rw [ref_Alike_f _ name (by omega) hn]
    simp only [Option.bind_some]
    cases h : nameIs name (l.getD i.toNat z33) with
    | true =>
      have h' : (lowL (l.getD i.toNat z33).f0.data.toList == lowL name.data.toList) = true := h
      simp only [h', if_true]
      exact ih (i + 1) acc (by omega) (by omega) (by omega)
    | false =>
      have h' : (lowL (l.getD i.toNat z33).f0.data.toList == lowL name.data.toList) = false := h
      simp only [h', if_false, Bool.false_eq_true]
      have := ih (i + 1) (acc ++ [l.getD i.toNat z33]) (by omega) (by omega) (by simp; omega)
      simpa using this
theorem ref_Without_f (l : List S33) (name : ByteArray) (hs : Small l) (hn : name.size ≤ 140737488351232) : Ev (fun k => mandolineref07_Without.f k l name) (withoutL name l) := by
  have := ref_Without_l0 l name hs hn l.length 0 [] (by omega) (by omega) (by have := hs.1; simpa using this)
  unfold mandolineref07_Without.f
  simpa using this
end Go.Proofs.YtcdjeofhhhffcaaDoor.Pure
