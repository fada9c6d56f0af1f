/- What Texts of layer 5 (tag), the program's and the document's, compute, and how many bytes a list has. Lists of at most a thousand tags. -/
import Derived.Test.YtbgbbpmbmccgiaaDoorX0
import Derived.Test.YtbgbbpmbmccgiaaDoorX3
import Derived.Test.YtbgbbpmbmccgiaaDoorX4
import Derived.Test.YtbgbbpmbmccgiaaDoorX15
import Derived.Test.YtbgbbpmbmccgiaaDoorX16
import Derived.Test.YtbgbbpmbmccgiaaDoorPureBase
import Derived.Lib.Join
namespace Go.Proofs.YtbgbbpmbmccgiaaDoor.Pure
open Go Go.RowKit Go.Proofs.YtbgbbpmbmccgiaaDoor Go.Proofs.YtbgbbpmbmccgiaaDoor.X Go.Proofs.YtbgbbpmbmccgiaaDoorW.PrintWords
set_option linter.unusedVariables false
set_option linter.unusedSimpArgs false

def rightT (x : S23) : Bool := rightL x.f0.data.toList
def textT (x : S23) : List UInt8 := textL x.f0.data.toList x.f1
def textsL (l : List S23) : List UInt8 := if l.all rightT = true then Lib.join (l.map textT) [44, 32] else []
def bulkN (l : List S23) : Nat := (l.map fun x => 1 + x.f0.size).sum

theorem ref_Great_l0 (l : List S23) (hl : ∀ x ∈ l, x.f0.size ≤ 140737488351232) (hz : l.length ≤ 140737488351232) : ∀ (d : Nat) (n : Nat) (i : Int), 0 ≤ i → i + d = l.length → n ≤ 281474976710656 →
    Ev (fun k => mandolineref05_Great.l0 k l n i) (decide (400 < n + bulkN (l.drop i.toNat))) := by
  intro d
  induction d with
  | zero =>
    intro n i h0 h1 hn
    refine Ev.step (fun k => by rw [mandolineref05_Great.l0]) ?_
    rw [drop_end (by omega)]
    simp (disch := omega) only [if_neg]
    exact Ev.const (congrArg some (by simp [bulkN]; omega))
  | succ d ih =>
    intro n i h0 h1 hn
    refine Ev.step (fun k => by rw [mandolineref05_Great.l0]) ?_
    have hd := getD_drop (l := l) (z := z23) h0 (by omega)
    have hx := hl _ (getD_mem (l := l) (z := z23) h0 (by omega))
    rw [hd]
    have e : bulkN (l.getD i.toNat z23 :: l.drop (i + 1).toNat) = 1 + (l.getD i.toNat z23).f0.size + bulkN (l.drop (i + 1).toNat) := by simp [bulkN]
    by_cases h4 : n ≤ 400
    · have ih' := ih (n + 1 + (l.getD i.toNat z23).f0.size) (i + 1) (by omega) (by omega) (by omega)
      unfold rd_T23
      simp (disch := omega) only [if_pos, wrap64_eq]
      rw [e, show n + (1 + (l.getD i.toNat z23).f0.size + bulkN (l.drop (i + 1).toNat)) = n + 1 + (l.getD i.toNat z23).f0.size + bulkN (l.drop (i + 1).toNat) by omega]
      simpa using ih'
    · simp (disch := omega) only [if_pos, if_neg]
      exact Ev.const (congrArg some (by rw [e]; simp; omega))
theorem ref_Great_f (l : List S23) (hl : ∀ x ∈ l, x.f0.size ≤ 140737488351232) (hz : l.length ≤ 140737488351232) : Ev (fun k => mandolineref05_Great.f k l) (decide (400 < bulkN l)) := by
  have := ref_Great_l0 l hl hz l.length 0 0 (by omega) (by omega) (by omega)
  unfold mandolineref05_Great.f
  simpa using this
theorem bulk_len : ∀ l : List S23, l.length ≤ bulkN l
  | [] => by simp [bulkN]
  | x :: l => by
    have := bulk_len l
    simp [bulkN] at this ⊢
    omega

theorem textL_len (l : List UInt8) (wk : Bool) : (textL l wk).length ≤ 104 := by
  unfold textL
  split
  · rename_i h
    have := (rightL_len h).2
    split <;> simp <;> omega
  · simp
theorem join_len : ∀ (xs : List (List UInt8)) (sep : List UInt8) (B : Nat), (∀ x ∈ xs, x.length ≤ B) → (Lib.join xs sep).length ≤ xs.length * (B + sep.length)
  | [], sep, B, h => by simp [Lib.join_nil]
  | x :: r, sep, B, h => by
    rw [Lib.join_cons, List.length_append, Lib.joinTail_length]
    have h0 := h x (by simp)
    have h1 : Lib.lens r ≤ r.length * B := by
      clear h0
      induction r with
      | nil => simp [Lib.lens]
      | cons y r ih =>
        have := ih (fun z hz => h z (by simp at hz ⊢; rcases hz with hz | hz <;> simp [hz]))
        have hy := h y (by simp)
        simp [Lib.lens, Nat.succ_mul] at this ⊢
        omega
    rw [List.length_cons, Nat.succ_mul, Nat.mul_add, Nat.mul_comm sep.length]
    omega
theorem tag_Texts_l0 (l : List S23) (hl : ∀ x ∈ l, x.f0.size ≤ 140737488351232) (hz : l.length ≤ 1000) : ∀ (d : Nat) (acc : List ByteArray) (i : Int), 0 ≤ i → i + d = l.length → (acc.length : Int) = i → (∀ a ∈ acc, a.size ≤ 104) →
    Ev (fun k => tag_Texts.l0 k acc l l.length i) (bs (if (l.drop i.toNat).all rightT = true then Lib.join (acc.map (·.data.toList) ++ (l.drop i.toNat).map textT) [44, 32] else [])) := by
  intro d
  induction d with
  | zero =>
    intro acc i h0 h1 ha hb
    refine Ev.step (fun k => by rw [tag_Texts.l0]) ?_
    rw [drop_end (by omega)]
    simp (disch := omega) only [if_neg]
    have hj := join_len (acc.map (·.data.toList)) [44, 32] 104 (fun x hx => by
      obtain ⟨a, ha1, rfl⟩ := List.mem_map.1 hx
      rw [← size_list]
      exact hb a ha1)
    rw [List.length_map] at hj
    have hj2 : (Lib.join (acc.map (·.data.toList)) [44, 32]).length ≤ 1000 * 106 := Nat.le_trans hj (Nat.mul_le_mul (by omega) (by decide))
    have e : strings_Join.f acc (⟨#[44, 32]⟩ : ByteArray) = some (bs (Lib.join (acc.map (·.data.toList)) [44, 32])) := by
      unfold strings_Join.f
      rw [if_pos ⟨by omega, by show (Lib.join (acc.map (·.data.toList)) [44, 32]).length ≤ _; omega⟩]
      rfl
    simp only [e, Option.bind_some]
    exact Ev.const (by simp)
  | succ d ih =>
    intro acc i h0 h1 ha hb
    refine Ev.step (fun k => by rw [tag_Texts.l0]) ?_
    have hd := getD_drop (l := l) (z := z23) h0 (by omega)
    have hx := hl _ (getD_mem (l := l) (z := z23) h0 (by omega))
    rw [hd]
    unfold rd_T23
    simp (disch := omega) only [if_pos, wrap64_eq]
    refine Ev.bind (tag_Right_f _ _ (by omega)) ?_
    rw [List.all_cons]
    cases hr : rightL (l.getD i.toNat z23).f0.data.toList with
    | false =>
      simp only [Bool.false_eq_true, if_false]
      exact Ev.const (by have e : rightT _ = false := hr; rw [e, Bool.false_and]; rfl)
    | true =>
      simp only [if_true]
      refine Ev.bind (tag_Text_f _ _ (by omega)) ?_
      have ih' := ih (acc ++ [bs (textT (l.getD i.toNat z23))]) (i + 1) (by omega) (by omega) (by simp; omega) (fun a h => by
        rcases List.mem_append.1 h with h | h
        · exact hb a h
        · obtain rfl := List.mem_singleton.1 h
          rw [bs_size]
          exact textL_len _ _)
      have e : rightT (l.getD i.toNat z23) = true := hr
      rw [e, Bool.true_and]
      simpa [bs_list, textT] using ih'
theorem tag_Texts_f (l : List S23) (any : Bool) (hl : ∀ x ∈ l, x.f0.size ≤ 140737488351232) (hz : l.length ≤ 1000) : Ev (fun k => tag_Texts.f k l any) (bs (if any = true then [42] else textsL l)) := by
  unfold tag_Texts.f
  cases any with
  | true => exact Ev.const rfl
  | false =>
    have := tag_Texts_l0 l hl hz l.length [] 0 (by omega) (by omega) rfl (by simp)
    simp only [Bool.false_eq_true, if_false]
    exact this

theorem ref_Texts_l0 (l : List S23) (hl : ∀ x ∈ l, x.f0.size ≤ 140737488351232) (hz : l.length ≤ 1000) : ∀ (d : Nat) (acc : ByteArray) (i : Int), 0 < i → i + d = l.length → (acc.size : Int) ≤ i * 106 →
    Ev (fun k => mandolineref05_Texts.l0 k l acc i) (bs (if (l.drop i.toNat).all rightT = true then acc.data.toList ++ Lib.joinTail [44, 32] ((l.drop i.toNat).map textT) else [])) := by
  intro d
  induction d with
  | zero =>
    intro acc i h0 h1 ha
    refine Ev.step (fun k => by rw [mandolineref05_Texts.l0]) ?_
    rw [drop_end (by omega)]
    simp (disch := omega) only [if_neg]
    exact Ev.const (congrArg some (ext_list (by simp [bs_list, Lib.joinTail])))
  | succ d ih =>
    intro acc i h0 h1 ha
    refine Ev.step (fun k => by rw [mandolineref05_Texts.l0]) ?_
    have hd := getD_drop (l := l) (z := z23) (i := i) (by omega) (by omega)
    have hx := hl _ (getD_mem (l := l) (z := z23) (i := i) (by omega) (by omega))
    rw [hd]
    unfold rd_T23
    simp (disch := omega) only [if_pos, wrap64_eq]
    refine Ev.bind (ref_Right_f _ _ (by omega)) ?_
    rw [List.all_cons]
    cases hr : rightL (l.getD i.toNat z23).f0.data.toList with
    | false =>
      simp only [Bool.false_eq_true, if_false]
      exact Ev.const (by have e : rightT _ = false := hr; rw [e, Bool.false_and]; rfl)
    | true =>
      simp only [if_true]
      refine Ev.bind (ref_Text_f _ _ (by omega)) ?_
      have ht := textL_len (l.getD i.toNat z23).f0.data.toList (l.getD i.toNat z23).f1
      rw [bs_size]
      simp (disch := omega) only [if_pos]
      have ih' := ih (acc ++ (⟨#[44, 32]⟩ : ByteArray) ++ bs (textT (l.getD i.toNat z23))) (i + 1) (by omega) (by omega) (by
        rw [size_list, append_list, append_list, List.length_append, List.length_append, bs_list, ← size_list, show ((⟨#[44, 32]⟩ : ByteArray).data.toList).length = 2 from rfl]
        have : (textT (l.getD i.toNat z23)).length ≤ 104 := ht
        omega)
      have e : rightT (l.getD i.toNat z23) = true := hr
      rw [e, Bool.true_and]
      have e2 : (acc ++ (⟨#[44, 32]⟩ : ByteArray) ++ bs (textT (l.getD i.toNat z23))).data.toList ++ Lib.joinTail [44, 32] ((l.drop (i + 1).toNat).map textT) = acc.data.toList ++ Lib.joinTail [44, 32] ((l.getD i.toNat z23 :: l.drop (i + 1).toNat).map textT) := by
        simp [append_list, bs_list, Lib.joinTail]
      rw [e2] at ih'
      exact ih'
theorem ref_Texts_f (l : List S23) (any : Bool) (hl : ∀ x ∈ l, x.f0.size ≤ 140737488351232) (hz : l.length ≤ 1000) : Ev (fun k => mandolineref05_Texts.f k l any) (bs (if any = true then [42] else textsL l)) := by
  unfold mandolineref05_Texts.f
  cases any with
  | true => exact Ev.const rfl
  | false =>
    simp only [Bool.false_eq_true, if_false]
    refine Ev.step (fun k => by rw [mandolineref05_Texts.l0]) ?_
    match l, hl, hz with
    | [], _, _ => exact Ev.const rfl
    | x :: l, hl, hz =>
      have hx := hl x (by simp)
      have h0 : (0 : Int) < ((x :: l).length : Int) := by rw [List.length_cons]; omega
      rw [show rd_T23 (x :: l) 0 = x from rfl]
      simp (disch := omega) only [if_pos, if_neg]
      refine Ev.bind (ref_Right_f _ _ (by omega)) ?_
      unfold textsL
      rw [List.all_cons]
      cases hr : rightL x.f0.data.toList with
      | false =>
        simp only [Bool.false_eq_true, if_false]
        exact Ev.const (by have e : rightT _ = false := hr; rw [e, Bool.false_and]; rfl)
      | true =>
        simp only [if_true]
        refine Ev.bind (ref_Text_f _ _ (by omega)) ?_
        have ht := textL_len x.f0.data.toList x.f1
        have h00 : (⟨#[]⟩ : ByteArray).size = 0 := rfl
        rw [bs_size]
        simp (disch := omega) only [if_pos, wrap64_eq]
        have this := ref_Texts_l0 (x :: l) hl hz l.length ((⟨#[]⟩ : ByteArray) ++ bs (textT x)) 1 (by omega) (by simp; omega) (by
          rw [size_list, append_list, List.length_append, bs_list, show ((⟨#[]⟩ : ByteArray).data.toList).length = 0 from rfl]
          have : (textT x).length ≤ 104 := ht
          omega)
        have e : rightT x = true := hr
        rw [e, Bool.true_and]
        rw [List.map_cons, Lib.join_cons]
        have e2 : ((⟨#[]⟩ : ByteArray) ++ bs (textT x)).data.toList = textT x := by rw [append_list, bs_list]; rfl
        rw [e2] at this
        exact this
end Go.Proofs.YtbgbbpmbmccgiaaDoor.Pure
