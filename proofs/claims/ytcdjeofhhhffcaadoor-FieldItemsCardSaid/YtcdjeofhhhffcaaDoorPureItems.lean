/- What the functions over items of layer 7 (field) compute: the program's way from comma to comma, the document's byte by byte. Values no longer than memory. -/
import Derived.Test.YtcdjeofhhhffcaaDoorX0
import Derived.Test.YtcdjeofhhhffcaaDoorX2
import Derived.Test.YtcdjeofhhhffcaaDoorX3
import Derived.Test.YtcdjeofhhhffcaaDoorX7
import Derived.Test.YtcdjeofhhhffcaaDoorX8
import Derived.Test.YtcdjeofhhhffcaaDoorPureLists
namespace Go.Proofs.YtcdjeofhhhffcaaDoor.Pure
open Go Go.RowKit Go.Proofs.YtcdjeofhhhffcaaDoor Go.Proofs.YtcdjeofhhhffcaaDoor.X Go.Proofs.YtcdjeofhhhffcaaDoorW.PrintWords
set_option linter.unusedVariables false
set_option linter.unusedSimpArgs false

/-- Where the first comma is that is not quoted. -/
def commaL : Bool → List UInt8 → Nat
  | _, [] => 0
  | q, [b] => if b = 44 ∧ q = false then 0 else 1
  | q, b :: c :: r => if b = 34 then 1 + commaL (!q) (c :: r) else if q = true ∧ b = 92 then 2 + commaL q r else if b = 44 ∧ q = false then 0 else 1 + commaL q (c :: r)
/-- The pieces between such commas, byte by byte: quoted, behind a backslash, what stands ahead. -/
def pieces : Bool → Bool → List UInt8 → List UInt8 → List (List UInt8)
  | _, _, item, [] => [item]
  | q, e, item, b :: r => if b = 44 ∧ q = false then item :: pieces q e [] r
      else if e = true then pieces q false (item ++ [b]) r
      else if q = true ∧ b = 92 then pieces q true (item ++ [b]) r
      else if b = 34 then pieces (!q) e (item ++ [b]) r else pieces q e (item ++ [b]) r
theorem commaL_le : ∀ (n : Nat) (s : List UInt8) (q : Bool), s.length ≤ n → commaL q s ≤ s.length
  | _, [], q, _ => by simp [commaL]
  | _, [b], q, _ => by simp only [commaL]; split <;> simp
  | 0, b :: c :: r, q, h => by simp at h
  | n + 1, b :: c :: r, q, h => by
    simp only [List.length_cons] at h
    rw [commaL]
    have h1 := commaL_le n (c :: r) (!q) (by simp; omega)
    have h2 := commaL_le n (c :: r) q (by simp; omega)
    have h3 := commaL_le n r q (by omega)
    simp only [List.length_cons] at h1 h2 ⊢
    split
    · omega
    · split
      · omega
      · split <;> omega
def cutAt (n : Nat) (item s : List UInt8) : List (List UInt8) := if n < s.length then (item ++ s.take n) :: pieces false false [] (s.drop (n + 1)) else [item ++ s]
theorem cutAt_cons (n : Nat) (item s : List UInt8) (b : UInt8) : cutAt (1 + n) item (b :: s) = cutAt n (item ++ [b]) s := by
  unfold cutAt
  simp only [List.length_cons]
  rw [Nat.add_comm 1 n]
  by_cases h : n < s.length
  · rw [if_pos (by omega), if_pos h]
    simp
  · rw [if_neg (by omega), if_neg h]
    simp
theorem pieces_comma : ∀ (n : Nat) (s : List UInt8) (q : Bool) (item : List UInt8), s.length ≤ n → pieces q false item s = cutAt (commaL q s) item s
  | _, [], q, item, _ => by simp [pieces, cutAt]
  | _, [b], q, item, _ => by
    simp only [pieces, commaL, Bool.false_eq_true, if_false]
    by_cases h : b = 44 ∧ q = false
    · rw [if_pos h, if_pos h]; simp [cutAt, pieces]
    · rw [if_neg h, if_neg h]
      have : cutAt 1 item [b] = [item ++ [b]] := by simp [cutAt]
      rw [this]
      split
      · rfl
      · split <;> rfl
  | 0, b :: c :: r, q, item, h => by simp at h
  | n + 1, b :: c :: r, q, item, h => by
    simp only [List.length_cons] at h
    rw [pieces, commaL]
    by_cases h34 : b = 34
    · subst h34
      rw [if_neg (by simp), if_neg (by simp), if_neg (by simp), if_pos rfl, if_pos rfl, cutAt_cons]
      exact pieces_comma n (c :: r) (!q) (item ++ [34]) (by simp; omega)
    · rw [if_neg h34, if_neg h34]
      by_cases he : q = true ∧ b = 92
      · obtain ⟨rfl, rfl⟩ := he
        rw [if_neg (by simp), if_neg (by simp), if_pos ⟨rfl, rfl⟩, if_pos ⟨rfl, rfl⟩]
        rw [pieces, if_neg (by simp), if_pos rfl, show 2 + commaL true r = 1 + (1 + commaL true r) by omega, cutAt_cons, cutAt_cons]
        exact pieces_comma n r true (item ++ [92] ++ [c]) (by omega)
      · rw [if_neg he, if_neg he]
        by_cases h44 : b = 44 ∧ q = false
        · rw [if_pos h44, if_pos h44, h44.2]
          simp [cutAt]
        · rw [if_neg h44, if_neg h44, if_neg (by simp), cutAt_cons]
          exact pieces_comma n (c :: r) q (item ++ [b]) (by simp; omega)

theorem field_comma_l0 (s : ByteArray) (hs : s.size ≤ 140737488355328) : ∀ (n : Nat) (i : Int) (q : Bool), 0 ≤ i → i ≤ s.size + 1 → (s.size + 1 : Int) - i ≤ n →
    Ev (fun k => field_comma.l0 k s q i) (if i ≤ s.size then i + commaL q (s.data.toList.drop i.toNat) else (s.size : Int)) := by
  intro n
  induction n using Nat.strongRecOn with
  | _ n ih =>
    intro i q h0 h1 h2
    have z := size_list s
    refine Ev.step (fun k => by rw [field_comma.l0]) ?_
    by_cases hlt : i < s.size
    · rw [if_pos (by omega : i ≤ (s.size : Int))]
      obtain ⟨b, hd, hb⟩ := bt_drop (s := s) h0 hlt
      refine Ev.pos hlt (Ev.pos h0 ?_)
      rw [hb]
      have step : ∀ q' : Bool, Ev (fun k => field_comma.l0 k s q' (wrap64 (i + 1))) (i + 1 + commaL q' (s.data.toList.drop (i + 1).toNat)) := by
        intro q'
        have := ih (n - 1) (by omega) (i + 1) q' (by omega) (by omega) (by omega)
        rw [if_pos (by omega)] at this
        rw [wrap64_eq (by omega) (by omega)]
        exact this
      have hcons : ∀ q' : Bool, commaL q' (b :: s.data.toList.drop (i + 1).toNat) = if b = 34 then 1 + commaL (!q') (s.data.toList.drop (i + 1).toNat) else if q' = true ∧ b = 92 then (if s.data.toList.drop (i + 1).toNat = [] then 1 else 2 + commaL q' (s.data.toList.drop (i + 2).toNat)) else if b = 44 ∧ q' = false then 0 else 1 + commaL q' (s.data.toList.drop (i + 1).toNat) := by
        intro q'
        cases hr : s.data.toList.drop (i + 1).toNat with
        | nil =>
          simp only [commaL, if_true]
          by_cases h1 : b = 34
          · subst h1; simp
          · rw [if_neg h1]
            by_cases h2 : q' = true ∧ b = 92
            · rw [if_pos h2, if_neg (by rw [h2.1]; simp)]
            · rw [if_neg h2]
        | cons c r =>
          have : s.data.toList.drop (i + 2).toNat = r := by
            have h := congrArg (List.drop 1) hr
            rw [List.drop_drop] at h
            rw [show (i + 2).toNat = (i + 1).toNat + 1 by omega, h]
            rfl
          rw [commaL, this]
          simp
      rw [hd, hcons]
      by_cases h34 : b = 34
      · subst h34
        rw [if_pos rfl]
        refine Ev.pos (by rfl) ?_
        rw [show i + ((1 + commaL (!q) (s.data.toList.drop (i + 1).toNat) : Nat) : Int) = i + 1 + (commaL (!q) (s.data.toList.drop (i + 1).toNat) : Nat) by omega]
        exact step (!q)
      · rw [if_neg h34]
        refine Ev.neg (fun e => h34 (byte_eq.1 (e.trans rfl))) ?_
        cases q with
        | true =>
          refine Ev.pos rfl ?_
          refine Ev.step (fun k => by rw [field_comma.j1]) ?_
          by_cases h92 : b = 92
          · subst h92
            rw [if_pos ⟨rfl, rfl⟩]
            refine Ev.pos (by decide) ?_
            have := ih (n - 2) (by omega) (i + 2) true (by omega) (by omega) (by omega)
            rw [wrap64_eq (x := i + 1) (by omega) (by omega), show i + 1 + 1 = i + 2 by omega, wrap64_eq (by omega) (by omega)]
            by_cases hl : i + 2 ≤ s.size
            · rw [if_pos hl] at this
              rw [if_neg (by intro e; have := congrArg List.length e; rw [List.length_drop, ← z, List.length_nil] at this; omega)]
              rw [show i + ((2 + commaL true (s.data.toList.drop (i + 2).toNat) : Nat) : Int) = i + 2 + (commaL true (s.data.toList.drop (i + 2).toNat) : Nat) by omega]
              exact this
            · rw [if_neg hl] at this
              rw [if_pos (drop_end (by rw [← z]; omega))]
              rw [show i + ((1 : Nat) : Int) = s.size by omega]
              exact this
          · rw [if_neg (fun e => h92 e.2), if_neg (by simp)]
            refine Ev.neg (by simp; exact fun e => h92 (byte_eq.1 (e.trans rfl))) (Ev.pos rfl ?_)
            rw [show i + ((1 + commaL true (s.data.toList.drop (i + 1).toNat) : Nat) : Int) = i + 1 + (commaL true (s.data.toList.drop (i + 1).toNat) : Nat) by omega]
            exact step true
        | false =>
          rw [if_neg (by simp)]
          refine Ev.neg (by simp) ?_
          refine Ev.step (fun k => by rw [field_comma.j1]) ?_
          refine Ev.neg (by simp) (Ev.neg (by simp) (Ev.pos h0 (Ev.pos hlt ?_)))
          rw [hb]
          by_cases h44 : b = 44
          · subst h44
            rw [if_pos ⟨rfl, rfl⟩]
            refine Ev.pos (by rfl) ?_
            exact Ev.const (by simp)
          · rw [if_neg (fun e => h44 e.1)]
            refine Ev.neg (fun e => h44 (byte_eq.1 (e.trans rfl))) ?_
            rw [show i + ((1 + commaL false (s.data.toList.drop (i + 1).toNat) : Nat) : Int) = i + 1 + (commaL false (s.data.toList.drop (i + 1).toNat) : Nat) by omega]
            exact step false
    · refine Ev.neg hlt ?_
      refine Ev.const (congrArg some ?_)
      split
      · rw [drop_end (by rw [← z]; omega)]
        simp [commaL]
        omega
      · rfl
theorem field_comma_f (s : ByteArray) (hs : s.size ≤ 140737488355328) : Ev (fun k => field_comma.f k s) (commaL false s.data.toList : Int) := by
  have := field_comma_l0 s hs (s.size + 1) 0 false (by omega) (by omega) (by omega)
  rw [if_pos (by omega)] at this
  unfold field_comma.f
  simpa using this

/-! ### the items -/
def itemsL (s : List UInt8) : List ByteArray := (((pieces false false [] s).map trimL).filter (fun l => !l.isEmpty)).map bs
theorem itemsL_nil : itemsL [] = [] := rfl
def itemOf (l : List UInt8) : List ByteArray := if trimL l = [] then [] else [bs (trimL l)]
theorem itemsL_step (s : List UInt8) : itemsL s = itemOf (s.take (commaL false s)) ++ itemsL (s.drop (commaL false s + 1)) := by
  have hle := commaL_le s.length s false (Nat.le_refl _)
  unfold itemsL
  rw [pieces_comma s.length s false [] (Nat.le_refl _)]
  unfold cutAt itemOf
  by_cases h : commaL false s < s.length
  · rw [if_pos h, List.nil_append, List.map_cons, List.filter_cons]
    by_cases ht : trimL (s.take (commaL false s)) = []
    · rw [if_pos ht, ht]; simp
    · rw [if_neg ht, if_pos (by simpa using ht)]; simp
  · have e : commaL false s = s.length := by omega
    rw [if_neg h, e, List.take_length, List.drop_of_length_le (by omega)]
    have e0 : ((pieces false false [] ([] : List UInt8)).map trimL).filter (fun l => !l.isEmpty) = [] := rfl
    rw [e0, List.nil_append]
    by_cases ht : trimL s = []
    · rw [if_pos ht]; simp [ht]
    · rw [if_neg ht]; simp [ht]
theorem itemsL_len : ∀ (n : Nat) (s : List UInt8), s.length ≤ n → (itemsL s).length ≤ s.length
  | _, [], _ => by simp [itemsL_nil]
  | 0, b :: r, h => by simp at h
  | n + 1, b :: r, h => by
    rw [itemsL_step, List.length_append]
    have hle := commaL_le (b :: r).length (b :: r) false (Nat.le_refl _)
    have ih := itemsL_len n ((b :: r).drop (commaL false (b :: r) + 1)) (by rw [List.length_drop]; omega)
    rw [List.length_drop] at ih
    have h1 : (itemOf ((b :: r).take (commaL false (b :: r)))).length ≤ commaL false (b :: r) := by
      unfold itemOf
      split
      · simp
      · rename_i ht
        rcases Nat.eq_zero_or_pos (commaL false (b :: r)) with h0 | h0
        · rw [h0] at ht; exact absurd rfl ht
        · simp; omega
    simp only [List.length_cons] at *
    omega
def runL {σ : Type} (st : σ → ByteArray → Option (σ × Bool)) : σ → List ByteArray → Option σ
  | y, [] => some y
  | y, x :: r => (st y x).bind fun q => if q.2 = true then runL st q.1 r else some q.1
theorem field_Items_l1 {σ : Type} (st : σ → ByteArray → Option (σ × Bool)) (r : List ByteArray) (L : List ByteArray) (z : σ) (hr : ∀ y, runL st y L = some z → Ev (fun k => field_Items.l0 st k r y) z) :
    ∀ (n : Nat) (s : ByteArray) (y : σ), s.size ≤ n → s.size ≤ 140737488351232 → runL st y (itemsL s.data.toList ++ L) = some z → Ev (fun k => field_Items.l1 st k s r y) z := by
  intro n
  induction n using Nat.strongRecOn with
  | _ n ih =>
    intro s y hn hs hrun
    have zz := size_list s
    refine Ev.step (fun k => by rw [field_Items.l1]) ?_
    by_cases he : s.toList = []
    · refine Ev.pos he ?_
      rw [toList_data] at he
      rw [he, itemsL_nil, List.nil_append] at hrun
      exact hr y hrun
    · refine Ev.neg he ?_
      rw [toList_data] at he
      have hpos : 0 < s.size := by
        rcases Nat.eq_zero_or_pos s.size with h | h
        · exact absurd (List.eq_nil_of_length_eq_zero (by omega)) he
        · exact h
      refine Ev.bind (field_comma_f s (by omega)) ?_
      have hle := commaL_le s.data.toList.length s.data.toList false (Nat.le_refl _)
      refine Ev.pos ⟨by omega, by omega, by omega⟩ ?_
      have e1 : (s.extract 0 ((commaL false s.data.toList : Nat) : Int).toNat).data.toList = s.data.toList.take (commaL false s.data.toList) := by rw [extract_list, List.drop_zero, Nat.sub_zero, Int.toNat_natCast]
      have ht : strings_Trim.f (s.extract 0 ((commaL false s.data.toList : Nat) : Int).toNat) (⟨#[32, 9]⟩ : ByteArray) = some (bs (trimL (s.data.toList.take (commaL false s.data.toList)))) := by
        rw [strings_Trim_blank _ (by rw [size_list, e1, List.length_take]; omega), e1]
      simp only [ht, Option.bind_some]
      have e2 : (field_Items.rest s (commaL false s.data.toList : Nat)).data.toList = s.data.toList.drop (commaL false s.data.toList + 1) := by
        by_cases hm : ((commaL false s.data.toList : Nat) : Int) + 1 ≤ (s.size : Int)
        · rw [field_Items.rest_some hm, extract_list, List.take_of_length_le (by rw [List.length_drop]; omega)]
          congr 1
        · rw [field_Items.rest_none hm, List.drop_of_length_le (by omega)]
          rfl
      have z2 : (field_Items.rest s (commaL false s.data.toList : Nat)).size ≤ s.size - 1 := by rw [size_list, e2, List.length_drop]; omega
      rw [itemsL_step, List.append_assoc] at hrun
      have hgo : ∀ y', runL st y' (itemsL (s.data.toList.drop (commaL false s.data.toList + 1)) ++ L) = some z → Ev (fun k => field_Items.l1 st k (field_Items.rest s (commaL false s.data.toList : Nat)) r y') z := by
        intro y' h'
        rw [← e2] at h'
        exact ih (n - 1) (by omega) _ y' (by omega) (by omega) h'
      have etl : ((bs (trimL (s.data.toList.take (commaL false s.data.toList)))).toList = []) ↔ trimL (s.data.toList.take (commaL false s.data.toList)) = [] := by rw [toList_data, bs_list]
      unfold itemOf at hrun
      by_cases hi : trimL (s.data.toList.take (commaL false s.data.toList)) = []
      · rw [if_pos hi, List.nil_append] at hrun
        refine Ev.pos (etl.2 hi) ?_
        exact hgo y hrun
      · rw [if_neg hi, List.singleton_append, runL] at hrun
        refine Ev.neg (fun h => hi (etl.1 h)) ?_
        obtain ⟨q, hq, hrun⟩ := Option.bind_eq_some_iff.mp hrun
        simp only [hq, Option.bind_some]
        by_cases hm : q.2 = true
        · rw [if_pos hm] at hrun
          refine Ev.pos hm ?_
          exact hgo q.1 hrun
        · rw [if_neg hm] at hrun
          refine Ev.neg hm ?_
          exact Ev.const hrun
theorem field_Items_l0 {σ : Type} (st : σ → ByteArray → Option (σ × Bool)) (z : σ) : ∀ (l : List ByteArray) (y : σ), (∀ x ∈ l, x.size ≤ 140737488351232) → runL st y (l.flatMap fun x => itemsL x.data.toList) = some z → Ev (fun k => field_Items.l0 st k l y) z
  | [], y, _, h => by
    refine Ev.step (fun k => by rw [field_Items.l0]) ?_
    exact Ev.const h
  | x :: l, y, hl, h => by
    refine Ev.step (fun k => by rw [field_Items.l0]) ?_
    rw [List.flatMap_cons] at h
    exact field_Items_l1 st l _ z (fun y' h' => field_Items_l0 st z l y' (fun v hv => hl v (List.mem_cons_of_mem _ hv)) h') x.size x y (Nat.le_refl _) (hl x List.mem_cons_self) h
def allItems (l : List ByteArray) : List ByteArray := l.flatMap fun x => itemsL x.data.toList
theorem allItems_len : ∀ l : List ByteArray, (allItems l).length ≤ bulkT l
  | [] => by simp [allItems]
  | x :: l => by
    have h1 := itemsL_len _ x.data.toList (Nat.le_refl _)
    have h2 := allItems_len l
    have h3 := size_list x
    unfold allItems bulkT at *
    rw [List.flatMap_cons, List.length_append, List.map_cons, List.sum_cons]
    omega
theorem collect_st (acc : List ByteArray) (x : ByteArray) (h : acc.length + 1 ≤ 99999) : mandolinelaw07_items.st acc x = some (acc ++ [x], true) := by
  unfold mandolinelaw07_items.st
  rw [if_pos (by omega)]
  exact congrArg (fun b => some (acc ++ [x], b)) (decide_eq_true (by omega))
theorem run_collect : ∀ (L acc : List ByteArray), acc.length + L.length ≤ 99999 → runL mandolinelaw07_items.st acc L = some (acc ++ L)
  | [], acc, _ => by simp [runL]
  | x :: L, acc, h => by
    simp only [List.length_cons] at h
    rw [runL, collect_st acc x (by omega), Option.bind_some, if_pos rfl, run_collect L (acc ++ [x]) (by simp; omega)]
    simp
theorem items_f (l : List ByteArray) (hl : ∀ x ∈ l, x.size ≤ 140737488351232) (hb : bulkT l ≤ 99999) : Ev (fun k => mandolinelaw07_items.f k l) (allItems l) := by
  have := run_collect (allItems l) [] (by have := allItems_len l; simp; omega)
  unfold mandolinelaw07_items.f
  refine field_Items_l0 _ _ l [] hl ?_
  rw [List.nil_append] at this
  exact this
theorem run_count (sm : Int) : ∀ (L : List ByteArray) (n : Int), 0 ≤ n → n < sm → sm - n ≤ L.length → sm ≤ 140737488351232 → runL (mandolinelaw07_FieldItems.st sm) n L = some sm
  | [], n, h0, h1, h2, h3 => by simp at h2; omega
  | x :: L, n, h0, h1, h2, h3 => by
    simp only [List.length_cons] at h2
    rw [runL]
    unfold mandolinelaw07_FieldItems.st
    rw [if_pos (by omega)]
    simp only [Option.bind_some]
    by_cases hm : n + 1 < sm
    · rw [if_pos (decide_eq_true hm)]
      have := run_count sm L (n + 1) (by omega) hm (by omega) h3
      unfold mandolinelaw07_FieldItems.st at this
      exact this
    · rw [if_neg (by simpa using hm)]
      congr 1
      omega

/-! ### the document's own -/
theorem ref_items_l0 (s : ByteArray) (hs : s.size ≤ 4611686018427387) : ∀ (d : Nat) (i : Int) (q e : Bool) (out : List ByteArray) (item : ByteArray), 0 ≤ i → i + d = s.size → out.length + d ≤ 4398046511104 → item.size + d ≤ 4611686018427387 →
    Ev (fun k => mandolineref07_items.l0 k s out item q e i) (out ++ (pieces q e item.data.toList (s.data.toList.drop i.toNat)).map (fun l => bs (trimL l))) := by
  intro d
  induction d with
  | zero =>
    intro i q e out item h0 h1 h2 h3
    refine Ev.step (fun k => by rw [mandolineref07_items.l0]) ?_
    rw [drop_end (by rw [← size_list]; omega)]
    refine Ev.neg (by omega) ?_
    refine Ev.bind (ref_trim_f item (by omega)) ?_
    refine Ev.pos (by omega) ?_
    exact Ev.const (by simp [pieces])
  | succ d ih =>
    intro i q e out item h0 h1 h2 h3
    obtain ⟨b, hd, hb⟩ := bt_drop (s := s) h0 (by omega)
    have e1 : (s.extract i.toNat (i + 1).toNat).data.toList = [b] := by rw [extract_list, hd, show (i + 1).toNat - i.toNat = 1 by omega]; rfl
    have z1 : (s.extract i.toNat (i + 1).toNat).size = 1 := by rw [size_list, e1]; rfl
    have e2 : (item ++ s.extract i.toNat (i + 1).toNat).data.toList = item.data.toList ++ [b] := by rw [append_list, e1]
    have z2 : (item ++ s.extract i.toNat (i + 1).toNat).size = item.size + 1 := by rw [ByteArray.size_append, z1]
    have step : ∀ q' e', Ev (fun k => mandolineref07_items.l0 k s out (item ++ s.extract i.toNat (i + 1).toNat) q' e' (i + 1)) (out ++ (pieces q' e' (item.data.toList ++ [b]) (s.data.toList.drop (i + 1).toNat)).map (fun l => bs (trimL l))) := by
      intro q' e'
      have := ih (i + 1) q' e' out (item ++ s.extract i.toNat (i + 1).toNat) (by omega) (by omega) (by omega) (by omega)
      rw [e2] at this
      exact this
    refine Ev.step (fun k => by rw [mandolineref07_items.l0]) ?_
    rw [hd, pieces]
    refine Ev.pos (by omega) (Ev.pos h0 ?_)
    rw [hb]
    have go : ∀ x : Bool, x = decide (b = 44 ∧ q = false) → Ev (fun k => mandolineref07_items.j1 k s out item q e i x) (out ++ (if b = 44 ∧ q = false then item.data.toList :: pieces q e [] (s.data.toList.drop (i + 1).toNat) else if e = true then pieces q false (item.data.toList ++ [b]) (s.data.toList.drop (i + 1).toNat) else if q = true ∧ b = 92 then pieces q true (item.data.toList ++ [b]) (s.data.toList.drop (i + 1).toNat) else if b = 34 then pieces (!q) e (item.data.toList ++ [b]) (s.data.toList.drop (i + 1).toNat) else pieces q e (item.data.toList ++ [b]) (s.data.toList.drop (i + 1).toNat)).map (fun l => bs (trimL l))) := by
      intro x hx
      refine Ev.step (fun k => by rw [mandolineref07_items.j1]) ?_
      rw [wrap64_eq (x := i + 1) (by omega) (by omega)]
      by_cases hc : b = 44 ∧ q = false
      · rw [decide_eq_true hc] at hx
        subst hx
        rw [if_pos hc]
        refine Ev.pos rfl ?_
        refine Ev.bind (ref_trim_f item (by omega)) ?_
        refine Ev.pos (by omega) ?_
        have := ih (i + 1) q e (out ++ [bs (trimL item.data.toList)]) (⟨#[]⟩ : ByteArray) (by omega) (by omega) (by simp; omega) (by have : (⟨#[]⟩ : ByteArray).size = 0 := rfl; omega)
        simpa using this
      · rw [decide_eq_false hc] at hx
        subst hx
        rw [if_neg hc]
        refine Ev.neg (by simp) (Ev.pos h0 (Ev.pos (by omega) (Ev.pos (by omega) (Ev.pos (by omega) ?_))))
        have j2 : ∀ y : Bool, y = decide (q = true ∧ b = 92) → e = false → Ev (fun k => mandolineref07_items.j2 k s out (item ++ s.extract i.toNat (i + 1).toNat) q e i y) (out ++ (if q = true ∧ b = 92 then pieces q true (item.data.toList ++ [b]) (s.data.toList.drop (i + 1).toNat) else if b = 34 then pieces (!q) e (item.data.toList ++ [b]) (s.data.toList.drop (i + 1).toNat) else pieces q e (item.data.toList ++ [b]) (s.data.toList.drop (i + 1).toNat)).map (fun l => bs (trimL l))) := by
          intro y hy he
          refine Ev.step (fun k => by rw [mandolineref07_items.j2]) ?_
          rw [wrap64_eq (x := i + 1) (by omega) (by omega)]
          by_cases hq : q = true ∧ b = 92
          · rw [decide_eq_true hq] at hy
            subst hy
            rw [if_pos hq]
            refine Ev.pos rfl ?_
            exact step q true
          · rw [decide_eq_false hq] at hy
            subst hy
            rw [if_neg hq]
            refine Ev.neg (by simp) (Ev.pos h0 (Ev.pos (by omega) ?_))
            rw [hb]
            by_cases h34 : b = 34
            · rw [if_pos h34]
              refine Ev.pos (by rw [h34]; rfl) ?_
              exact step (!q) e
            · rw [if_neg h34]
              refine Ev.neg (fun x => h34 (byte_eq.1 (x.trans rfl))) ?_
              exact step q e
        cases e with
        | true =>
          rw [if_pos rfl]
          refine Ev.pos rfl ?_
          exact step q false
        | false =>
          rw [if_neg (by simp)]
          refine Ev.neg (by simp) ?_
          cases q with
          | true =>
            refine Ev.pos rfl (Ev.pos (by omega) ?_)
            rw [hb]
            refine j2 _ ?_ rfl
            rw [Bool.eq_iff_iff]
            simp only [beq_iff_eq, true_and, decide_eq_true_eq]
            exact ⟨fun h => byte_eq.1 (h.trans rfl), fun h => by rw [h]; rfl⟩
          | false =>
            refine Ev.neg (by simp) ?_
            exact j2 false (by simp) rfl
    by_cases h44 : b = 44
    · refine Ev.pos (by rw [h44]; rfl) ?_
      exact go _ (by cases q <;> simp [h44])
    · refine Ev.neg (fun x => h44 (byte_eq.1 (x.trans rfl))) ?_
      exact go _ (by simp [h44])
theorem ref_items_f (s : ByteArray) (hs : s.size ≤ 1000000) : Ev (fun k => mandolineref07_items.f k s) ((pieces false false [] s.data.toList).map (fun l => bs (trimL l))) := by
  have := ref_items_l0 s (by omega) s.size 0 false false [] (⟨#[]⟩ : ByteArray) (by omega) (by omega) (by simp; omega) (by have : (⟨#[]⟩ : ByteArray).size = 0 := rfl; omega)
  unfold mandolineref07_items.f
  simpa using this
theorem pieces_len : ∀ (s : List UInt8) (q e : Bool) (item : List UInt8), (pieces q e item s).length ≤ s.length + 1
  | [], q, e, item => by simp [pieces]
  | b :: s, q, e, item => by
    rw [pieces]
    have h := pieces_len s
    split
    · simp; exact h _ _ _
    · split
      · have := h q false (item ++ [b]); simp; omega
      · split
        · have := h q true (item ++ [b]); simp; omega
        · split
          · have := h (!q) e (item ++ [b]); simp; omega
          · have := h q e (item ++ [b]); simp; omega
theorem items_filter (P : List (List UInt8)) : ((P.map (fun l => bs (trimL l))).filter (fun x => !x.toList.isEmpty)) = (((P.map trimL).filter (fun l => !l.isEmpty)).map bs) := by
  rw [List.filter_map, List.filter_map, List.map_map]
  have e : ((fun x : ByteArray => !x.toList.isEmpty) ∘ fun l => bs (trimL l)) = ((fun l : List UInt8 => !l.isEmpty) ∘ trimL) := funext fun l => by
    show (!(bs (trimL l)).toList.isEmpty) = _
    rw [toList_data]
    rfl
  rw [e]
  rfl
theorem ref_Items_l1 (l : List ByteArray) (x9 x10 : Int) (P : List ByteArray) (hP : P.length ≤ 1000001) (z : List ByteArray) : ∀ (d : Nat) (i : Int) (acc : List ByteArray), 0 ≤ i → i + d = P.length → acc.length + d ≤ 4398046511104 →
    Ev (fun k => mandolineref07_Items.l0 k (acc ++ (P.drop i.toNat).filter (fun x => !x.toList.isEmpty)) l x9 (wrap64 (x10 + 1))) z → Ev (fun k => mandolineref07_Items.l1 k acc l x9 x10 P P.length i) z := by
  intro d
  induction d with
  | zero =>
    intro i acc h0 h1 h2 hz
    refine Ev.step (fun k => by rw [mandolineref07_Items.l1]) ?_
    rw [drop_end (by omega)] at hz
    refine Ev.neg (by omega) ?_
    simpa using hz
  | succ d ih =>
    intro i acc h0 h1 h2 hz
    refine Ev.step (fun k => by rw [mandolineref07_Items.l1]) ?_
    rw [getD_drop (l := P) (z := ByteArray.empty) h0 (by omega), List.filter_cons] at hz
    refine Ev.pos (by omega) (Ev.pos h0 (Ev.pos (by omega) ?_))
    unfold rdOf
    rw [wrap64_eq (x := i + 1) (by omega) (by omega)]
    by_cases he : (P.getD i.toNat ByteArray.empty).toList = []
    · refine Ev.pos he ?_
      rw [if_neg (by rw [he]; simp)] at hz
      exact ih (i + 1) acc (by omega) (by omega) (by omega) hz
    · refine Ev.neg he (Ev.pos (by omega) ?_)
      rw [if_pos (by simpa using he)] at hz
      exact ih (i + 1) (acc ++ [P.getD i.toNat ByteArray.empty]) (by omega) (by omega) (by simp; omega) (by simpa using hz)
theorem ref_Items_l0 (l : List ByteArray) (hl : ∀ x ∈ l, x.size ≤ 1000000) (hz : l.length ≤ 1000) : ∀ (d : Nat) (i : Int) (acc : List ByteArray), 0 ≤ i → i + d = l.length → acc.length + d * 1000001 ≤ 2000000000 →
    Ev (fun k => mandolineref07_Items.l0 k acc l l.length i) (acc ++ allItems (l.drop i.toNat)) := by
  intro d
  induction d with
  | zero =>
    intro i acc h0 h1 h2
    refine Ev.step (fun k => by rw [mandolineref07_Items.l0]) ?_
    rw [drop_end (by omega)]
    refine Ev.neg (by omega) ?_
    exact Ev.const (by simp [allItems])
  | succ d ih =>
    intro i acc h0 h1 h2
    refine Ev.step (fun k => by rw [mandolineref07_Items.l0]) ?_
    have hx := hl _ (getD_mem (l := l) (z := ByteArray.empty) h0 (by omega))
    rw [getD_drop (l := l) (z := ByteArray.empty) h0 (by omega)]
    refine Ev.pos (by omega) (Ev.pos h0 (Ev.pos (by omega) ?_))
    unfold rdOf
    generalize l.getD i.toNat ByteArray.empty = v at hx ⊢
    refine Ev.bind (ref_items_f v hx) ?_
    have hpl := pieces_len v.data.toList false false []
    have zv := size_list v
    refine ref_Items_l1 l l.length i _ (by rw [List.length_map]; omega) _ _ 0 acc (by omega) (by simp; rfl) (by omega) ?_
    rw [Int.toNat_zero, List.drop_zero, items_filter, wrap64_eq (by omega) (by omega)]
    have hlen := itemsL_len _ v.data.toList (Nat.le_refl _)
    have := ih (i + 1) (acc ++ itemsL v.data.toList) (by omega) (by omega) (by rw [List.length_append]; omega)
    have e : acc ++ allItems (v :: l.drop (i + 1).toNat) = acc ++ itemsL v.data.toList ++ allItems (l.drop (i + 1).toNat) := by simp [allItems]
    rw [e]
    exact this
theorem ref_Items_f (l : List ByteArray) (hl : ∀ x ∈ l, x.size ≤ 1000000) (hz : l.length ≤ 1000) : Ev (fun k => mandolineref07_Items.f k l) (allItems l) := by
  have := ref_Items_l0 l hl hz l.length 0 [] (by omega) (by omega) (by simp; omega)
  unfold mandolineref07_Items.f
  simpa using this
end Go.Proofs.YtcdjeofhhhffcaaDoor.Pure
