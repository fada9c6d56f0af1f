/- How much is played; which texts stand between a value's commas. Texts no longer than memory. -/
import Derived.Test.YtmapdckelbobiaaDoorX0
import Derived.Test.YtmapdckelbobiaaDoorX2
import Derived.Test.YtmapdckelbobiaaDoorX8
import Derived.Test.YtmapdckelbobiaaDoorX9
import Derived.Test.YtmapdckelbobiaaDoorX10
import Derived.Test.YtmapdckelbobiaaDoorPureBase
namespace Go.Proofs.YtmapdckelbobiaaDoor.Pure
open Go Go.RowKit Go.Proofs.YtmapdckelbobiaaDoor Go.Proofs.YtmapdckelbobiaaDoor.X Go.Proofs.YtmapdckelbobiaaDoorW.PrintWords
set_option linter.unusedVariables false
set_option linter.unusedSimpArgs false
def bulk (l : List ByteArray) : Nat := (l.map fun x => 1 + x.size).sum
theorem Great_l0 (l : List ByteArray) (hz : l.length ≤ 140737488355328) (hf : ∀ x ∈ l, x.size ≤ 140737488355328) : ∀ (d : Nat) (n : Nat) (i : Int), n ≤ 281474976710656 → 0 ≤ i → i + d = l.length →
    ∃ g, Ev (fun k => mandolineref09_Great.l0 k l n i) g ∧ (g = false → n + bulk (l.drop i.toNat) ≤ 600) := by
  intro d
  induction d with
  | zero =>
    intro n i hn h0 h1
    refine ⟨decide ((n : Int) > 600), Ev.step (fun k => by rw [mandolineref09_Great.l0]) ?_, fun h => ?_⟩
    · refine Ev.neg (by omega) (Ev.const rfl)
    · rw [drop_end (by omega)]
      have := of_decide_eq_false h
      simp only [bulk, List.map_nil, List.sum_nil]
      omega
  | succ d ih =>
    intro n i hn h0 h1
    have hx := hf _ (getD_mem (l := l) (z := ByteArray.empty) h0 (by omega))
    by_cases hc : (n : Int) ≤ 600
    · obtain ⟨g, hg, hg'⟩ := ih (n + 1 + (l.getD i.toNat ByteArray.empty).size) (i + 1) (by omega) (by omega) (by omega)
      refine ⟨g, Ev.step (fun k => by rw [mandolineref09_Great.l0]) ?_, fun h => ?_⟩
      · unfold rdOf
        simp (disch := omega) only [if_pos, wrap64_eq]
        have e : (n : Int) + 1 + ((l.getD i.toNat ByteArray.empty).size : Int) = ((n + 1 + (l.getD i.toNat ByteArray.empty).size : Nat) : Int) := by omega
        rw [e]
        exact hg
      · have := hg' h
        rw [getD_drop (l := l) (z := ByteArray.empty) h0 (by omega)]
        have e : bulk (l.getD i.toNat ByteArray.empty :: l.drop (i + 1).toNat) = 1 + (l.getD i.toNat ByteArray.empty).size + bulk (l.drop (i + 1).toNat) := by simp [bulk]
        rw [e]
        omega
    · refine ⟨true, Ev.step (fun k => by rw [mandolineref09_Great.l0]) ?_, fun h => by cases h⟩
      refine Ev.pos (by omega) (Ev.neg hc (Ev.const ?_))
      exact congrArg some (decide_eq_true (by omega))
theorem bulk_mem : ∀ {l : List ByteArray} {x : ByteArray}, x ∈ l → x.size + 1 ≤ bulk l
  | y :: l, x, h => by
    have e : bulk (y :: l) = 1 + y.size + bulk l := by simp [bulk]
    rw [e]
    rcases List.mem_cons.1 h with rfl | h
    · omega
    · have := bulk_mem h
      omega
theorem bulk_len : ∀ l : List ByteArray, l.length ≤ bulk l
  | [] => by simp
  | y :: l => by
    have e : bulk (y :: l) = 1 + y.size + bulk l := by simp [bulk]
    have := bulk_len l
    rw [e, List.length_cons]
    omega
theorem Great_f (l : List ByteArray) (hz : l.length ≤ 140737488355328) (hf : ∀ x ∈ l, x.size ≤ 140737488355328) :
    ∃ g, Ev (fun k => mandolineref09_Great.f k l) g ∧ (g = false → bulk l ≤ 600) := by
  obtain ⟨g, hg, hg'⟩ := Great_l0 l hz hf l.length 0 0 (by omega) (by omega) (by omega)
  refine ⟨g, hg, fun h => ?_⟩
  have := hg' h
  rw [Int.toNat_zero, List.drop_zero] at this
  omega
/-! ### what stands between commas -/
def cutC : List UInt8 → Bool → List UInt8 → List (List UInt8)
  | cur, _, [] => [cur]
  | cur, q, b :: l => if b = 34 then cutC (cur ++ [b]) (!q) l else if b = 44 ∧ q = false then cur :: cutC [] false l else cutC (cur ++ [b]) q l
theorem cutC_mem : ∀ (l cur : List UInt8) (q : Bool) (x : List UInt8), x ∈ cutC cur q l → x.length ≤ cur.length + l.length
  | [], cur, q, x, h => by
    rw [cutC] at h
    obtain rfl := List.mem_singleton.1 h
    simp
  | b :: l, cur, q, x, h => by
    rw [cutC] at h
    split at h
    · have := cutC_mem l _ _ x h
      rw [List.length_append, List.length_singleton] at this
      rw [List.length_cons]
      omega
    · split at h
      · rcases List.mem_cons.1 h with rfl | h
        · rw [List.length_cons]; omega
        · have := cutC_mem l _ _ x h
          rw [List.length_nil] at this
          rw [List.length_cons]
          omega
      · have := cutC_mem l _ _ x h
        rw [List.length_append, List.length_singleton] at this
        rw [List.length_cons]
        omega
def tb (l : List UInt8) : ByteArray := bs (trimL l)
def dirL (l : List UInt8) : List (List UInt8) := (cutC [] false l).map trimL
theorem dirL_mem {l x : List UInt8} (h : x ∈ dirL l) : x.length ≤ l.length := by
  obtain ⟨y, hy, rfl⟩ := List.mem_map.1 h
  have h1 := cutC_mem l [] false y hy
  have h2 := trimL_len y
  rw [List.length_nil] at h1
  omega
/-- The piece that is open at i. -/
def piece (s : ByteArray) (a i : Int) : List UInt8 := (s.data.toList.drop a.toNat).take (i.toNat - a.toNat)
theorem piece_snoc {s : ByteArray} {a i : Int} {b : UInt8} (h0 : 0 ≤ a) (h1 : a ≤ i) (hd : s.data.toList.drop i.toNat = b :: s.data.toList.drop (i + 1).toNat) : piece s a (i + 1) = piece s a i ++ [b] := by
  unfold piece
  have e : (i + 1).toNat - a.toNat = (i.toNat - a.toNat) + 1 := by omega
  rw [e, List.take_add_one]
  congr 1
  rw [List.getElem?_drop, show a.toNat + (i.toNat - a.toNat) = i.toNat by omega]
  have : s.data.toList[i.toNat]? = some b := by
    have h := congrArg (fun l => l[0]?) hd
    simpa [List.getElem?_drop] using h
  rw [this]
  rfl
theorem piece_self (s : ByteArray) (a : Int) : piece s a a = [] := by unfold piece; rw [Nat.sub_self]; rfl
theorem piece_bytes (s : ByteArray) (a i : Int) : (s.extract a.toNat i.toNat).data.toList = piece s a i := extract_list s _ _
theorem piece_size (s : ByteArray) (a i : Int) : (piece s a i).length ≤ s.size := by
  unfold piece
  rw [List.length_take, List.length_drop, ← size_list]
  omega
theorem trim_piece (s : ByteArray) (hs : s.size ≤ 1000) (a i : Int) : strings_Trim.f (s.extract a.toNat i.toNat) (⟨#[32, 9]⟩ : ByteArray) = some (tb (piece s a i)) := by
  have h := piece_size s a i
  rw [strings_Trim_blank _ (by rw [size_list, piece_bytes]; omega), piece_bytes]
  rfl
theorem ref_trim_piece (s : ByteArray) (hs : s.size ≤ 1000) (a i : Int) : Ev (fun k => mandolineref09_trim.f k (s.extract a.toNat i.toNat)) (tb (piece s a i)) := by
  have h := piece_size s a i
  have t := ref_trim_f (s.extract a.toNat i.toNat) (by rw [size_list, piece_bytes]; omega)
  rw [piece_bytes] at t
  exact t
theorem b34 {b : UInt8} : ((b.toNat : Int) = 34) ↔ b = 34 := (byte_eq (b := b) (c := 34))
theorem b44 {b : UInt8} : ((b.toNat : Int) = 44) ↔ b = 44 := (byte_eq (b := b) (c := 44))
theorem directives_l0 (s : ByteArray) (hs : s.size ≤ 1000) : ∀ (d : Nat) (acc : List ByteArray) (a i : Int) (q : Bool), acc.length + d ≤ 2000 → 0 ≤ a → a ≤ i → i + d = s.size →
    Ev (fun k => control_directives.l0 k s acc a q s.size i) (acc ++ (cutC (piece s a i) q (s.data.toList.drop i.toNat)).map tb) := by
  intro d
  induction d with
  | zero =>
    intro acc a i q hl h0 h1 h2
    refine Ev.step (fun k => by rw [control_directives.l0]) ?_
    rw [drop_end (by rw [← size_list]; omega), cutC]
    have e : i.toNat = s.size := by omega
    have t := trim_piece s hs a i
    rw [e] at t
    refine Ev.neg (by omega) ?_
    refine Ev.pos h0 ?_
    refine Ev.pos (by omega) ?_
    rw [t]
    simp only [Option.bind_some]
    exact Ev.pos (by omega) (Ev.const rfl)
  | succ d ih =>
    intro acc a i q hl h0 h1 h2
    obtain ⟨b, hd, hb⟩ := bt_drop (s := s) (i := i) (by omega) (by omega)
    have hp := piece_snoc h0 h1 hd
    refine Ev.step (fun k => by rw [control_directives.l0]) ?_
    rw [hd, cutC]
    refine Ev.pos (by omega) ?_
    refine Ev.pos (by omega) ?_
    refine Ev.pos (by omega) ?_
    rw [hb, wrap64_eq (x := i + 1) (by omega) (by omega)]
    by_cases hq : b = 34
    · rw [if_pos hq]
      refine Ev.pos (b34.2 hq) ?_
      have t := ih acc a (i + 1) (!q) (by omega) h0 (by omega) (by omega)
      rw [hp] at t
      exact t
    · rw [if_neg hq]
      refine Ev.neg (fun e => hq (b34.1 e)) ?_
      by_cases hc : b = 44
      · refine Ev.pos (b44.2 hc) ?_
        cases q with
        | true =>
          rw [if_neg (show ¬ (b = 44 ∧ true = false) by simp)]
          refine Ev.pos rfl ?_
          have t := ih acc a (i + 1) true (by omega) h0 (by omega) (by omega)
          rw [hp] at t
          exact t
        | false =>
          rw [if_pos ⟨hc, rfl⟩]
          refine Ev.neg (by decide) ?_
          refine Ev.pos h0 ?_
          refine Ev.pos h1 ?_
          refine Ev.pos (by omega) ?_
          rw [trim_piece s hs a i]
          simp only [Option.bind_some]
          refine Ev.pos (by omega) ?_
          have t := ih (acc ++ [tb (piece s a i)]) (i + 1) (i + 1) false (by rw [List.length_append, List.length_singleton]; omega) (by omega) (by omega) (by omega)
          rw [piece_self, List.append_assoc] at t
          exact t
      · rw [if_neg (fun e => hc e.1)]
        refine Ev.neg (fun e => hc (b44.1 e)) ?_
        have t := ih acc a (i + 1) q (by omega) h0 (by omega) (by omega)
        rw [hp] at t
        exact t
theorem parts_l0 (s : ByteArray) (hs : s.size ≤ 1000) : ∀ (d : Nat) (acc : List ByteArray) (a i : Int) (q : Bool), acc.length + d ≤ 2000 → 0 ≤ a → a ≤ i → i + d = s.size →
    Ev (fun k => mandolineref09_parts.l0 k s acc a q i) (acc ++ (cutC (piece s a i) q (s.data.toList.drop i.toNat)).map tb) := by
  intro d
  induction d with
  | zero =>
    intro acc a i q hl h0 h1 h2
    refine Ev.step (fun k => by rw [mandolineref09_parts.l0]) ?_
    rw [drop_end (by rw [← size_list]; omega), cutC]
    have e : i.toNat = s.size := by omega
    have t := ref_trim_piece s hs a i
    rw [e] at t
    refine Ev.neg (by omega) ?_
    refine Ev.pos h0 ?_
    refine Ev.pos (by omega) ?_
    refine Ev.bind t ?_
    exact Ev.pos (by omega) (Ev.const rfl)
  | succ d ih =>
    intro acc a i q hl h0 h1 h2
    obtain ⟨b, hd, hb⟩ := bt_drop (s := s) (i := i) (by omega) (by omega)
    have hp := piece_snoc h0 h1 hd
    refine Ev.step (fun k => by rw [mandolineref09_parts.l0]) ?_
    rw [hd, cutC]
    refine Ev.pos (by omega) ?_
    refine Ev.pos (by omega) ?_
    rw [hb, wrap64_eq (x := i + 1) (by omega) (by omega)]
    by_cases hq : b = 34
    · rw [if_pos hq]
      refine Ev.pos (b34.2 hq) ?_
      have h44 : ¬ ((b.toNat : Int) = 44) := by rw [hq]; decide
      refine Ev.neg h44 ?_
      have t := ih acc a (i + 1) (!q) (by omega) h0 (by omega) (by omega)
      rw [hp] at t
      exact t
    · rw [if_neg hq]
      refine Ev.neg (fun e => hq (b34.1 e)) ?_
      by_cases hc : b = 44
      · refine Ev.pos (b44.2 hc) ?_
        cases q with
        | true =>
          rw [if_neg (show ¬ (b = 44 ∧ true = false) by simp)]
          refine Ev.pos rfl ?_
          have t := ih acc a (i + 1) true (by omega) h0 (by omega) (by omega)
          rw [hp] at t
          exact t
        | false =>
          rw [if_pos ⟨hc, rfl⟩]
          refine Ev.neg (by decide) ?_
          refine Ev.pos h0 ?_
          refine Ev.pos h1 ?_
          refine Ev.pos (by omega) ?_
          refine Ev.bind (ref_trim_piece s hs a i) ?_
          refine Ev.pos (by omega) ?_
          have t := ih (acc ++ [tb (piece s a i)]) (i + 1) (i + 1) false (by rw [List.length_append, List.length_singleton]; omega) (by omega) (by omega) (by omega)
          rw [piece_self, List.append_assoc] at t
          exact t
      · rw [if_neg (fun e => hc e.1)]
        refine Ev.neg (fun e => hc (b44.1 e)) ?_
        have t := ih acc a (i + 1) q (by omega) h0 (by omega) (by omega)
        rw [hp] at t
        exact t
theorem dirL_bs (l : List UInt8) : (cutC [] false l).map tb = (dirL l).map bs := by
  unfold dirL tb
  rw [List.map_map]
  rfl
theorem directives_f (s : ByteArray) (hs : s.size ≤ 1000) : Ev (fun k => control_directives.f k s) ((dirL s.data.toList).map bs) := by
  have t := directives_l0 s hs s.size [] 0 0 false (by simp; omega) (by omega) (by omega) (by omega)
  rw [piece_self, Int.toNat_zero, List.drop_zero, dirL_bs] at t
  exact t
theorem parts_f (s : ByteArray) (hs : s.size ≤ 1000) : Ev (fun k => mandolineref09_parts.f k s) ((dirL s.data.toList).map bs) := by
  have t := parts_l0 s hs s.size [] 0 0 false (by simp; omega) (by omega) (by omega) (by omega)
  rw [piece_self, Int.toNat_zero, List.drop_zero, dirL_bs] at t
  exact t
end Go.Proofs.YtmapdckelbobiaaDoor.Pure
