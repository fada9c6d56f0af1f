/- FieldCase, in plain words: a name's letters' case makes no difference to what is found, set and left out. Texts are no longer than the form's reach. -/
import Derived.Test.YtcdjeofhhhffcaaDoorX0
import Derived.Test.YtcdjeofhhhffcaaDoorX15
import Derived.Test.YtcdjeofhhhffcaaDoorX21
import Derived.Test.YtcdjeofhhhffcaaDoorPureFieldSets
namespace Go.Proofs.YtcdjeofhhhffcaaDoor.Pure
open Go Go.RowKit Go.Proofs.YtcdjeofhhhffcaaDoor Go.Proofs.YtcdjeofhhhffcaaDoor.X Go.Proofs.YtcdjeofhhhffcaaDoorW.PrintWords
set_option linter.unusedVariables false
set_option linter.unusedSimpArgs false
theorem lowU_idem (b : UInt8) : lowU (lowU b) = lowU b := by
  unfold lowU mandolineref07_Low.b
  by_cases h : 65 ≤ b.toNat ∧ b.toNat ≤ 90
  · rw [if_pos h]
    rw [if_neg]
    rw [UInt8.toNat_add]
    have : (32 : UInt8).toNat = 32 := rfl
    omega
  · rw [if_neg h, if_neg h]
theorem lowL_idem (l : List UInt8) : lowL (lowL l) = lowL l := by
  unfold lowL
  rw [List.map_map]
  exact List.map_congr_left (fun b _ => lowU_idem b)
theorem nameIs_low (name : ByteArray) (x : S33) : nameIs (bs (lowL name.data.toList)) x = nameIs name x := by
  unfold nameIs
  rw [bs_list, lowL_idem]
theorem nameIs_self (name value : ByteArray) : nameIs name ⟨bs (lowL name.data.toList), value⟩ = true := by
  unfold nameIs
  rw [bs_list, lowL_idem]
  simp
theorem nameIs_lowF (name : ByteArray) : nameIs (bs (lowL name.data.toList)) = nameIs name := funext (nameIs_low name)
theorem setL_true (n value name : ByteArray) (hn : nameIs n = nameIs name) : ∀ l : List S33, setL n value true l = withoutL name l
  | [] => by simp [setL, withoutL]
  | x :: r => by
    rw [setL, withoutL_cons, hn, setL_true n value name hn r]
    simp
theorem setL_find (n value name : ByteArray) (hn : nameIs n = nameIs name) (hs : nameIs name ⟨n, value⟩ = true) : ∀ l : List S33, (setL n value false l).find? (nameIs name) = some ⟨n, value⟩
  | [] => by simp [setL, hs]
  | x :: r => by
    rw [setL, hn]
    cases h : nameIs name x with
    | true => simp [hs]
    | false => simp only [Bool.false_eq_true, if_false]; rw [List.find?_cons, h]; exact setL_find n value name hn hs r
theorem withoutL_of (name : ByteArray) (l : List S33) : ofL name (withoutL name l) = [] := by
  unfold ofL withoutL
  rw [List.filter_filter]
  have : (l.filter fun a => nameIs name a && !nameIs name a) = [] := by
    rw [List.filter_eq_nil_iff]
    intro a _
    cases nameIs name a <;> simp
  rw [this]
  rfl
theorem setL_of (n value name : ByteArray) (hn : nameIs n = nameIs name) (hs : nameIs name ⟨n, value⟩ = true) : ∀ l : List S33, ofL name (setL n value false l) = [value]
  | [] => by simp [setL, ofL, hs]
  | x :: r => by
    rw [setL, hn]
    cases h : nameIs name x with
    | true =>
      simp only [if_true, Bool.false_eq_true, if_false]
      rw [ofL_cons, hs, setL_true n value name hn r, withoutL_of]
      rfl
    | false =>
      simp only [Bool.false_eq_true, if_false]
      rw [ofL_cons, h]
      simpa using setL_of n value name hn hs r
theorem without_twice (name : ByteArray) (l : List S33) : withoutL name (withoutL name l) = withoutL name l := by
  unfold withoutL
  rw [List.filter_filter]
  congr 1
  funext a
  simp
theorem setL_without (n value name : ByteArray) (hn : nameIs n = nameIs name) (hs : nameIs name ⟨n, value⟩ = true) : ∀ l : List S33, withoutL name (setL n value false l) = withoutL name l
  | [] => by simp [setL, withoutL, hs]
  | x :: r => by
    rw [setL, hn, withoutL_cons]
    cases h : nameIs name x with
    | true =>
      simp only [if_true, Bool.false_eq_true, if_false]
      rw [withoutL_cons, hs, setL_true n value name hn r, without_twice]
      rfl
    | false =>
      simp only [Bool.false_eq_true, if_false]
      rw [withoutL_cons, h, setL_without n value name hn hs r]
      rfl
theorem setL_mem (n value : ByteArray) : ∀ (l : List S33) (put : Bool), ∀ x ∈ setL n value put l, x = ⟨n, value⟩ ∨ x ∈ l
  | [], put, x, h => by
    cases put <;> simp [setL] at h
    exact .inl h
  | y :: r, put, x, h => by
    rw [setL] at h
    split at h
    · split at h
      · rcases setL_mem n value r put x h with h | h
        · exact .inl h
        · exact .inr (List.mem_cons_of_mem _ h)
      · rcases List.mem_cons.1 h with h | h
        · exact .inl h
        · rcases setL_mem n value r true x h with h | h
          · exact .inl h
          · exact .inr (List.mem_cons_of_mem _ h)
    · rcases List.mem_cons.1 h with h | h
      · exact .inr (h ▸ List.mem_cons_self)
      · rcases setL_mem n value r put x h with h | h
        · exact .inl h
        · exact .inr (List.mem_cons_of_mem _ h)
theorem FieldCase_j0 (l : List S33) (name value : ByteArray) (b : Bool) (hb : b = false → Small l ∧ l.length ≤ 130) (hn : name.size ≤ reachBytes) : Ev (fun k => mandolinelaw07_FieldCase.j0 k l name value b) true := by
  have r : reachBytes = 140737488351232 := rfl
  refine Ev.step (fun k => by rw [mandolinelaw07_FieldCase.j0]) ?_
  cases b with
  | true => exact Ev.const rfl
  | false =>
    obtain ⟨hs, hs1⟩ := hb rfl
    have hF := nameIs_lowF name
    have hS := nameIs_self name value
    have hz : (bs (lowL name.data.toList)).size ≤ reachBytes := by
      rw [bs_size]; unfold lowL; rw [List.length_map, ← size_list]; exact hn
    have hset : Small (setL (bs (lowL name.data.toList)) value false l) := ⟨by have := setL_len (bs (lowL name.data.toList)) value l false; omega, fun x hx => by
      rcases setL_mem _ _ _ _ x hx with h | h
      · subst h; show (bs (lowL name.data.toList)).size ≤ _; omega
      · exact hs.2 x h⟩
    simp only [Bool.false_eq_true, if_false]
    rw [ref_Low_f name (by omega)]
    simp only [Option.bind_some]
    refine Ev.bind (field_Get_f l name hs) ?_
    have h2 := field_Get_f l (bs (lowL name.data.toList)) hs
    rw [hF] at h2
    refine Ev.bind h2 ?_
    refine Ev.bind (field_Set_f l (bs (lowL name.data.toList)) value hs) ?_
    have h3 := field_Get_f _ name hset
    rw [setL_find _ value name hF hS] at h3
    refine Ev.bind h3 ?_
    simp only [if_true, beq_self_eq_true, Option.elim]
    have h4 := field_Of_f _ name hset
    rw [setL_of _ value name hF hS] at h4
    refine Ev.bind h4 ?_
    refine Ev.pos (by rfl) ?_
    have h5 := field_Without_f _ name hset
    rw [setL_without _ value name hF hS] at h5
    refine Ev.bind h5 ?_
    have h6 := field_Without_f l (bs (lowL name.data.toList)) hs
    have e6 : withoutL (bs (lowL name.data.toList)) l = withoutL name l := by unfold withoutL; rw [hF]
    rw [e6] at h6
    refine Ev.bind h6 ?_
    refine Ev.bind (Same_refl _ (by have := withoutL_len name l; omega)) ?_
    exact Ev.const rfl
theorem FieldCase (a0 : List S33) (a1 : ByteArray) (a2 : ByteArray) (g0 : a0.length * 32 ≤ reachBytes ∧ ∀ a3 ∈ a0, (a3.f0.size ≤ reachBytes) ∧ (a3.f1.size ≤ reachBytes)) (g1 : a1.size ≤ reachBytes) (g2 : a2.size ≤ reachBytes) : ∃ k, mandolinelaw07_FieldCase.f k a0 a1 a2 = some true := by
  have r : reachBytes = 140737488351232 := rfl
  refine Ev.ends ?_
  unfold mandolinelaw07_FieldCase.f
  refine Ev.bind alive_ok ?_
  simp only [if_true]
  obtain ⟨g, hg, hg'⟩ := ref_Great_f a0 (by omega) (fun x hx => by have := g0.2 x hx; omega)
  refine Ev.bind hg ?_
  cases g with
  | true => exact FieldCase_j0 a0 a1 a2 true (by simp) g1
  | false =>
    simp only [Bool.false_eq_true, if_false]
    obtain ⟨g', hq, _⟩ := law_great_f [a1, a2] (by simp) (by intro x hx; simp at hx; rcases hx with rfl | rfl <;> omega)
    refine Ev.bind hq ?_
    exact FieldCase_j0 a0 a1 a2 g' (fun _ => ⟨small_of g0.2 (hg' rfl).1, (hg' rfl).1⟩) g1
end Go.Proofs.YtcdjeofhhhffcaaDoor.Pure
