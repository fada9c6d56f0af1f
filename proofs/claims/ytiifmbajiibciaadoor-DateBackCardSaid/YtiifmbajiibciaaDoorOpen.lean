/- How an argument that can be read as data is opened into the print's kinds: whole numbers, truths, texts, slices and structs of these, however nested; with what the form's reach says of sizes. No condition. -/
import Derived.Test.YtiifmbajiibciaaDoorWWords
import Derived.ProofKit
import Derived.OpenShut
import Derived.SizedLaws
import Derived.Deep.Slices
namespace Go.Proofs.YtiifmbajiibciaaDoor
open Go.RowKit Go.Proofs.YtiifmbajiibciaaDoorW.PrintWords Go.WideShapes Go.ChangeShapes
set_option linter.unusedVariables false

/-- Every value of type t that reads as data is, as kind d tells it, an 'a' of which G holds. -/
structure Opens (P : Program) (t : TypeId) {α : Type} (d : Kd α) (G : α → Prop) : Prop where
  sz : P.cellsOf t = d.sz
  opened : ∀ {H : Type} {enc : TypeId × Value → H} {w : World} {base : Nat} {sp : Nat → Bool} {held : Bool} {fuel : Nat} {cs : List Value} {x : DataW H × List MemPlace},
    DataW.trod enc P w base sp held fuel t cs = some x → (∀ n ∈ x.1.weights P t, n ≤ reachBytes) → ∃ a, d.K w a cs ∧ G a

theorem Opens.int {P : Program} {t : TypeId} {k : IntKind} (hu : P.underlying t = some (.int k)) (hc : P.cellsOf t = 1) : Opens P t (Kd.int k) (fun n => (Lit.int k n).wf = true) :=
  ⟨hc, fun {_ _ _ _ _ _ _ _ _} h _ => by
    obtain ⟨n, rfl, _, hw⟩ := DataW.trod_int hu h
    exact ⟨n, rfl, hw⟩⟩
theorem Opens.bool {P : Program} {t : TypeId} (hu : P.underlying t = some .bool) (hc : P.cellsOf t = 1) : Opens P t Kd.bool (fun _ => True) :=
  ⟨hc, fun {_ _ _ _ _ _ _ _ _} h _ => by
    obtain ⟨b, rfl, _⟩ := DataW.trod_bool hu h
    exact ⟨b, rfl, trivial⟩⟩
theorem Opens.string {P : Program} {t : TypeId} (hu : P.underlying t = some .string) (hc : P.cellsOf t = 1) : Opens P t Kd.string (fun s => s.size ≤ reachBytes) :=
  ⟨hc, fun {_ _ _ _ _ _ _ _ _} h hw => by
    obtain ⟨s, rfl, rfl, _⟩ := DataW.trod_string hu h
    refine ⟨s, rfl, ?_⟩
    have := hw s.data.toList.length (by simp [DataW.weights])
    simpa using this⟩

theorem weightsAll_mem {H : Type} {P : Program} {e : TypeId} : ∀ {l : List (DataW H)} {d : DataW H} {n : Nat}, d ∈ l → n ∈ d.weights P e → n ∈ DataW.weightsAll P e l
  | d0 :: l, d, n, hd, hn => by
    rw [DataW.weightsAll, List.mem_append]
    rcases List.mem_cons.1 hd with rfl | hd
    · exact .inl hn
    · exact .inr (weightsAll_mem hd hn)

theorem choose_list {α : Type} {p : Nat → α → Prop} : ∀ (n : Nat), (∀ i, i < n → ∃ a, p i a) → ∃ l : List α, l.length = n ∧ ∀ i a, l[i]? = some a → p i a
  | 0, _ => ⟨[], rfl, fun i a h => by simp at h⟩
  | n + 1, h => by
    obtain ⟨l, hl, hp⟩ := choose_list n (fun i hi => h i (by omega))
    obtain ⟨a, ha⟩ := h n (by omega)
    refine ⟨l ++ [a], by simp [hl], fun i b hb => ?_⟩
    by_cases hi : i < l.length
    · rw [List.getElem?_append_left hi] at hb
      exact hp i b hb
    · rw [List.getElem?_append_right (by omega)] at hb
      have : i - l.length = 0 := by
        by_cases h0 : i - l.length = 0
        · exact h0
        · rw [List.getElem?_eq_none (by simp; omega)] at hb
          cases hb
      rw [this] at hb
      have hi' : i = n := by omega
      subst hi'
      obtain rfl := Option.some.inj hb
      exact ha

theorem Opens.slice {P : Program} {t e : TypeId} {α : Type} {d : Kd α} {G : α → Prop} (hu : P.underlying t = some (.slice e)) (hc : P.cellsOf t = 1) {B : Nat} (hB : P.bytesOf e = B) (he : Opens P e d G) :
    Opens P t (Kd.slice e d) (fun l => l.length * B ≤ reachBytes ∧ ∀ a ∈ l, G a) :=
  ⟨hc, fun {_ _ w base _ _ _ _ _} h hw => by
    rcases Go.Deep.open_slice hu h with ⟨rfl, _⟩ | ⟨a, len, cap, m, n, D, Pl, rfl, hb, hl, hm, hmm, rfl, hx⟩
    · exact ⟨[], ⟨none, 0, rfl, Nat.le_refl _, rfl, by simp, fun h0 => absurd h0 (by simp)⟩, by simp, by simp⟩
    · have hlm : len ≤ m := by rw [hmm]; split <;> omega
      obtain ⟨l, hlen, hp⟩ := choose_list (p := fun i y => ∃ cs', w.cells? base (a.add (i * P.cellsOf e)) (P.cellsOf e) = some cs' ∧ d.K w y cs' ∧ G y) len (fun i hi => by
        obtain ⟨cs', h1, h2⟩ := hx i (by omega)
        obtain ⟨y, hy, hg⟩ := he.opened h2 (fun q hq => hw q (by
          simp only [DataW.weights, hu]
          refine List.mem_cons_of_mem _ (List.mem_append_left _ ?_)
          exact weightsAll_mem (List.mem_map.2 ⟨i, by simpa using hi, rfl⟩) hq))
        exact ⟨y, cs', h1, hy, hg⟩)
      refine ⟨l, ⟨some a, cap, by rw [hlen], by omega, rfl, ?_, fun h0 => ⟨a, rfl, fun j y hy => ?_⟩⟩, ?_, fun y hy => ?_⟩
      · have : cap ≤ 9223372036854775807 := hm
        omega
      · obtain ⟨cs', h1, hk, _⟩ := hp j y hy
        obtain ⟨_, hl', hcell⟩ := World.cells?_some h1
        refine ⟨cs', d.K_len hk, hk, fun i u hi => ?_⟩
        rw [← he.sz, ← Go.Deep.add_add]
        have hil : i < P.cellsOf e := by
          have := (List.getElem?_eq_some_iff.1 hi).1
          rw [hl'] at this
          exact this
        rw [hcell i hil]
        exact hi
      · have := hw ((len + (m - len)) * P.bytesOf e) (by simp only [DataW.weights, hu, List.length_map, List.length_range]; exact List.mem_cons_self)
        rw [hB] at this
        rw [hlen]
        exact Nat.le_trans (Nat.mul_le_mul_right _ (by omega)) this
      · obtain ⟨i, hi⟩ := List.getElem?_of_mem hy
        obtain ⟨_, _, _, hg⟩ := hp i y hi
        exact hg⟩

/-- A struct's fields from one on, which begins at cell 'off'. -/
structure OpensFs (P : Program) (fs : List Field) (off : Nat) {α : Type} (d : Kd α) (G : α → Prop) : Prop where
  opened : ∀ {H : Type} {enc : TypeId × Value → H} {w : World} {base : Nat} {sp : Nat → Bool} {held : Bool} {fuel : Nat} {cs : List Value} {ys : List (DataW H × List MemPlace)},
    cs.length = off + d.sz → ys.length = fs.length → (∀ (i : Nat) (f : Field), fs[i]? = some f → DataW.trod enc P w base sp held fuel f.type ((cs.drop f.offset).take (P.cellsOf f.type)) = ys[i]?) →
    (∀ n ∈ DataW.weightsEach P (fs.map (·.type)) (ys.map (·.1)), n ≤ reachBytes) → ∃ a, d.K w a (cs.drop off) ∧ G a
theorem OpensFs.one {P : Program} {f : Field} {off : Nat} {α : Type} {d : Kd α} {G : α → Prop} (ho : f.offset = off) (h : Opens P f.type d G) : OpensFs P [f] off d G :=
  ⟨fun {_ _ _ _ _ _ _ cs ys} hcs hys hf hw => by
    match ys, hys with
    | [y], _ =>
      have h0 := hf 0 f rfl
      rw [ho, h.sz, List.take_of_length_le (by simp; omega)] at h0
      exact h.opened h0 (fun n hn => hw n (by simp [DataW.weightsEach, hn]))⟩
theorem OpensFs.cons {P : Program} {f : Field} {fs : List Field} {off : Nat} {α β : Type} {d : Kd α} {d' : Kd β} {G : α → Prop} {G' : β → Prop} (ho : f.offset = off) (h : Opens P f.type d G) (h' : OpensFs P fs (off + d.sz) d' G') :
    OpensFs P (f :: fs) off (Kd.pair d d') (fun p => G p.1 ∧ G' p.2) :=
  ⟨fun {_ _ _ _ _ _ _ cs ys} hcs hys hf hw => by
    match ys, hys with
    | y :: ys, hys =>
      have hcs' : cs.length = off + (d.sz + d'.sz) := hcs
      have h0 := hf 0 f rfl
      rw [ho, h.sz] at h0
      obtain ⟨a, ha, hga⟩ := h.opened h0 (fun n hn => hw n (by
        simp only [List.map_cons, DataW.weightsEach]
        exact List.mem_append_left _ hn))
      obtain ⟨b, hb, hgb⟩ := h'.opened (cs := cs) (ys := ys) (by omega) (by simpa using hys) (fun i f' hf' => by simpa using hf (i + 1) f' (by simpa using hf')) (fun n hn => hw n (by
        simp only [List.map_cons, DataW.weightsEach]
        exact List.mem_append_right _ hn))
      refine ⟨(a, b), ⟨_, _, ?_, ha, hb⟩, hga, hgb⟩
      rw [← List.drop_drop, List.take_append_drop]⟩
theorem Opens.struct {P : Program} {t : TypeId} {fs : Array Field} {α : Type} {d : Kd α} {G : α → Prop} (hu : P.underlying t = some (.struct fs)) (hc : P.cellsOf t = d.sz) (h : OpensFs P fs.toList 0 d G) : Opens P t d G :=
  ⟨hc, fun {_ _ _ _ _ _ _ cs x} hx hw => by
    obtain ⟨xs, n, rfl, rfl, hl, hn, hel⟩ := DataW.trod_struct hu hx
    have := h.opened (cs := cs) (ys := xs) (by rw [hl, hc]; omega) (by simpa using hn) (fun i f hf => hel i f (by simpa using hf)) (fun q hq => hw q (by simpa only [DataW.weights, hu] using hq))
    simpa using this⟩
theorem Opens.iso {P : Program} {t : TypeId} {α β : Type} {d : Kd α} {G : α → Prop} (f : β → α) (g : α → β) (hfg : ∀ a, f (g a) = a) (h : Opens P t d G) : Opens P t (Kd.iso d f) (fun b => G (f b)) :=
  ⟨h.sz, fun {_ _ _ _ _ _ _ _ _} hx hw => by
    obtain ⟨a, ha, hg⟩ := h.opened hx hw
    exact ⟨g a, by show d.K _ (f (g a)) _; rw [hfg]; exact ha, by show G (f (g a)); rw [hfg]; exact hg⟩⟩

/-- An argument, out of the row's reading. -/
theorem Opens.arg {P : Program} {t : TypeId} {α : Type} {d : Kd α} {G : α → Prop} (h : Opens P t d G) {H : Type} {enc : TypeId × Value → H} {w : World} {base : Nat} {sp : Nat → Bool} {held : Bool} {v : Value} {x : DataW H} {ps : List MemPlace} {ts : List TypeId} {ds : List (DataW H)} {j : Nat}
    (hx : DataW.Trod enc P w base sp held t v x ps) (hsz : (DataW.weightsEach P ts ds).all (· ≤ reachBytes) = true) (ht : ts[j]? = some t) (hd : ds[j]? = some x) : ∃ a, d.K w a v.cells.toList ∧ G a := by
  obtain ⟨fuel, hf⟩ := hx
  exact h.opened hf (fun n hn => by
    have := List.all_eq_true.1 hsz _ (DataW.weights_mem_each ht hd n hn)
    simpa using this)
section
variable {P : Program} {t : TypeId} {H : Type} {enc : TypeId × Value → H} {w : World} {base b0 : Nat} {sp : Nat → Bool} {held : Bool} {v : Value} {x : DataW H} {ps : List MemPlace} {ts : List TypeId} {ds : List (DataW H)} {j : Nat} {r : Reach}
theorem Opens.argInt {k : IntKind} {G : Int → Prop} (hu : P.underlying t = some (.int k)) (h : Opens P t (Kd.int k) G) (hv : Value.okWide P w r b0 t v) (hx : DataW.Trod enc P w base sp held t v x ps) (hsz : (DataW.weightsEach P ts ds).all (· ≤ reachBytes) = true) (ht : ts[j]? = some t) (hd : ds[j]? = some x) :
    ∃ a, v = .int k a ∧ G a := by
  obtain ⟨n, rfl⟩ := okWide_int hu hv
  obtain ⟨a, hk, hg⟩ := h.arg hx hsz ht hd
  have e : (Value.int k n).cells.toList = [.int k a] := hk
  simp [Value.cells] at e
  subst e
  exact ⟨n, rfl, hg⟩
theorem Opens.argBool {G : Bool → Prop} (hu : P.underlying t = some .bool) (h : Opens P t Kd.bool G) (hv : Value.okWide P w r b0 t v) (hx : DataW.Trod enc P w base sp held t v x ps) (hsz : (DataW.weightsEach P ts ds).all (· ≤ reachBytes) = true) (ht : ts[j]? = some t) (hd : ds[j]? = some x) :
    ∃ a, v = .bool a ∧ G a := by
  obtain ⟨n, rfl⟩ := okWide_bool hu hv
  obtain ⟨a, hk, hg⟩ := h.arg hx hsz ht hd
  have e : (Value.bool n).cells.toList = [.bool a] := hk
  simp [Value.cells] at e
  subst e
  exact ⟨n, rfl, hg⟩
theorem Opens.argString {G : ByteArray → Prop} (hu : P.underlying t = some .string) (h : Opens P t Kd.string G) (hv : Value.okWide P w r b0 t v) (hx : DataW.Trod enc P w base sp held t v x ps) (hsz : (DataW.weightsEach P ts ds).all (· ≤ reachBytes) = true) (ht : ts[j]? = some t) (hd : ds[j]? = some x) :
    ∃ a, v = .string a ∧ G a := by
  obtain ⟨n, rfl⟩ := okWide_string hu hv
  obtain ⟨a, hk, hg⟩ := h.arg hx hsz ht hd
  have e : (Value.string n).cells.toList = [.string a] := hk
  simp [Value.cells] at e
  subst e
  exact ⟨n, rfl, hg⟩
theorem Opens.argSlice {e : TypeId} {α : Type} {d : Kd α} {G : List α → Prop} (hu : P.underlying t = some (.slice e)) (h : Opens P t (Kd.slice e d) G) (hv : Value.okWide P w r b0 t v) (hx : DataW.Trod enc P w base sp held t v x ps) (hsz : (DataW.weightsEach P ts ds).all (· ≤ reachBytes) = true) (ht : ts[j]? = some t) (hd : ds[j]? = some x) :
    ∃ A c a, v = .slice A a.length c ∧ a.length ≤ c ∧ d.C w A a.length a ∧ G a := by
  obtain ⟨A, n, c, rfl⟩ := okWide_slice hu hv
  obtain ⟨a, ⟨A', c', hk, hc, hr⟩, hg⟩ := h.arg hx hsz ht hd
  simp [Value.cells] at hk
  obtain ⟨rfl, rfl, rfl⟩ := hk
  exact ⟨A, c, a, rfl, hc, hr, hg⟩
theorem Opens.argAgg {fs : Array Field} {α : Type} {d : Kd α} {G : α → Prop} (hu : P.underlying t = some (.struct fs)) (h : Opens P t d G) (hv : Value.okWide P w r b0 t v) (hx : DataW.Trod enc P w base sp held t v x ps) (hsz : (DataW.weightsEach P ts ds).all (· ≤ reachBytes) = true) (ht : ts[j]? = some t) (hd : ds[j]? = some x) :
    ∃ cs a, v = .agg (List.toArray cs) ∧ d.K w a cs ∧ G a := by
  obtain ⟨cs, rfl, _⟩ := okWide_struct hu hv
  obtain ⟨a, hk, hg⟩ := h.arg hx hsz ht hd
  exact ⟨cs.toList, a, by simp, hk, hg⟩
end
/- The cells that a plain table's datum lays. -/
mutual
def flatCells : DataW Unit → List Value
  | .lit (.int k n) => [.int k n]
  | .lit (.bool b) => [.bool b]
  | .lit (.string s) => [.string ⟨s.toArray⟩]
  | .agg l => flatCellsAll l
  | _ => []
def flatCellsAll : List (DataW Unit) → List Value
  | [] => []
  | d :: r => flatCells d ++ flatCellsAll r
end
/-- A table's block, holding that. -/
def lay (d : DataW Unit) : Obj → Obj
  | .cells _ t frozen => .cells (flatCells d).toArray t frozen
  | o => o
end Go.Proofs.YtiifmbajiibciaaDoor
