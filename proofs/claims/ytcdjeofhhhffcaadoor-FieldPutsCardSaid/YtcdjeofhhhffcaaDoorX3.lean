-- Printed by a program of this session (pp.py: the kit's print.py, run with contracts of its own) out of the translation. Not trusted: Lean checks it.
import Derived.Test.YtcdjeofhhhffcaaDoorX0
import Derived.Test.YtcdjeofhhhffcaaDoorX2
namespace Go.Proofs.YtcdjeofhhhffcaaDoor.X
open Go.RowKit Go.Proofs.YtcdjeofhhhffcaaDoorW.PrintWords Go.Proofs.YtcdjeofhhhffcaaDoorW.PrintLast Go.Proofs.YtcdjeofhhhffcaaDoorW.PrintMore
attribute [local go_sem] max2_int min2_int max_two min_two max_three min_three max_four min_four   -- for this text's walks alone
set_option linter.unusedVariables false
set_option linter.unusedSimpArgs false

/-! ### mandolinelaw07_items: function 15 -/
/-- field.Items(values...)(yield), at a yield that turns a state y and an item into a state, and whether it asks for more. -/
def field_Items.rest (s : ByteArray) (n : Int) : ByteArray := s.extract (if n + 1 ≤ (s.size : Int) then n + 1 else (s.size : Int)).toNat s.size
mutual
def field_Items.l0 {σ : Type} (st : σ → ByteArray → Option (σ × Bool)) : Nat → List ByteArray → σ → Option σ
  | 0, _, _ => none
  | _ + 1, [], y => some y
  | k + 1, v :: r, y => field_Items.l1 st k v r y
def field_Items.l1 {σ : Type} (st : σ → ByteArray → Option (σ × Bool)) : Nat → ByteArray → List ByteArray → σ → Option σ
  | 0, _, _, _ => none
  | k + 1, s, r, y => if s.toList = ([] : List UInt8) then field_Items.l0 st k r y else (field_comma.f k s).bind fun n => if 0 ≤ n ∧ n ≤ (s.size : Int) ∧ (s.size : Int) ≤ 140737488351232 then
      (strings_Trim.f (s.extract 0 n.toNat) (⟨#[32, 9]⟩ : ByteArray)).bind fun item => if item.toList = ([] : List UInt8) then field_Items.l1 st k (field_Items.rest s n) r y
        else (st y item).bind fun q => if q.2 = true then field_Items.l1 st k (field_Items.rest s n) r q.1 else some q.1
      else none
end
theorem field_Items.mono_l {σ : Type} (st : σ → ByteArray → Option (σ × Bool)) : ∀ k, (∀ y0 y1, LeO (field_Items.l0 st k y0 y1) (field_Items.l0 st (k + 1) y0 y1)) ∧ (∀ y0 y1 y2, LeO (field_Items.l1 st k y0 y1 y2) (field_Items.l1 st (k + 1) y0 y1 y2))
  | 0 => ⟨fun _ _ r h => by simp [field_Items.l0] at h, fun _ _ _ r h => by simp [field_Items.l1] at h⟩
  | k + 1 => by
    obtain ⟨ih0, ih1⟩ := field_Items.mono_l st k
    refine ⟨?_, ?_⟩
    · intro y0 y1
      cases y0 with
      | nil => exact LeO.refl _
      | cons v r =>
        rw [field_Items.l0, field_Items.l0]
        exact ih1 _ _ _
    · intro y0 y1 y2
      rw [field_Items.l1, field_Items.l1]
      refine LeO.ite (ih0 _ _) (LeO.bind (field_comma.mono _ _) (fun n => LeO.ite (LeO.bind (LeO.refl _) (fun item => LeO.ite (ih1 _ _ _) (LeO.bind (LeO.refl _) (fun q => LeO.ite (ih1 _ _ _) (LeO.refl _))))) (LeO.refl _)))
theorem field_Items.rest_some {s : ByteArray} {n : Int} (h : n + 1 ≤ (s.size : Int)) : field_Items.rest s n = s.extract (n + 1).toNat s.size := by unfold field_Items.rest; rw [if_pos h]
theorem field_Items.rest_none {s : ByteArray} {n : Int} (h : ¬ n + 1 ≤ (s.size : Int)) : field_Items.rest s n = ByteArray.empty := by
  unfold field_Items.rest
  rw [if_neg h]
  apply ByteArray.ext
  apply Array.ext'
  simp
theorem field_Items.mk (A : Option Addr) (n c : Nat) (w : World) :
    Calls Tryd.prog 16 #[.slice A n c] w fun e w' => e = .returned (.func (.func 37) #[] #[.pointer (some ⟨w.heap.size, 0, none⟩)]) ∧ w' = w.alloc (.cells #[.slice A n c] 22) := by
  go_enter Tryd.func16, Tryd.ntmps16
  go_wp2
  go_ret
  exact ⟨rfl, rfl⟩

/-- items' closure: what was collected. -/
def mandolinelaw07_items.At (w0 : World) (bo : Nat) (xs : List ByteArray) (w : World) : Prop := ∃ v, w.heap[bo]? = some (.cells #[v] 22 (0, 0)) ∧ w0.heap.size ≤ bo ∧ Kd.R Kd.string 9 w w0.heap.size (fun _ => True) v xs ∧ Below w0.heap.size w0 w
theorem mandolinelaw07_items.At.below {w0 w w' : World} {bo : Nat} {xs : List ByteArray} (h : mandolinelaw07_items.At w0 bo xs w) (hb : Below w.heap.size w w') : mandolinelaw07_items.At w0 bo xs w' := by
  obtain ⟨v, h1, h2, h3, h4⟩ := h
  exact ⟨v, (hb.block bo (blk_lt h1)).trans h1, h2, Kd.R_below h3 hb, below_step h4 hb⟩
theorem mandolinelaw07_items.At.drawn {w0 w w' : World} {bo : Nat} {xs : List ByteArray} (h : mandolinelaw07_items.At w0 bo xs w) (hd : Drawn0 w w') : mandolinelaw07_items.At w0 bo xs w' := by
  obtain ⟨⟨n, rfl⟩⟩ := hd
  exact h.below (pw_below_drewN (Below.refl _ _) n)
theorem mandolinelaw07_items.At.bel {w0 w : World} {bo : Nat} {xs : List ByteArray} (h : mandolinelaw07_items.At w0 bo xs w) : Below w0.heap.size w0 w := by obtain ⟨_, _, _, _, h4⟩ := h; exact h4
def mandolinelaw07_items.st (xs : List ByteArray) (x : ByteArray) : Option (List ByteArray × Bool) := if xs.length < 8796093022208 then some (xs ++ [x], decide ((xs.length : Int) + 1 < 100000)) else none
set_option maxHeartbeats 4000000 in
set_option maxRecDepth 100000 in
theorem mandolinelaw07_items.yields (w0 : World) (bo : Nat) (xs : List ByteArray) (x : ByteArray) (r : List ByteArray × Bool) (w : World) (hat : mandolinelaw07_items.At w0 bo xs w) (h : mandolinelaw07_items.st xs x = some r) :
    Calls Tryd.prog 36 #[.string x, .pointer (some ⟨bo, 0, none⟩)] w fun e w' => e = .returned (.bool r.2) ∧ mandolinelaw07_items.At w0 bo r.1 w' := by
  unfold mandolinelaw07_items.st at h
  split at h
  rotate_left
  · exact absurd h (by simp)
  rename_i hl
  obtain rfl := Option.some.inj h
  clear h
  obtain ⟨v, hbk, hbo, hO, hB⟩ := hat
  have hc : w.cell? ⟨bo, 0, none⟩ = some v := blk_cell hbk 0
  have hne : some bo ≠ v.ownBlock := Kd.R_ne hO hbk (by decide)
  have hlt := blk_lt hbk
  have HO := Aside0.mk hO
  have HB := Aside0.mk hB
  have HL := Aside0.mk hl
  have HBK := Aside0.mk hbk
  have HBO := Aside0.mk hbo
  have HNE := Aside0.mk hne
  have HLT := Aside0.mk hlt
  clear hO hB hl hbk hbo hne hlt
  go_enter Tryd.func36, Tryd.ntmps36
  go_wp2_with ((with_reducible refine gate_builtin (b := .append) (xs := #[.tmp 4, .tmp 6]) rfl ?_); at_builtin; refine Kd.R_append Kd.string (w0 := w0) w0.heap.size rfl (.tmp 4) (.tmp 6) 22 9 (.string ⟨#[]⟩) 16 rfl Tryd.underlying22 info9 rfl (by decide) (by omega) v xs x [.string x] (fun _ => True) (fun _ => False) rfl rfl ?aP (fun _ hk => hk.elim) ?aF ?aO ?aB ?aS ?aL ?_; (case aP => exact rfl); (case aB => exact HB.out); (case aF => exact (fun _ _ => trivial)); (case aO => exact HO.out); (case aS => exact HB.out.size); (case aL => have := HL.out; omega); intro v1 w1 ho hb hg hat; have hbk1 := (hg.block bo HLT.out HNE.out).trans HBK.out; have c1 : w1.cell? ⟨bo, 0, none⟩ = some v := blk_cell hbk1 0; have f1 : w1.frozen? ⟨bo, 0, none⟩ = false := blk_frozen hbk1 0; obtain ⟨A1, k1, e1, hk1, _⟩ := Kd.R_reads ho; subst e1; have HO1 := Aside0.mk ho; have HB1 := Aside0.mk hb; have HBK1 := Aside0.mk hbk1; clear ho hb hbk1 hg hat hk1)
  go_ret
  refine ⟨rfl, _, blk_put HBK1.out 0 _ rfl, HBO.out, ?_, HB1.out.setCell HBO.out _⟩
  have := Kd.R_set HO1.out HBK1.out (by simp [Kd.string, Kd.scalar]) 0 (.slice A1 (xs ++ [x]).length k1)
  simpa using this

set_option maxHeartbeats 8000000 in
set_option maxRecDepth 100000 in
theorem mandolinelaw07_items.seq (k : Nat) (A : Option Addr) (c : Nat) (l : List ByteArray) (bv bo : Nat) (y y' : List ByteArray) (w0 w : World) (hr : Kd.C Kd.string w0 A l.length l) (hv : w.cell? ⟨bv, 0, none⟩ = some (.slice A l.length c)) (hat : mandolinelaw07_items.At w0 bo y w) (h : field_Items.l0 mandolinelaw07_items.st k l y = some y') :
    Calls Tryd.prog 37 #[.func (.func 36) #[] #[.pointer (some ⟨bo, 0, none⟩)], .pointer (some ⟨bv, 0, none⟩)] w fun e w' => e = .returned (.tuple #[]) ∧ mandolinelaw07_items.At w0 bo y' w' := by
  have HR := Aside0.mk hr
  have HA := Aside0.mk hat
  have HF := Aside0.mk h
  have hlen : (l.length : Int) ≤ 9223372036854775807 := by have := hr.2.1; omega
  have hl0 : (0 : Int) ≤ (l.length : Int) := by omega
  clear hr hat h
  go_enter Tryd.func37, Tryd.ntmps37
  go_wp2
  go_loopg [9] k (fun kq v9 w' => ∃ (j : Nat) (yj : List ByteArray), v9 = .int .i64 j ∧ j ≤ l.length ∧ Aside0 (field_Items.l0 mandolinelaw07_items.st kq (l.drop j) yj = some y') ∧ Aside0 (mandolinelaw07_items.At w0 bo yj w') ∧ Aside0 (kq ≤ k))
  case atStart => exact ⟨0, y, rfl, Nat.zero_le _, by simpa using HF, HA, ⟨Nat.le_refl _⟩⟩
  case round =>
    obtain ⟨j, yj, rfl, hj, HF, HA, HK1⟩ := hrel
    cases gk with
    | zero => exact absurd HF.out (by simp [field_Items.l0])
    | succ k1 =>
      by_cases hlt : j < l.length
      · have H := HF.out
        rw [List.drop_eq_getElem_cons hlt, field_Items.l0] at H
        have HF' := Aside0.mk H
        clear H HF
        obtain ⟨ad, e, hx⟩ := Kd.at_string HR.out (j : Int) (by omega) (by omega)
        cases e
        have hbel := HA.out.bel
        replace hx := (hbel.cell (World.block_lt_of_cell? _ _ hx)).trans hx
        clear hbel
        rw [show rdOf ByteArray.empty l (j : Int) = l[j] by simp [rdOf, List.getD, hlt], Int.toNat_natCast] at hx
        generalize l[j] = s at hx HF'
        have hlt' : ((j : Int) < (l.length : Int)) := by omega
        have hj0 : (0 : Int) ≤ (j : Int) := by omega
        go_wp2
        go_loopg [4] k1 (fun kq v4 w' => ∃ (s1 : ByteArray) (yi : List ByteArray), v4 = .string s1 ∧ Aside0 (field_Items.l1 mandolinelaw07_items.st kq s1 (l.drop (j + 1)) yi = some y') ∧ Aside0 (mandolinelaw07_items.At w0 bo yi w') ∧ Aside0 (kq ≤ k1))
        case atStart => exact ⟨s, yj, rfl, HF', HA, ⟨Nat.le_refl _⟩⟩
        case round =>
          clear HF' HA hx
          obtain ⟨s1, yi, rfl, HF, HA, HK2⟩ := hrel
          cases gk with
          | zero => exact absurd HF.out (by simp [field_Items.l1])
          | succ k2 =>
            have H := HF.out
            clear HF
            rw [field_Items.l1] at H
            by_cases ce : s1.toList = ([] : List UInt8)
            · rw [if_pos ce] at H
              have ce0 : (s1.toList == ([] : List UInt8)) = true := beq_iff_eq.mpr ce
              have ce1 : (s1.toList != ([] : List UInt8)) = false := bne_eq_false_iff_eq.mpr ce
              have HF := Aside0.mk H
              clear H ce
              go_wp2
              go_roundg k2
              case measure => have := HK1.out; have := HK2.out; omega
              case rel => exact ⟨j + 1, yi, by go_num, by omega, HF, HA, ⟨by have := HK1.out; have := HK2.out; omega⟩⟩
            · rw [if_neg ce] at H
              have ce0 : (s1.toList == ([] : List UInt8)) = false := beq_eq_false_iff_ne.mpr ce
              have ce1 : (s1.toList != ([] : List UInt8)) = true := bne_iff_ne.mpr ce
              clear ce
              obtain ⟨n, hn, H⟩ := Option.bind_eq_some_iff.mp H
              have HN := Aside0.mk hn
              clear hn
              by_cases hn01 : 0 ≤ n ∧ n ≤ (s1.size : Int) ∧ (s1.size : Int) ≤ 140737488351232
              · rw [if_pos hn01] at H
                obtain ⟨hn0, hn1, hn2⟩ := hn01
                obtain ⟨item, hi, H⟩ := Option.bind_eq_some_iff.mp H
                have HI := Aside0.mk hi
                clear hi
                by_cases ci : item.toList = ([] : List UInt8)
                · rw [if_pos ci] at H
                  have ci0 : (item.toList == ([] : List UInt8)) = true := beq_iff_eq.mpr ci
                  have ci1 : (item.toList != ([] : List UInt8)) = false := bne_eq_false_iff_eq.mpr ci
                  by_cases hm : n + 1 ≤ (s1.size : Int)
                  · rw [field_Items.rest_some hm] at H
                    have HF := Aside0.mk H
                    clear H ci
                    go_wp2_with (first | (go_at_call 38; (with_reducible refine (field_comma.calls k2 s1 n _ HN.out).mono ?_); rintro e wc ⟨rfl, hd⟩; have HA1 := Aside0.mk (HA.out.drawn hd); clear HA hd) | (go_at_call 39; (with_reducible refine (strings_Trim.calls _ _ item _ HI.out).mono ?_); rintro e wt ⟨rfl, hb⟩; have HA2 := Aside0.mk (HA1.out.below hb); clear HA1 hb))
                    go_roundg k2
                    case measure => have := HK2.out; omega
                    case rel => exact ⟨_, yi, rfl, HF, HA2, ⟨by have := HK2.out; omega⟩⟩
                  · rw [field_Items.rest_none hm] at H
                    have HF := Aside0.mk H
                    clear H ci
                    go_wp2_with (first | (go_at_call 38; (with_reducible refine (field_comma.calls k2 s1 n _ HN.out).mono ?_); rintro e wc ⟨rfl, hd⟩; have HA1 := Aside0.mk (HA.out.drawn hd); clear HA hd) | (go_at_call 39; (with_reducible refine (strings_Trim.calls _ _ item _ HI.out).mono ?_); rintro e wt ⟨rfl, hb⟩; have HA2 := Aside0.mk (HA1.out.below hb); clear HA1 hb))
                    go_roundg k2
                    case measure => have := HK2.out; omega
                    case rel => exact ⟨_, yi, rfl, HF, HA2, ⟨by have := HK2.out; omega⟩⟩
                · rw [if_neg ci] at H
                  have ci0 : (item.toList == ([] : List UInt8)) = false := beq_eq_false_iff_ne.mpr ci
                  have ci1 : (item.toList != ([] : List UInt8)) = true := bne_iff_ne.mpr ci
                  obtain ⟨⟨y1, more⟩, hs, H⟩ := Option.bind_eq_some_iff.mp H
                  have HS := Aside0.mk hs
                  clear hs ci
                  cases more with
                  | true =>
                    rw [if_pos rfl] at H
                    by_cases hm : n + 1 ≤ (s1.size : Int)
                    · rw [field_Items.rest_some hm] at H
                      have HF := Aside0.mk H
                      clear H
                      go_wp2_with (first | (go_at_call 38; (with_reducible refine (field_comma.calls k2 s1 n _ HN.out).mono ?_); rintro e wc ⟨rfl, hd⟩; have HA1 := Aside0.mk (HA.out.drawn hd); clear HA hd) | (go_at_call 39; (with_reducible refine (strings_Trim.calls _ _ item _ HI.out).mono ?_); rintro e wt ⟨rfl, hb⟩; have HA2 := Aside0.mk (HA1.out.below hb); clear HA1 hb) | (go_at_call 36; (with_reducible refine (mandolinelaw07_items.yields w0 bo yi item _ _ HA2.out HS.out).mono ?_); rintro e wy ⟨rfl, hy⟩; have HA3 := Aside0.mk hy; clear HA2 hy))
                      go_roundg k2
                      case measure => have := HK2.out; omega
                      case rel => exact ⟨_, y1, rfl, HF, HA3, ⟨by have := HK2.out; omega⟩⟩
                    · rw [field_Items.rest_none hm] at H
                      have HF := Aside0.mk H
                      clear H
                      go_wp2_with (first | (go_at_call 38; (with_reducible refine (field_comma.calls k2 s1 n _ HN.out).mono ?_); rintro e wc ⟨rfl, hd⟩; have HA1 := Aside0.mk (HA.out.drawn hd); clear HA hd) | (go_at_call 39; (with_reducible refine (strings_Trim.calls _ _ item _ HI.out).mono ?_); rintro e wt ⟨rfl, hb⟩; have HA2 := Aside0.mk (HA1.out.below hb); clear HA1 hb) | (go_at_call 36; (with_reducible refine (mandolinelaw07_items.yields w0 bo yi item _ _ HA2.out HS.out).mono ?_); rintro e wy ⟨rfl, hy⟩; have HA3 := Aside0.mk hy; clear HA2 hy))
                      go_roundg k2
                      case measure => have := HK2.out; omega
                      case rel => exact ⟨_, y1, rfl, HF, HA3, ⟨by have := HK2.out; omega⟩⟩
                  | false =>
                    rw [if_neg (by simp)] at H
                    obtain rfl := Option.some.inj H
                    clear H
                    by_cases hm : n + 1 ≤ (s1.size : Int)
                    · go_wp2_with (first | (go_at_call 38; (with_reducible refine (field_comma.calls k2 s1 n _ HN.out).mono ?_); rintro e wc ⟨rfl, hd⟩; have HA1 := Aside0.mk (HA.out.drawn hd); clear HA hd) | (go_at_call 39; (with_reducible refine (strings_Trim.calls _ _ item _ HI.out).mono ?_); rintro e wt ⟨rfl, hb⟩; have HA2 := Aside0.mk (HA1.out.below hb); clear HA1 hb) | (go_at_call 36; (with_reducible refine (mandolinelaw07_items.yields w0 bo yi item _ _ HA2.out HS.out).mono ?_); rintro e wy ⟨rfl, hy⟩; have HA3 := Aside0.mk hy; clear HA2 hy))
                      refine bodyPost_ret (results_none rfl _ _ _) rfl ?_
                      exact ⟨rfl, HA3.out⟩
                    · go_wp2_with (first | (go_at_call 38; (with_reducible refine (field_comma.calls k2 s1 n _ HN.out).mono ?_); rintro e wc ⟨rfl, hd⟩; have HA1 := Aside0.mk (HA.out.drawn hd); clear HA hd) | (go_at_call 39; (with_reducible refine (strings_Trim.calls _ _ item _ HI.out).mono ?_); rintro e wt ⟨rfl, hb⟩; have HA2 := Aside0.mk (HA1.out.below hb); clear HA1 hb) | (go_at_call 36; (with_reducible refine (mandolinelaw07_items.yields w0 bo yi item _ _ HA2.out HS.out).mono ?_); rintro e wy ⟨rfl, hy⟩; have HA3 := Aside0.mk hy; clear HA2 hy))
                      refine bodyPost_ret (results_none rfl _ _ _) rfl ?_
                      exact ⟨rfl, HA3.out⟩
              · rw [if_neg hn01] at H
                exact absurd H (by simp)
      · have hj' : j = l.length := by omega
        have hlt' : ¬ ((j : Int) < (l.length : Int)) := by omega
        have H := HF.out
        rw [hj', List.drop_of_length_le (Nat.le_refl _), field_Items.l0] at H
        obtain rfl := Option.some.inj H
        clear H HF hj'
        go_wp2
        go_end0
        exact ⟨rfl, HA.out⟩
def mandolinelaw07_items.f (k : Nat) (l0 : List ByteArray) : Option (List ByteArray) := field_Items.l0 mandolinelaw07_items.st k l0 []
theorem mandolinelaw07_items.mono : ∀ a0 k, LeO (mandolinelaw07_items.f k a0) (mandolinelaw07_items.f (k + 1) a0) := fun a0 k => (field_Items.mono_l _ k).1 _ _
set_option maxHeartbeats 4000000 in
set_option maxRecDepth 100000 in
theorem mandolinelaw07_items.calls (k : Nat) (A0 : Option Addr) (c0 : Nat) (l0 : List ByteArray) (r : List ByteArray) (w : World) (hr0 : Kd.C Kd.string w A0 l0.length l0) (hc0 : l0.length ≤ c0) (h : mandolinelaw07_items.f k l0 = some r) :
    Calls Tryd.prog 15 #[.slice A0 l0.length c0] w fun e w' => ∃ v0_ : Value, e = .returned (v0_) ∧ Kd.R Kd.string 9 w' w.heap.size (fun _ => True) v0_ r ∧ Below w.heap.size w w' := by
  have HS := Aside0.mk (mandolinelaw07_items.seq k A0 c0 l0 (w.heap.size + 1) w.heap.size [] r w ((w.alloc (.cells #[.slice none 0 0] 22)).alloc (.cells #[.slice A0 l0.length c0] 22)) hr0 (by simp) ⟨.slice none 0 0, by simp [World.alloc, -World.alloc_eq, Array.getElem?_push], Nat.le_refl _, Kd.R_nil _ _ _ _ _, below_alloc (below_alloc (Below.refl _ _) _) _⟩ h)
  clear hr0 h hc0
  go_enter Tryd.func15, Tryd.ntmps15
  go_wp2_with (first | (go_at_call 16; (with_reducible refine (field_Items.mk A0 l0.length c0 _).mono ?_); rintro e wx ⟨rfl, rfl⟩) | (go_at_call 37; refine HS.out.mono ?_; rintro e wx ⟨rfl, hat⟩; obtain ⟨v, h1, h2, h3, h4⟩ := hat; have hc := blk_cell h1 0; replace hc : wx.cell? ⟨w.heap.size, 0, none⟩ = some v := hc; have H3 := Aside0.mk h3; have H4 := Aside0.mk h4; clear h1 h2 h3 h4))
  go_ret
  exact ⟨_, rfl, H3.out, H4.out⟩


/-! ### field_small: function 58 -/
def field_small.f (a0 : Int) : Option (Int) := if a0 ≥ 65 then (if a0 ≤ 90 then (some ((((a0 + 97) % 256) - 65) % 256)) else (some a0)) else (some a0)
set_option maxHeartbeats 8000000 in
set_option maxRecDepth 100000 in
theorem field_small.calls (a0 : Int) (r : Int) (w : World) (h : field_small.f a0 = some r) :
    Calls Tryd.prog 58 #[.int .u8 a0] w fun e w' => e = .returned (.int .u8 r) ∧ Drawn0 w w' := by
  have H : (if a0 ≥ 65 then (if a0 ≤ 90 then (some ((((a0 + 97) % 256) - 65) % 256)) else (some a0)) else (some a0)) = some r := h
  clear h
  by_cases c2 : a0 ≥ 65
  · rw [if_pos c2] at H
    have c2b0 : decide (65 ≤ a0) = true := decide_eq_true c2
    clear c2
    by_cases c3 : a0 ≤ 90
    · rw [if_pos c3] at H
      have c3b0 : decide (a0 ≤ 90) = true := decide_eq_true c3
      clear c3
      obtain rfl := Option.some.inj H
      go_enter Tryd.func58, Tryd.ntmps58
      go_wp2
      go_ret
      exact ⟨by first | rfl | (simp; done) | (simp [*]; done), by repeat (first | exact Drawn0.refl _ | apply Drawn0.step)⟩
    · rw [if_neg c3] at H
      have c3b0 : decide (a0 ≤ 90) = false := decide_eq_false c3
      clear c3
      obtain rfl := Option.some.inj H
      go_enter Tryd.func58, Tryd.ntmps58
      go_wp2
      go_ret
      exact ⟨by first | rfl | (simp; done) | (simp [*]; done), by repeat (first | exact Drawn0.refl _ | apply Drawn0.step)⟩
  · rw [if_neg c2] at H
    have c2b0 : decide (65 ≤ a0) = false := decide_eq_false c2
    clear c2
    obtain rfl := Option.some.inj H
    go_enter Tryd.func58, Tryd.ntmps58
    go_wp2
    go_ret
    exact ⟨by first | rfl | (simp; done) | (simp [*]; done), by repeat (first | exact Drawn0.refl _ | apply Drawn0.step)⟩

/-! ### strings_IndexByte: function 59 -/
def strings_IndexByte.f (a0 : ByteArray) (a1 : Int) : Option (Int) := some (Lib.indexByte a0.data.toList a1.toNat.toUInt8)
theorem strings_IndexByte.calls (a0 : ByteArray) (a1 : Int) (r : Int) (w : World) (h : strings_IndexByte.f a0 a1 = some r) :
    Calls Tryd.prog 59 #[.string a0, .int .u8 a1] w fun e w' => e = .returned (.int .i64 r) ∧ Drawn0 w w' := by
  unfold strings_IndexByte.f at h
  obtain rfl := Option.some.inj h
  exact (Tryd.strings_IndexByte a0 a1 w).mono fun e w' ⟨he, hw⟩ => ⟨he, ⟨⟨0, hw⟩⟩⟩

/-! ### field_token: function 40 -/
def field_token.f (a0 : Int) : Option (Bool) := (field_small.f a0).bind fun t103 => (if t103 ≥ 97 then ((field_small.f a0).bind fun t104 => (if t104 ≤ 122 then (some true) else (if a0 ≥ 48 then (if a0 ≤ 57 then (some true) else (if a0 < 128 then ((strings_IndexByte.f (⟨#[33, 35, 36, 37, 38, 39, 42, 43, 45, 46, 94, 95, 96, 124, 126]⟩ : ByteArray) a0).bind fun t105 => (some (decide (t105 ≥ 0)))) else (some false))) else (if a0 < 128 then ((strings_IndexByte.f (⟨#[33, 35, 36, 37, 38, 39, 42, 43, 45, 46, 94, 95, 96, 124, 126]⟩ : ByteArray) a0).bind fun t106 => (some (decide (t106 ≥ 0)))) else (some false))))) else (if a0 ≥ 48 then (if a0 ≤ 57 then (some true) else (if a0 < 128 then ((strings_IndexByte.f (⟨#[33, 35, 36, 37, 38, 39, 42, 43, 45, 46, 94, 95, 96, 124, 126]⟩ : ByteArray) a0).bind fun t107 => (some (decide (t107 ≥ 0)))) else (some false))) else (if a0 < 128 then ((strings_IndexByte.f (⟨#[33, 35, 36, 37, 38, 39, 42, 43, 45, 46, 94, 95, 96, 124, 126]⟩ : ByteArray) a0).bind fun t108 => (some (decide (t108 ≥ 0)))) else (some false))))
set_option maxHeartbeats 8000000 in
set_option maxRecDepth 100000 in
theorem field_token.calls (a0 : Int) (r : Bool) (w : World) (h : field_token.f a0 = some r) :
    Calls Tryd.prog 40 #[.int .u8 a0] w fun e w' => e = .returned (.bool r) ∧ Drawn0 w w' := by
  have H : ((field_small.f a0).bind fun t103 => (if t103 ≥ 97 then ((field_small.f a0).bind fun t104 => (if t104 ≤ 122 then (some true) else (if a0 ≥ 48 then (if a0 ≤ 57 then (some true) else (if a0 < 128 then ((strings_IndexByte.f (⟨#[33, 35, 36, 37, 38, 39, 42, 43, 45, 46, 94, 95, 96, 124, 126]⟩ : ByteArray) a0).bind fun t105 => (some (decide (t105 ≥ 0)))) else (some false))) else (if a0 < 128 then ((strings_IndexByte.f (⟨#[33, 35, 36, 37, 38, 39, 42, 43, 45, 46, 94, 95, 96, 124, 126]⟩ : ByteArray) a0).bind fun t106 => (some (decide (t106 ≥ 0)))) else (some false))))) else (if a0 ≥ 48 then (if a0 ≤ 57 then (some true) else (if a0 < 128 then ((strings_IndexByte.f (⟨#[33, 35, 36, 37, 38, 39, 42, 43, 45, 46, 94, 95, 96, 124, 126]⟩ : ByteArray) a0).bind fun t107 => (some (decide (t107 ≥ 0)))) else (some false))) else (if a0 < 128 then ((strings_IndexByte.f (⟨#[33, 35, 36, 37, 38, 39, 42, 43, 45, 46, 94, 95, 96, 124, 126]⟩ : ByteArray) a0).bind fun t108 => (some (decide (t108 ≥ 0)))) else (some false))))) = some r := h
  clear h
  replace H := Option.bind_eq_some_iff.mp H
  obtain ⟨t103, A20, H⟩ := H
  replace H : (if t103 ≥ 97 then ((field_small.f a0).bind fun t104 => (if t104 ≤ 122 then (some true) else (if a0 ≥ 48 then (if a0 ≤ 57 then (some true) else (if a0 < 128 then ((strings_IndexByte.f (⟨#[33, 35, 36, 37, 38, 39, 42, 43, 45, 46, 94, 95, 96, 124, 126]⟩ : ByteArray) a0).bind fun t105 => (some (decide (t105 ≥ 0)))) else (some false))) else (if a0 < 128 then ((strings_IndexByte.f (⟨#[33, 35, 36, 37, 38, 39, 42, 43, 45, 46, 94, 95, 96, 124, 126]⟩ : ByteArray) a0).bind fun t106 => (some (decide (t106 ≥ 0)))) else (some false))))) else (if a0 ≥ 48 then (if a0 ≤ 57 then (some true) else (if a0 < 128 then ((strings_IndexByte.f (⟨#[33, 35, 36, 37, 38, 39, 42, 43, 45, 46, 94, 95, 96, 124, 126]⟩ : ByteArray) a0).bind fun t107 => (some (decide (t107 ≥ 0)))) else (some false))) else (if a0 < 128 then ((strings_IndexByte.f (⟨#[33, 35, 36, 37, 38, 39, 42, 43, 45, 46, 94, 95, 96, 124, 126]⟩ : ByteArray) a0).bind fun t108 => (some (decide (t108 ≥ 0)))) else (some false)))) = some r := H
  have A2 := Aside0.mk A20
  clear A20
  by_cases c3 : t103 ≥ 97
  · rw [if_pos c3] at H
    have c3b0 : decide (97 ≤ t103) = true := decide_eq_true c3
    clear c3
    replace H := Option.bind_eq_some_iff.mp H
    obtain ⟨t104, A40, H⟩ := H
    replace H : (if t104 ≤ 122 then (some true) else (if a0 ≥ 48 then (if a0 ≤ 57 then (some true) else (if a0 < 128 then ((strings_IndexByte.f (⟨#[33, 35, 36, 37, 38, 39, 42, 43, 45, 46, 94, 95, 96, 124, 126]⟩ : ByteArray) a0).bind fun t105 => (some (decide (t105 ≥ 0)))) else (some false))) else (if a0 < 128 then ((strings_IndexByte.f (⟨#[33, 35, 36, 37, 38, 39, 42, 43, 45, 46, 94, 95, 96, 124, 126]⟩ : ByteArray) a0).bind fun t106 => (some (decide (t106 ≥ 0)))) else (some false)))) = some r := H
    have A4 := Aside0.mk A40
    clear A40
    by_cases c5 : t104 ≤ 122
    · rw [if_pos c5] at H
      have c5b0 : decide (t104 ≤ 122) = true := decide_eq_true c5
      clear c5
      obtain rfl := Option.some.inj H
      go_enter Tryd.func40, Tryd.ntmps40
      go_wp2_with (first | ((with_reducible refine gate_callee (f := 58) rfl ?_); refine goesL_ (some 4) rfl rfl Tryd.func58 (by kernel_rfl) rfl #[.int .u8 a0] rfl (by (try simp only [List.map_toArray, List.map_cons, List.map_nil]); first | done | rfl | (simp only [List.length_drop, List.length_take]; rfl)) ?_; (with_reducible refine (field_small.calls a0 t103 _ A2.out).mono ?_); rintro e w' ⟨rfl, ⟨nd, rfl⟩⟩; refine ⟨_, rfl, ?_⟩) | (go_at_call 58; (with_reducible refine (field_small.calls a0 t104 _ A4.out).mono ?_); rintro e w' ⟨rfl, ⟨nd, rfl⟩⟩))
      go_ret
      exact ⟨by first | rfl | (simp; done) | (simp [*]; done), by repeat (first | exact Drawn0.refl _ | apply Drawn0.step)⟩
    · rw [if_neg c5] at H
      have c5b0 : decide (t104 ≤ 122) = false := decide_eq_false c5
      clear c5
      by_cases c6 : a0 ≥ 48
      · rw [if_pos c6] at H
        have c6b0 : decide (48 ≤ a0) = true := decide_eq_true c6
        clear c6
        by_cases c7 : a0 ≤ 57
        · rw [if_pos c7] at H
          have c7b0 : decide (a0 ≤ 57) = true := decide_eq_true c7
          clear c7
          obtain rfl := Option.some.inj H
          go_enter Tryd.func40, Tryd.ntmps40
          go_wp2_with (first | ((with_reducible refine gate_callee (f := 58) rfl ?_); refine goesL_ (some 4) rfl rfl Tryd.func58 (by kernel_rfl) rfl #[.int .u8 a0] rfl (by (try simp only [List.map_toArray, List.map_cons, List.map_nil]); first | done | rfl | (simp only [List.length_drop, List.length_take]; rfl)) ?_; (with_reducible refine (field_small.calls a0 t103 _ A2.out).mono ?_); rintro e w' ⟨rfl, ⟨nd, rfl⟩⟩; refine ⟨_, rfl, ?_⟩) | (go_at_call 58; (with_reducible refine (field_small.calls a0 t104 _ A4.out).mono ?_); rintro e w' ⟨rfl, ⟨nd, rfl⟩⟩))
          go_ret
          exact ⟨by first | rfl | (simp; done) | (simp [*]; done), by repeat (first | exact Drawn0.refl _ | apply Drawn0.step)⟩
        · rw [if_neg c7] at H
          have c7b0 : decide (a0 ≤ 57) = false := decide_eq_false c7
          clear c7
          by_cases c8 : a0 < 128
          · rw [if_pos c8] at H
            have c8b0 : decide (a0 < 128) = true := decide_eq_true c8
            clear c8
            replace H := Option.bind_eq_some_iff.mp H
            obtain ⟨t105, A90, H⟩ := H
            replace H : (some (decide (t105 ≥ 0))) = some r := H
            have A9 := Aside0.mk A90
            clear A90
            obtain rfl := Option.some.inj H
            go_enter Tryd.func40, Tryd.ntmps40
            go_wp2_with (first | ((with_reducible refine gate_callee (f := 58) rfl ?_); refine goesL_ (some 4) rfl rfl Tryd.func58 (by kernel_rfl) rfl #[.int .u8 a0] rfl (by (try simp only [List.map_toArray, List.map_cons, List.map_nil]); first | done | rfl | (simp only [List.length_drop, List.length_take]; rfl)) ?_; (with_reducible refine (field_small.calls a0 t103 _ A2.out).mono ?_); rintro e w' ⟨rfl, ⟨nd, rfl⟩⟩; refine ⟨_, rfl, ?_⟩) | (go_at_call 58; (with_reducible refine (field_small.calls a0 t104 _ A4.out).mono ?_); rintro e w' ⟨rfl, ⟨nd, rfl⟩⟩) | (go_at_call 59; (with_reducible refine (strings_IndexByte.calls (⟨#[33, 35, 36, 37, 38, 39, 42, 43, 45, 46, 94, 95, 96, 124, 126]⟩ : ByteArray) a0 t105 _ A9.out).mono ?_); rintro e w' ⟨rfl, ⟨nd, rfl⟩⟩))
            go_ret
            exact ⟨by first | rfl | (simp; done) | (simp [*]; done), by repeat (first | exact Drawn0.refl _ | apply Drawn0.step)⟩
          · rw [if_neg c8] at H
            have c8b0 : decide (a0 < 128) = false := decide_eq_false c8
            clear c8
            obtain rfl := Option.some.inj H
            go_enter Tryd.func40, Tryd.ntmps40
            go_wp2_with (first | ((with_reducible refine gate_callee (f := 58) rfl ?_); refine goesL_ (some 4) rfl rfl Tryd.func58 (by kernel_rfl) rfl #[.int .u8 a0] rfl (by (try simp only [List.map_toArray, List.map_cons, List.map_nil]); first | done | rfl | (simp only [List.length_drop, List.length_take]; rfl)) ?_; (with_reducible refine (field_small.calls a0 t103 _ A2.out).mono ?_); rintro e w' ⟨rfl, ⟨nd, rfl⟩⟩; refine ⟨_, rfl, ?_⟩) | (go_at_call 58; (with_reducible refine (field_small.calls a0 t104 _ A4.out).mono ?_); rintro e w' ⟨rfl, ⟨nd, rfl⟩⟩))
            go_ret
            exact ⟨by first | rfl | (simp; done) | (simp [*]; done), by repeat (first | exact Drawn0.refl _ | apply Drawn0.step)⟩
      · rw [if_neg c6] at H
        have c6b0 : decide (48 ≤ a0) = false := decide_eq_false c6
        clear c6
        by_cases c10 : a0 < 128
        · rw [if_pos c10] at H
          have c10b0 : decide (a0 < 128) = true := decide_eq_true c10
          clear c10
          replace H := Option.bind_eq_some_iff.mp H
          obtain ⟨t106, A110, H⟩ := H
          replace H : (some (decide (t106 ≥ 0))) = some r := H
          have A11 := Aside0.mk A110
          clear A110
          obtain rfl := Option.some.inj H
          go_enter Tryd.func40, Tryd.ntmps40
          go_wp2_with (first | ((with_reducible refine gate_callee (f := 58) rfl ?_); refine goesL_ (some 4) rfl rfl Tryd.func58 (by kernel_rfl) rfl #[.int .u8 a0] rfl (by (try simp only [List.map_toArray, List.map_cons, List.map_nil]); first | done | rfl | (simp only [List.length_drop, List.length_take]; rfl)) ?_; (with_reducible refine (field_small.calls a0 t103 _ A2.out).mono ?_); rintro e w' ⟨rfl, ⟨nd, rfl⟩⟩; refine ⟨_, rfl, ?_⟩) | (go_at_call 58; (with_reducible refine (field_small.calls a0 t104 _ A4.out).mono ?_); rintro e w' ⟨rfl, ⟨nd, rfl⟩⟩) | (go_at_call 59; (with_reducible refine (strings_IndexByte.calls (⟨#[33, 35, 36, 37, 38, 39, 42, 43, 45, 46, 94, 95, 96, 124, 126]⟩ : ByteArray) a0 t106 _ A11.out).mono ?_); rintro e w' ⟨rfl, ⟨nd, rfl⟩⟩))
          go_ret
          exact ⟨by first | rfl | (simp; done) | (simp [*]; done), by repeat (first | exact Drawn0.refl _ | apply Drawn0.step)⟩
        · rw [if_neg c10] at H
          have c10b0 : decide (a0 < 128) = false := decide_eq_false c10
          clear c10
          obtain rfl := Option.some.inj H
          go_enter Tryd.func40, Tryd.ntmps40
          go_wp2_with (first | ((with_reducible refine gate_callee (f := 58) rfl ?_); refine goesL_ (some 4) rfl rfl Tryd.func58 (by kernel_rfl) rfl #[.int .u8 a0] rfl (by (try simp only [List.map_toArray, List.map_cons, List.map_nil]); first | done | rfl | (simp only [List.length_drop, List.length_take]; rfl)) ?_; (with_reducible refine (field_small.calls a0 t103 _ A2.out).mono ?_); rintro e w' ⟨rfl, ⟨nd, rfl⟩⟩; refine ⟨_, rfl, ?_⟩) | (go_at_call 58; (with_reducible refine (field_small.calls a0 t104 _ A4.out).mono ?_); rintro e w' ⟨rfl, ⟨nd, rfl⟩⟩))
          go_ret
          exact ⟨by first | rfl | (simp; done) | (simp [*]; done), by repeat (first | exact Drawn0.refl _ | apply Drawn0.step)⟩
  · rw [if_neg c3] at H
    have c3b0 : decide (97 ≤ t103) = false := decide_eq_false c3
    clear c3
    by_cases c12 : a0 ≥ 48
    · rw [if_pos c12] at H
      have c12b0 : decide (48 ≤ a0) = true := decide_eq_true c12
      clear c12
      by_cases c13 : a0 ≤ 57
      · rw [if_pos c13] at H
        have c13b0 : decide (a0 ≤ 57) = true := decide_eq_true c13
        clear c13
        obtain rfl := Option.some.inj H
        go_enter Tryd.func40, Tryd.ntmps40
        go_wp2_with (first | ((with_reducible refine gate_callee (f := 58) rfl ?_); refine goesL_ (some 4) rfl rfl Tryd.func58 (by kernel_rfl) rfl #[.int .u8 a0] rfl (by (try simp only [List.map_toArray, List.map_cons, List.map_nil]); first | done | rfl | (simp only [List.length_drop, List.length_take]; rfl)) ?_; (with_reducible refine (field_small.calls a0 t103 _ A2.out).mono ?_); rintro e w' ⟨rfl, ⟨nd, rfl⟩⟩; refine ⟨_, rfl, ?_⟩))
        go_ret
        exact ⟨by first | rfl | (simp; done) | (simp [*]; done), by repeat (first | exact Drawn0.refl _ | apply Drawn0.step)⟩
      · rw [if_neg c13] at H
        have c13b0 : decide (a0 ≤ 57) = false := decide_eq_false c13
        clear c13
        by_cases c14 : a0 < 128
        · rw [if_pos c14] at H
          have c14b0 : decide (a0 < 128) = true := decide_eq_true c14
          clear c14
          replace H := Option.bind_eq_some_iff.mp H
          obtain ⟨t107, A150, H⟩ := H
          replace H : (some (decide (t107 ≥ 0))) = some r := H
          have A15 := Aside0.mk A150
          clear A150
          obtain rfl := Option.some.inj H
          go_enter Tryd.func40, Tryd.ntmps40
          go_wp2_with (first | ((with_reducible refine gate_callee (f := 58) rfl ?_); refine goesL_ (some 4) rfl rfl Tryd.func58 (by kernel_rfl) rfl #[.int .u8 a0] rfl (by (try simp only [List.map_toArray, List.map_cons, List.map_nil]); first | done | rfl | (simp only [List.length_drop, List.length_take]; rfl)) ?_; (with_reducible refine (field_small.calls a0 t103 _ A2.out).mono ?_); rintro e w' ⟨rfl, ⟨nd, rfl⟩⟩; refine ⟨_, rfl, ?_⟩) | (go_at_call 59; (with_reducible refine (strings_IndexByte.calls (⟨#[33, 35, 36, 37, 38, 39, 42, 43, 45, 46, 94, 95, 96, 124, 126]⟩ : ByteArray) a0 t107 _ A15.out).mono ?_); rintro e w' ⟨rfl, ⟨nd, rfl⟩⟩))
          go_ret
          exact ⟨by first | rfl | (simp; done) | (simp [*]; done), by repeat (first | exact Drawn0.refl _ | apply Drawn0.step)⟩
        · rw [if_neg c14] at H
          have c14b0 : decide (a0 < 128) = false := decide_eq_false c14
          clear c14
          obtain rfl := Option.some.inj H
          go_enter Tryd.func40, Tryd.ntmps40
          go_wp2_with (first | ((with_reducible refine gate_callee (f := 58) rfl ?_); refine goesL_ (some 4) rfl rfl Tryd.func58 (by kernel_rfl) rfl #[.int .u8 a0] rfl (by (try simp only [List.map_toArray, List.map_cons, List.map_nil]); first | done | rfl | (simp only [List.length_drop, List.length_take]; rfl)) ?_; (with_reducible refine (field_small.calls a0 t103 _ A2.out).mono ?_); rintro e w' ⟨rfl, ⟨nd, rfl⟩⟩; refine ⟨_, rfl, ?_⟩))
          go_ret
          exact ⟨by first | rfl | (simp; done) | (simp [*]; done), by repeat (first | exact Drawn0.refl _ | apply Drawn0.step)⟩
    · rw [if_neg c12] at H
      have c12b0 : decide (48 ≤ a0) = false := decide_eq_false c12
      clear c12
      by_cases c16 : a0 < 128
      · rw [if_pos c16] at H
        have c16b0 : decide (a0 < 128) = true := decide_eq_true c16
        clear c16
        replace H := Option.bind_eq_some_iff.mp H
        obtain ⟨t108, A170, H⟩ := H
        replace H : (some (decide (t108 ≥ 0))) = some r := H
        have A17 := Aside0.mk A170
        clear A170
        obtain rfl := Option.some.inj H
        go_enter Tryd.func40, Tryd.ntmps40
        go_wp2_with (first | ((with_reducible refine gate_callee (f := 58) rfl ?_); refine goesL_ (some 4) rfl rfl Tryd.func58 (by kernel_rfl) rfl #[.int .u8 a0] rfl (by (try simp only [List.map_toArray, List.map_cons, List.map_nil]); first | done | rfl | (simp only [List.length_drop, List.length_take]; rfl)) ?_; (with_reducible refine (field_small.calls a0 t103 _ A2.out).mono ?_); rintro e w' ⟨rfl, ⟨nd, rfl⟩⟩; refine ⟨_, rfl, ?_⟩) | (go_at_call 59; (with_reducible refine (strings_IndexByte.calls (⟨#[33, 35, 36, 37, 38, 39, 42, 43, 45, 46, 94, 95, 96, 124, 126]⟩ : ByteArray) a0 t108 _ A17.out).mono ?_); rintro e w' ⟨rfl, ⟨nd, rfl⟩⟩))
        go_ret
        exact ⟨by first | rfl | (simp; done) | (simp [*]; done), by repeat (first | exact Drawn0.refl _ | apply Drawn0.step)⟩
      · rw [if_neg c16] at H
        have c16b0 : decide (a0 < 128) = false := decide_eq_false c16
        clear c16
        obtain rfl := Option.some.inj H
        go_enter Tryd.func40, Tryd.ntmps40
        go_wp2_with (first | ((with_reducible refine gate_callee (f := 58) rfl ?_); refine goesL_ (some 4) rfl rfl Tryd.func58 (by kernel_rfl) rfl #[.int .u8 a0] rfl (by (try simp only [List.map_toArray, List.map_cons, List.map_nil]); first | done | rfl | (simp only [List.length_drop, List.length_take]; rfl)) ?_; (with_reducible refine (field_small.calls a0 t103 _ A2.out).mono ?_); rintro e w' ⟨rfl, ⟨nd, rfl⟩⟩; refine ⟨_, rfl, ?_⟩))
        go_ret
        exact ⟨by first | rfl | (simp; done) | (simp [*]; done), by repeat (first | exact Drawn0.refl _ | apply Drawn0.step)⟩

end Go.Proofs.YtcdjeofhhhffcaaDoor.X
