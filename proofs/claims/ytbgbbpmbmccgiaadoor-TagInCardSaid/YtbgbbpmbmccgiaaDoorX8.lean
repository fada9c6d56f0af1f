-- Printed by a program of this session (pp.py: the kit's print.py, run with contracts of its own) out of the translation. Not trusted: Lean checks it.
import Derived.Test.YtbgbbpmbmccgiaaDoorX0
import Derived.Test.YtbgbbpmbmccgiaaDoorX7
namespace Go.Proofs.YtbgbbpmbmccgiaaDoor.X
open Go.RowKit Go.Proofs.YtbgbbpmbmccgiaaDoorW.PrintWords Go.Proofs.YtbgbbpmbmccgiaaDoorW.PrintLast Go.Proofs.YtbgbbpmbmccgiaaDoorW.PrintMore
attribute [local go_sem] max2_int min2_int max_two min_two max_three min_three max_four min_four   -- for this text's walks alone
set_option linter.unusedVariables false
set_option linter.unusedSimpArgs false

/-! ### tag_In: function 27 -/
def tag_In.one (k : Nat) (st : Bool) (x : S23) (tx : ByteArray) (wk : Bool) : Option Bool := if st = true then tag_Strong.f k x.f0 x.f1 tx wk else tag_Weak.f k x.f0 x.f1 tx wk
def tag_In.go (k : Nat) (tx : ByteArray) (wk : Bool) (st : Bool) : List S23 → Option Bool
  | [] => some false
  | x :: r => (tag_In.one k st x tx wk).bind fun b => if b = true then some true else tag_In.go k tx wk st r

/-- The closure: one of the two, at an element and the tag that was captured. -/
theorem tag_In.pred (k : Nat) (st : Bool) (x : S23) (tx : ByteArray) (wk : Bool) (bs bt : Nat) (r : Bool) (w : World)
    (h1 : w.cell? ⟨bs, 0, none⟩ = some (.func (.func (if st = true then 23 else 25)) #[] #[])) (h2 : w.cell? ⟨bt, 0, none⟩ = some (.string tx)) (h3 : w.cell? ⟨bt, 1, none⟩ = some (.bool wk))
    (h : tag_In.one k st x tx wk = some r) :
    Calls Tryd.prog 35 #[.agg #[.string x.f0, .bool x.f1], .pointer (some ⟨bs, 0, none⟩), .pointer (some ⟨bt, 0, none⟩)] w fun e w' => e = .returned (.bool r) ∧ Below w.heap.size w w' := by
  have hu23 := Tryd.underlying23
  have hbs := World.block_lt_of_cell? w _ h1
  have hbt := World.block_lt_of_cell? w _ h2
  cases st with
  | true =>
    have h1' : w.cell? ⟨bs, 0, none⟩ = some (.func (.func 23) #[] #[]) := h1
    clear h1
    have H := Aside0.mk (show tag_Strong.f k x.f0 x.f1 tx wk = some r from h)
    clear h
    go_enter Tryd.func35, Tryd.ntmps35
    go_wp2_with (go_at_call 23; refine (tag_Strong.calls k _ _ _ _ _ _ H.out).mono ?_; rintro e w' ⟨rfl, hb⟩)
    go_ret
    exact ⟨rfl, below_then (below_alloc (Below.refl _ _) _) (by simp) hb⟩
  | false =>
    have h1' : w.cell? ⟨bs, 0, none⟩ = some (.func (.func 25) #[] #[]) := h1
    clear h1
    have H := Aside0.mk (show tag_Weak.f k x.f0 x.f1 tx wk = some r from h)
    clear h
    go_enter Tryd.func35, Tryd.ntmps35
    go_wp2_with (go_at_call 25; refine (tag_Weak.calls k _ _ _ _ _ _ H.out).mono ?_; rintro e w' ⟨rfl, hb⟩)
    go_ret
    exact ⟨rfl, below_then (below_alloc (Below.refl _ _) _) (by simp) hb⟩

/-- The loop of the library, at this closure. -/
theorem tag_In.index (k : Nat) (A : Option Addr) (c : Nat) (l : List S23) (st : Bool) (tx : ByteArray) (wk : Bool) (bs bt : Nat) (r : Bool) (w : World) (hr : Kd.C k23 w A l.length l)
    (h1 : w.cell? ⟨bs, 0, none⟩ = some (.func (.func (if st = true then 23 else 25)) #[] #[])) (h2 : w.cell? ⟨bt, 0, none⟩ = some (.string tx)) (h3 : w.cell? ⟨bt, 1, none⟩ = some (.bool wk))
    (h : tag_In.go k tx wk st l = some r) :
    Calls Tryd.prog 48 #[.slice A l.length c, .func (.func 35) #[] #[.pointer (some ⟨bs, 0, none⟩), .pointer (some ⟨bt, 0, none⟩)]] w fun e w' => (∃ i : Int, e = .returned (.int .i64 i) ∧ decide (i ≥ 0) = r) ∧ Below w.heap.size w w' := by
  have hu23 := Tryd.underlying23
  have HR := Aside0.mk hr
  have H1 := Aside0.mk h1
  have H2 := Aside0.mk h2
  have H3 := Aside0.mk h3
  have HA := Aside0.mk h
  have hlen : (l.length : Int) ≤ 9223372036854775807 := by have := hr.2.1; omega
  clear hr h1 h2 h3 h
  have hl0 : (0 : Int) ≤ (l.length : Int) := by omega
  go_enter Tryd.func48, Tryd.ntmps48
  go_wp2
  go_loopw [8] (fun v8 w' => ∃ j : Nat, v8 = .int .i64 j ∧ j ≤ l.length ∧ Aside0 (tag_In.go k tx wk st (l.drop j) = some r) ∧ Aside0 (Below w.heap.size w w')) (fun v8 _ => l.length - (intOf v8).toNat)
  case atStart => exact ⟨0, rfl, Nat.zero_le _, HA, ⟨Below.refl _ _⟩⟩
  case round =>
    obtain ⟨j, rfl, hj, HA, HB⟩ := hrel
    by_cases hlt : j < l.length
    · have hd : l.drop j = rd_T23 l j :: l.drop (j + 1) := by
        rw [List.drop_eq_getElem_cons hlt]
        simp [rd_T23, List.getD, hlt]
      have HA' := HA.out
      rw [hd, tag_In.go] at HA'
      obtain ⟨b, hb1, hb2⟩ := Option.bind_eq_some_iff.mp HA'
      have HP := Aside0.mk hb1
      have HN := Aside0.mk hb2
      clear hb1 hb2 HA' HA
      have HD := Aside0.mk hd
      clear hd
      obtain ⟨ad, e, hx0, hx1⟩ := at_T23 HR.out (j : Int) (by omega) (by omega)
      subst e
      replace hx0 := (HB.out.cell (World.block_lt_of_cell? w _ hx0)).trans hx0
      replace hx1 := (HB.out.cell (World.block_lt_of_cell? w _ hx1)).trans hx1
      rw [Int.toNat_natCast] at hx0 hx1
      have hlt' : ((j : Int) < (l.length : Int)) := by omega
      have g1 := (HB.out.cell (World.block_lt_of_cell? w _ H1.out)).trans H1.out
      have g2 := (HB.out.cell (World.block_lt_of_cell? w _ H2.out)).trans H2.out
      have g3 := (HB.out.cell (World.block_lt_of_cell? w _ H3.out)).trans H3.out
      have G1 := Aside0.mk g1
      have G2 := Aside0.mk g2
      have G3 := Aside0.mk g3
      clear g1 g2 g3
      cases b with
      | true =>
        have hr : true = r := Option.some.inj HN.out
        subst hr
        go_wp2_with (go_at_call 35; refine (tag_In.pred k st (rd_T23 l j) tx wk bs bt _ _ G1.out G2.out G3.out HP.out).mono ?_; rintro e w1 ⟨rfl, hb⟩)
        go_ret
        exact ⟨⟨j, rfl, by simp⟩, below_then HB.out HB.out.size hb⟩
      | false =>
        have HN' : Aside0 (tag_In.go k tx wk st (l.drop (j + 1)) = some r) := ⟨HN.out⟩
        clear HN
        go_wp2_with (go_at_call 35; refine (tag_In.pred k st (rd_T23 l j) tx wk bs bt _ _ G1.out G2.out G3.out HP.out).mono ?_; rintro e w1 ⟨rfl, hb⟩)
        go_roundw
        case rel => exact ⟨j + 1, by go_num, by omega, HN', ⟨below_then HB.out HB.out.size hb⟩⟩
        case measure => simp [intOf]; omega
    · have hlt' : ¬ ((j : Int) < (l.length : Int)) := by omega
      have hj' : j = l.length := by omega
      have hd : l.drop j = [] := by rw [hj']; simp
      have HA' := HA.out
      rw [hd, tag_In.go] at HA'
      obtain rfl := Option.some.inj HA'
      clear HA' HA hd hj'
      go_wp2
      go_ret
      exact ⟨⟨-1, rfl, by decide⟩, HB.out⟩

theorem tag_In.contains (k : Nat) (A : Option Addr) (c : Nat) (l : List S23) (st : Bool) (tx : ByteArray) (wk : Bool) (bs bt : Nat) (r : Bool) (w : World) (hr : Kd.C k23 w A l.length l)
    (h1 : w.cell? ⟨bs, 0, none⟩ = some (.func (.func (if st = true then 23 else 25)) #[] #[])) (h2 : w.cell? ⟨bt, 0, none⟩ = some (.string tx)) (h3 : w.cell? ⟨bt, 1, none⟩ = some (.bool wk))
    (h : tag_In.go k tx wk st l = some r) :
    Calls Tryd.prog 34 #[.slice A l.length c, .func (.func 35) #[] #[.pointer (some ⟨bs, 0, none⟩), .pointer (some ⟨bt, 0, none⟩)]] w fun e w' => e = .returned (.bool r) ∧ Below w.heap.size w w' := by
  have HI := Aside0.mk (tag_In.index k A c l st tx wk bs bt r w hr h1 h2 h3 h)
  clear hr h1 h2 h3 h
  go_enter Tryd.func34, Tryd.ntmps34
  go_wp2_with (go_at_call 48; refine HI.out.mono ?_; rintro e w1 ⟨⟨i, rfl, hi⟩, hb⟩; have HD := Aside0.mk hi; clear hi)
  go_ret
  exact ⟨by rw [← HD.out]; rfl, hb⟩

def tag_In.f (k : Nat) (l0 : List S23) (a1_0 : ByteArray) (a1_1 : Bool) (a2 : Bool) : Option (Bool) := tag_In.go k a1_0 a1_1 a2 l0
theorem tag_In.mono : ∀ a0 a1 a2 a3 k, LeO (tag_In.f k a0 a1 a2 a3) (tag_In.f (k + 1) a0 a1 a2 a3) := by
  intro a0 a1 a2 a3 k
  unfold tag_In.f
  induction a0 with
  | nil => exact LeO.refl _
  | cons x r ih =>
    unfold tag_In.go
    refine LeO.bind ?_ (fun b => LeO.ite (LeO.refl _) ih)
    unfold tag_In.one
    exact LeO.ite (tag_Strong.mono _ _ _ _ k) (tag_Weak.mono _ _ _ _ k)
theorem tag_In.calls (k : Nat) (A0 : Option Addr) (c0 : Nat) (l0 : List (S23)) (a1_0 : ByteArray) (a1_1 : Bool) (a2 : Bool) (r : Bool) (w : World) (hr0 : Kd.C k23 w A0 l0.length l0) (hc0 : l0.length ≤ c0) (h : tag_In.f k l0 a1_0 a1_1 a2 = some r) :
    Calls Tryd.prog 27 #[.slice A0 l0.length c0, .agg #[.string a1_0, .bool a1_1], .bool a2] w fun e w' => e = .returned (.bool r) ∧ Below w.heap.size w w' := by
  have hu23 := Tryd.underlying23
  have HR := Aside0.mk hr0
  have H := Aside0.mk (show tag_In.go k a1_0 a1_1 a2 l0 = some r from h)
  clear hr0 hc0 h
  cases a2 with
  | true =>
    have HK := Aside0.mk (tag_In.contains k A0 c0 l0 true a1_0 a1_1 (w.heap.size + 1) w.heap.size r ((w.alloc (.cells #[.string a1_0, .bool a1_1] 23)).alloc (.cells #[.func (.func 23) #[] #[]] 39)) (Kd.C_below HR.out (below_alloc (below_alloc (Below.refl _ _) _) _)) (by simp) (by simp) (by simp) H.out)
    go_enter Tryd.func27, Tryd.ntmps27
    go_wp2_with (go_at_call 34; refine HK.out.mono ?_; rintro e w1 ⟨rfl, hb⟩)
    go_ret
    exact ⟨rfl, below_then (below_alloc (below_alloc (Below.refl _ _) _) _) (by simp; omega) hb⟩
  | false =>
    have HK := Aside0.mk (tag_In.contains k A0 c0 l0 false a1_0 a1_1 (w.heap.size + 1) w.heap.size r ((w.alloc (.cells #[.string a1_0, .bool a1_1] 23)).alloc (.cells #[.func (.func 25) #[] #[]] 39)) (Kd.C_below HR.out (below_alloc (below_alloc (Below.refl _ _) _) _)) (by simp) (by simp) (by simp) H.out)
    go_enter Tryd.func27, Tryd.ntmps27
    go_wp2_with (go_at_call 34; refine HK.out.mono ?_; rintro e w1 ⟨rfl, hb⟩)
    go_ret
    exact ⟨rfl, below_then (below_alloc (below_alloc (Below.refl _ _) _) _) (by simp; omega) hb⟩


end Go.Proofs.YtbgbbpmbmccgiaaDoor.X
