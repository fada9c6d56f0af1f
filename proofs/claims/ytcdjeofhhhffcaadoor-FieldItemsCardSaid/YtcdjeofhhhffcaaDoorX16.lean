-- Printed by a program of this session (pp.py: the kit's print.py, run with contracts of its own) out of the translation. Not trusted: Lean checks it.
import Derived.Test.YtcdjeofhhhffcaaDoorX0
import Derived.Test.YtcdjeofhhhffcaaDoorX2
import Derived.Test.YtcdjeofhhhffcaaDoorX4
import Derived.Test.YtcdjeofhhhffcaaDoorX5
import Derived.Test.YtcdjeofhhhffcaaDoorX6
import Derived.Test.YtcdjeofhhhffcaaDoorX14
import Derived.Test.YtcdjeofhhhffcaaDoorX15
namespace Go.Proofs.YtcdjeofhhhffcaaDoor.X
open Go.RowKit Go.Proofs.YtcdjeofhhhffcaaDoorW.PrintWords Go.Proofs.YtcdjeofhhhffcaaDoorW.PrintLast Go.Proofs.YtcdjeofhhhffcaaDoorW.PrintMore
attribute [local go_sem] max2_int min2_int max_two min_two max_three min_three max_four min_four   -- for this text's walks alone
set_option linter.unusedVariables false
set_option linter.unusedSimpArgs false

/-! ### mandolinelaw07_FieldGets: function 6 -/
def mandolinelaw07_FieldGets.j0 : Nat → List (S33) → ByteArray → Bool → Option (Bool)
  | 0, _, _, _ => none
  | k + 1, x0, x1, x17 => if x17 = true then (some true) else ((field_Get.f k x0 x1).bind fun bt232 => ((mandolineref07_Get.f k x0 x1).bind fun bt234 => (if bt232.1.toList = bt234.1.toList then (if (bt232.2 == bt234.2) = true then ((field_Of.f k x0 x1).bind fun t236 => ((mandolineref07_Of.f k x0 x1).bind fun t239 => ((mandolineref07_Texts.f k t236 t239).bind fun t242 => (some t242)))) else (some false)) else (some false))))
def mandolinelaw07_FieldGets.f (k : Nat) (l0 : List (S33)) (a1 : ByteArray) : Option (Bool) := (mandolinelaw07_alive.f k).bind fun t226 => (if t226 = true then ((mandolineref07_Great.f k l0).bind fun t227 => (if t227 = true then (mandolinelaw07_FieldGets.j0 k l0 a1 true) else ((mandolinelaw07_great.f k (([a1] : List ByteArray))).bind fun t231 => (mandolinelaw07_FieldGets.j0 k l0 a1 t231)))) else (some false))
theorem mandolinelaw07_FieldGets.mono_l : ∀ k, (∀ y0 y1 y2, LeO (mandolinelaw07_FieldGets.j0 k y0 y1 y2) (mandolinelaw07_FieldGets.j0 (k + 1) y0 y1 y2))
  | 0 => fun _ _ _ r h => by simp [mandolinelaw07_FieldGets.j0] at h
  | k + 1 => by
    have ih0 := mandolinelaw07_FieldGets.mono_l k
    · intro y0 y1 y2
      unfold mandolinelaw07_FieldGets.j0
      repeat' first
      | (with_reducible exact ih0 _ _ _)
      | (with_reducible exact field_Get.mono _ _ _)
      | (with_reducible exact field_Of.mono _ _ _)
      | (with_reducible exact mandolinelaw07_alive.mono _)
      | (with_reducible exact mandolinelaw07_great.mono _ _)
      | (with_reducible exact mandolineref07_Get.mono _ _ _)
      | (with_reducible exact mandolineref07_Great.mono _ _)
      | (with_reducible exact mandolineref07_Of.mono _ _ _)
      | (with_reducible exact mandolineref07_Texts.mono _ _ _)
      | (with_reducible exact LeO.refl _)
      | (with_reducible exact LeO.none _)
      | (with_reducible refine LeO.ite ?_ ?_)
      | (with_reducible refine LeO.bind ?_ (fun _ => ?_))
      | exact ih0 _ _ _
      | exact field_Get.mono _ _ _
      | exact field_Of.mono _ _ _
      | exact mandolinelaw07_alive.mono _
      | exact mandolinelaw07_great.mono _ _
      | exact mandolineref07_Get.mono _ _ _
      | exact mandolineref07_Great.mono _ _
      | exact mandolineref07_Of.mono _ _ _
      | exact mandolineref07_Texts.mono _ _ _
      | exact LeO.none _
      | refine LeO.ite ?_ ?_
      | refine LeO.bind ?_ (fun _ => ?_)
theorem mandolinelaw07_FieldGets.mono : ∀ a0 a1 k, LeO (mandolinelaw07_FieldGets.f k a0 a1) (mandolinelaw07_FieldGets.f (k + 1) a0 a1) := by
  intro a0 a1 k
  have ih0 := mandolinelaw07_FieldGets.mono_l k
  unfold mandolinelaw07_FieldGets.f
  repeat' first
      | (with_reducible exact ih0 _ _ _)
      | (with_reducible exact field_Get.mono _ _ _)
      | (with_reducible exact field_Of.mono _ _ _)
      | (with_reducible exact mandolinelaw07_alive.mono _)
      | (with_reducible exact mandolinelaw07_great.mono _ _)
      | (with_reducible exact mandolineref07_Get.mono _ _ _)
      | (with_reducible exact mandolineref07_Great.mono _ _)
      | (with_reducible exact mandolineref07_Of.mono _ _ _)
      | (with_reducible exact mandolineref07_Texts.mono _ _ _)
      | (with_reducible exact LeO.refl _)
      | (with_reducible exact LeO.none _)
      | (with_reducible refine LeO.ite ?_ ?_)
      | (with_reducible refine LeO.bind ?_ (fun _ => ?_))
      | exact ih0 _ _ _
      | exact field_Get.mono _ _ _
      | exact field_Of.mono _ _ _
      | exact mandolinelaw07_alive.mono _
      | exact mandolinelaw07_great.mono _ _
      | exact mandolineref07_Get.mono _ _ _
      | exact mandolineref07_Great.mono _ _
      | exact mandolineref07_Of.mono _ _ _
      | exact mandolineref07_Texts.mono _ _ _
      | exact LeO.none _
      | refine LeO.ite ?_ ?_
      | refine LeO.bind ?_ (fun _ => ?_)
set_option maxHeartbeats 8000000 in
set_option maxRecDepth 100000 in
theorem mandolinelaw07_FieldGets.calls (k : Nat) (A0 : Option Addr) (c0 : Nat) (l0 : List (S33)) (a1 : ByteArray) (r : Bool) (w : World) (hG : Glob w) (hr0 : Kd.C k33 w A0 l0.length l0) (hc0 : l0.length ≤ c0) (h : mandolinelaw07_FieldGets.f k l0 a1 = some r) :
    Calls Tryd.prog 6 #[.slice A0 l0.length c0, .string a1] w fun e w' => e = .returned (.bool r) ∧ Below w.heap.size w w' := by
  have HG := Aside0.mk hG
  clear hG
  have HR0 := Aside0.mk hr0
  have HC0 := Aside0.mk hc0
  clear hr0 hc0
  have HB := Aside0.mk (Below.refl w.heap.size w)
  have H : ((mandolinelaw07_alive.f k).bind fun t226 => (if t226 = true then ((mandolineref07_Great.f k l0).bind fun t227 => (if t227 = true then (mandolinelaw07_FieldGets.j0 k l0 a1 true) else ((mandolinelaw07_great.f k (([a1] : List ByteArray))).bind fun t231 => (mandolinelaw07_FieldGets.j0 k l0 a1 t231)))) else (some false))) = some r := h
  clear h
  replace H := Option.bind_eq_some_iff.mp H
  obtain ⟨t226, A30, H⟩ := H
  replace H : (if t226 = true then ((mandolineref07_Great.f k l0).bind fun t227 => (if t227 = true then (mandolinelaw07_FieldGets.j0 k l0 a1 true) else ((mandolinelaw07_great.f k (([a1] : List ByteArray))).bind fun t231 => (mandolinelaw07_FieldGets.j0 k l0 a1 t231)))) else (some false)) = some r := H
  have A3 := Aside0.mk A30
  clear A30
  by_cases c4 : t226 = true
  · subst c4
    have H1 : ((mandolineref07_Great.f k l0).bind fun t227 => (if t227 = true then (mandolinelaw07_FieldGets.j0 k l0 a1 true) else ((mandolinelaw07_great.f k (([a1] : List ByteArray))).bind fun t231 => (mandolinelaw07_FieldGets.j0 k l0 a1 t231)))) = some r := by rw [if_pos rfl] at H; exact H
    clear H
    have H := H1
    clear H1
    have HC5 := Aside0.mk H
    clear H
    go_enter Tryd.func6, Tryd.ntmps6
    go_upto_region 3 with (first | ((with_reducible refine gate_callee (f := 11) rfl ?_); refine goesL_ (some 9) rfl rfl Tryd.func11 (by kernel_rfl) rfl #[] rfl (by (try simp only [List.map_toArray, List.map_cons, List.map_nil]); first | done | rfl | (simp only [List.length_drop, List.length_take]; rfl)) ?_; (with_reducible refine (mandolinelaw07_alive.calls k  true _ ?side1 A3.out).mono ?_); (case side1 => exact Glob.below HG.out (by repeat (first | (with_reducible first | exact HB.out | apply below_alloc | apply pw_below_drewN | apply below_drew1) | exact HB.out))); rintro e w6 ⟨rfl, hb⟩; refine ⟨_, rfl, ?_⟩; have n0_ := Aside0.mk (below_step (by repeat (first | (with_reducible first | exact HB.out | apply below_alloc | apply pw_below_drewN | apply below_drew1) | exact HB.out)) hb); clear HB; have HB := n0_; clear n0_; (try clear hb); (try clear hb2); (try clear hk); (try clear hi)))
    (try simp only [Act.put, List.setIfInBounds_toArray, List.set_cons_zero, List.set_cons_succ])
    go_cut [17] (fun v17 wc => ∃ (kq : Nat) (x17_4 : Bool), v17 = .bool x17_4 ∧ Aside0 (mandolinelaw07_FieldGets.j0 kq l0 a1 x17_4 = some r) ∧ Aside0 (kq ≤ k) ∧ Aside0 (Below w.heap.size w wc))
    case first =>
      have H := HC5.out
      clear HC5
      replace H := Option.bind_eq_some_iff.mp H
      obtain ⟨t227, A70, H⟩ := H
      replace H : (if t227 = true then (mandolinelaw07_FieldGets.j0 k l0 a1 true) else ((mandolinelaw07_great.f k (([a1] : List ByteArray))).bind fun t231 => (mandolinelaw07_FieldGets.j0 k l0 a1 t231))) = some r := H
      have A7 := Aside0.mk A70
      clear A70
      by_cases c8 : t227 = true
      · subst c8
        have H1 : (mandolinelaw07_FieldGets.j0 k l0 a1 true) = some r := by rw [if_pos rfl] at H; exact H
        clear H
        have H := H1
        clear H1
        have H' := Aside0.mk H
        clear H
        go_wp2_with (first | ((with_reducible refine gate_callee (f := 23) rfl ?_); refine goesL_ (some 12) rfl rfl Tryd.func23 (by kernel_rfl) rfl #[.slice A0 l0.length c0] rfl (by (try simp only [List.map_toArray, List.map_cons, List.map_nil]); first | done | rfl | (simp only [List.length_drop, List.length_take]; rfl)) ?_; (with_reducible refine (mandolineref07_Great.calls k _ _ l0 true _ ?side1 ?side2 A7.out).mono ?_); (case side1 => repeat (first | exact (Kd.C_below HR0.out HB.out) | (with_reducible refine Kd.C_alloc ?_ _) | (with_reducible refine Kd.C_drewN ?_ _) | (with_reducible refine Kd.C_drew ?_))); (case side2 => exact HC0.out); rintro e w9 ⟨rfl, hb⟩; refine ⟨_, rfl, ?_⟩; have n0_ := Aside0.mk (below_step (by repeat (first | (with_reducible first | exact HB.out | apply below_alloc | apply pw_below_drewN | apply below_drew1) | exact HB.out)) hb); clear HB; have HB := n0_; clear n0_; (try clear hb); (try clear hb2); (try clear hk); (try clear hi)))
        go_meet
        case rel => exact ⟨_, (true), (by first | rfl | (simp; done) | (simp [*]; done)), H', ⟨by first | omega | exact Nat.le_refl _⟩, ⟨by repeat (first | (with_reducible first | exact HB.out | apply below_alloc | apply pw_below_drewN | apply below_drew1) | exact HB.out)⟩⟩
      · replace c8 := Bool.eq_false_iff.mpr c8
        subst c8
        have H1 : ((mandolinelaw07_great.f k (([a1] : List ByteArray))).bind fun t231 => (mandolinelaw07_FieldGets.j0 k l0 a1 t231)) = some r := by rw [if_neg (show ¬ (false = true) by decide)] at H; exact H
        clear H
        have H := H1
        clear H1
        obtain ⟨y228, hy228⟩ : ∃ y_ : List ByteArray, y_ = (([a1] : List ByteArray)) := ⟨_, rfl⟩
        replace H : ((mandolinelaw07_great.f k y228).bind fun t231 => (mandolinelaw07_FieldGets.j0 k l0 a1 t231)) = some r := by first | (rw [hy228]; with_reducible exact H) | (have H2_ := (Option.bind_some _ _).symm.trans H; rw [hy228]; with_reducible exact H2_) | (have H2_ := (Option.bind_some _ _).symm.trans H; with_reducible exact H2_) | with_reducible exact H | (rw [hy228]; exact H) | exact H
        have Ny228 := Aside0.mk hy228
        clear hy228
        replace H := Option.bind_eq_some_iff.mp H
        obtain ⟨t231, A100, H⟩ := H
        replace H : (mandolinelaw07_FieldGets.j0 k l0 a1 t231) = some r := H
        have A10 := Aside0.mk A100
        clear A100
        have H' := Aside0.mk H
        clear H
        go_wp2_with (first | ((with_reducible refine gate_callee (f := 23) rfl ?_); refine goesL_ (some 12) rfl rfl Tryd.func23 (by kernel_rfl) rfl #[.slice A0 l0.length c0] rfl (by (try simp only [List.map_toArray, List.map_cons, List.map_nil]); first | done | rfl | (simp only [List.length_drop, List.length_take]; rfl)) ?_; (with_reducible refine (mandolineref07_Great.calls k _ _ l0 false _ ?side1 ?side2 A7.out).mono ?_); (case side1 => repeat (first | exact (Kd.C_below HR0.out HB.out) | (with_reducible refine Kd.C_alloc ?_ _) | (with_reducible refine Kd.C_drewN ?_ _) | (with_reducible refine Kd.C_drew ?_))); (case side2 => exact HC0.out); rintro e w11 ⟨rfl, hb⟩; refine ⟨_, rfl, ?_⟩; have n0_ := Aside0.mk (below_step (by repeat (first | (with_reducible first | exact HB.out | apply below_alloc | apply pw_below_drewN | apply below_drew1) | exact HB.out)) hb); clear HB; have HB := n0_; clear n0_; (try clear hb); (try clear hb2); (try clear hk); (try clear hi)) | ((with_reducible refine gate_dst (N := 15) rfl ?_); (try (refine gate_guard (by rfl) ?_; dsimp only)); refine Kd.R_lit Kd.string _ 9 ?hg (N := 15) ?hd (xs := ([a1] : List ByteArray)) (inner := [.string a1]) (ok := fun _ => True) (okp := fun _ => True) ?hr ?hp (fun _ hk => hk) trivial (Below.refl _ _) (Nat.le_refl _) (by simp) ?_; (case hd => rfl); (case hg => rfl); (case hr => first | (go_simp; done) | (go_simp; rfl)); (case hp => exact (Reps.one (show Kd.M Kd.string _ _ _ a1 [.string a1] from rfl) (Reps.none _ _))); intro v229 w12 ho13 hb hg_ hnew_; clear hg_ hnew_; (first | rw [← Ny228.out] at ho13 | (simp only [Int.reduceToNat] at ho13; rw [← Ny228.out] at ho13)); have n0_ := Aside0.mk (Kd.R_lower ho13 (below_size (by repeat (first | (with_reducible first | exact HB.out | apply below_alloc | apply pw_below_drewN | apply below_drew1) | exact HB.out)))); have n1_ := Aside0.mk (below_step (by repeat (first | (with_reducible first | exact HB.out | apply below_alloc | apply pw_below_drewN | apply below_drew1) | exact HB.out)) hb); clear HB; have HO230 := n0_; have HB := n1_; clear n0_ n1_; clear hb ho13; obtain ⟨Ao14, co14, eo14⟩ := Kd.R_slice HO230.out; subst eo14) | (go_at_call 12; (with_reducible refine (mandolinelaw07_great.calls k _ _ y228 t231 _ ?side1 ?side2 A10.out).mono ?_); (case side1 => repeat (first | exact (Kd.R_reads' HO230.out).2.2 | (with_reducible refine Kd.C_alloc ?_ _) | (with_reducible refine Kd.C_drewN ?_ _) | (with_reducible refine Kd.C_drew ?_))); (case side2 => exact (Kd.R_reads' HO230.out).2.1); rintro e w' ⟨rfl, ⟨nd, rfl⟩⟩))
        go_meet
        case rel => exact ⟨_, (t231), (by first | rfl | (simp; done) | (simp [*]; done)), H', ⟨by first | omega | exact Nat.le_refl _⟩, ⟨by repeat (first | (with_reducible first | exact HB.out | apply below_alloc | apply pw_below_drewN | apply below_drew1) | exact HB.out)⟩⟩
    case rest =>
      clear HC5
      try clear c1
      try clear c2
      try clear p2
      try clear c4
      try clear c6
      try clear c8
      try clear c11
      obtain ⟨kq, x17_4, rfl, HA, HJ4, HB⟩ := hcut
      cases kq with
      | zero => exact absurd HA.out (by simp [mandolinelaw07_FieldGets.j0])
      | succ kj4 =>
        have H := HA.out
        clear HA
        simp only [mandolinelaw07_FieldGets.j0] at H
        by_cases c15 : x17_4 = true
        · subst c15
          have H1 : (some true) = some r := by rw [if_pos rfl] at H; exact H
          clear H
          have H := H1
          clear H1
          obtain rfl := Option.some.inj H
          go_wp2
          go_ret
          exact ⟨by first | rfl | (simp [errW_none, errW_some] <;> rfl) | (simp [*, errW_none, errW_some] <;> rfl), by repeat (first | (with_reducible first | exact HB.out | apply below_alloc | apply pw_below_drewN | apply below_drew1) | exact HB.out)⟩
        · replace c15 := Bool.eq_false_iff.mpr c15
          subst c15
          have H1 : ((field_Get.f kj4 l0 a1).bind fun bt232 => ((mandolineref07_Get.f kj4 l0 a1).bind fun bt234 => (if bt232.1.toList = bt234.1.toList then (if (bt232.2 == bt234.2) = true then ((field_Of.f kj4 l0 a1).bind fun t236 => ((mandolineref07_Of.f kj4 l0 a1).bind fun t239 => ((mandolineref07_Texts.f kj4 t236 t239).bind fun t242 => (some t242)))) else (some false)) else (some false)))) = some r := by rw [if_neg (show ¬ (false = true) by decide)] at H; exact H
          clear H
          have H := H1
          clear H1
          replace H := Option.bind_eq_some_iff.mp H
          obtain ⟨⟨t232, t233⟩, A160, H⟩ := H
          replace H : ((mandolineref07_Get.f kj4 l0 a1).bind fun bt234 => (if t232.toList = bt234.1.toList then (if (t233 == bt234.2) = true then ((field_Of.f kj4 l0 a1).bind fun t236 => ((mandolineref07_Of.f kj4 l0 a1).bind fun t239 => ((mandolineref07_Texts.f kj4 t236 t239).bind fun t242 => (some t242)))) else (some false)) else (some false))) = some r := H
          have A16 := Aside0.mk A160
          clear A160
          replace H := Option.bind_eq_some_iff.mp H
          obtain ⟨⟨t234, t235⟩, A170, H⟩ := H
          replace H : (if t232.toList = t234.toList then (if (t233 == t235) = true then ((field_Of.f kj4 l0 a1).bind fun t236 => ((mandolineref07_Of.f kj4 l0 a1).bind fun t239 => ((mandolineref07_Texts.f kj4 t236 t239).bind fun t242 => (some t242)))) else (some false)) else (some false)) = some r := H
          have A17 := Aside0.mk A170
          clear A170
          by_cases c18 : t232.toList = t234.toList
          · rw [if_pos c18] at H
            have c18b0 : (t232.toList == t234.toList) = true := beq_iff_eq.mpr c18
            have c18b1 : (t232.toList != t234.toList) = false := bne_eq_false_iff_eq.mpr c18
            clear c18
            by_cases c19 : (t233 == t235) = true
            · rw [if_pos c19] at H
              have c19b0 : (t233 == t235) = true := c19
              (try (have c19b1 : decide (t233 = t235) = true := by simpa using c19))
              (try (have c19b2 : (t233 == t235) = true := by simpa using c19))
              clear c19
              replace H := Option.bind_eq_some_iff.mp H
              obtain ⟨t236, A200, H⟩ := H
              replace H : ((mandolineref07_Of.f kj4 l0 a1).bind fun t239 => ((mandolineref07_Texts.f kj4 t236 t239).bind fun t242 => (some t242))) = some r := H
              have A20 := Aside0.mk A200
              clear A200
              replace H := Option.bind_eq_some_iff.mp H
              obtain ⟨t239, A210, H⟩ := H
              replace H : ((mandolineref07_Texts.f kj4 t236 t239).bind fun t242 => (some t242)) = some r := H
              have A21 := Aside0.mk A210
              clear A210
              replace H := Option.bind_eq_some_iff.mp H
              obtain ⟨t242, A220, H⟩ := H
              replace H : (some t242) = some r := H
              have A22 := Aside0.mk A220
              clear A220
              obtain rfl := Option.some.inj H
              go_wp2_with (first | ((with_reducible refine gate_callee (f := 24) rfl ?_); refine goesL_ (some 21) rfl rfl Tryd.func24 (by kernel_rfl) rfl #[.slice A0 l0.length c0, .string a1] rfl (by (try simp only [List.map_toArray, List.map_cons, List.map_nil]); first | done | rfl | (simp only [List.length_drop, List.length_take]; rfl)) ?_; (with_reducible refine (field_Get.calls kj4 _ _ l0 a1 t232 t233 _ ?side1 ?side2 A16.out).mono ?_); (case side1 => repeat (first | exact (Kd.C_below HR0.out HB.out) | (with_reducible refine Kd.C_alloc ?_ _) | (with_reducible refine Kd.C_drewN ?_ _) | (with_reducible refine Kd.C_drew ?_))); (case side2 => exact HC0.out); rintro e w23 ⟨rfl, hb⟩; refine ⟨_, rfl, ?_⟩; have n0_ := Aside0.mk (below_step (by repeat (first | (with_reducible first | exact HB.out | apply below_alloc | apply pw_below_drewN | apply below_drew1) | exact HB.out)) hb); clear HB; have HB := n0_; clear n0_; (try clear hb); (try clear hb2); (try clear hk); (try clear hi)) | ((with_reducible refine gate_callee (f := 25) rfl ?_); refine goesL_ (some 27) rfl rfl Tryd.func25 (by kernel_rfl) rfl #[.slice A0 l0.length c0, .string a1] rfl (by (try simp only [List.map_toArray, List.map_cons, List.map_nil]); first | done | rfl | (simp only [List.length_drop, List.length_take]; rfl)) ?_; (with_reducible refine (mandolineref07_Get.calls kj4 _ _ l0 a1 t234 t235 _ ?side1 ?side2 A17.out).mono ?_); (case side1 => repeat (first | exact (Kd.C_below HR0.out HB.out) | (with_reducible refine Kd.C_alloc ?_ _) | (with_reducible refine Kd.C_drewN ?_ _) | (with_reducible refine Kd.C_drew ?_))); (case side2 => exact HC0.out); rintro e w24 ⟨rfl, hb⟩; refine ⟨_, rfl, ?_⟩; have n0_ := Aside0.mk (below_step (by repeat (first | (with_reducible first | exact HB.out | apply below_alloc | apply pw_below_drewN | apply below_drew1) | exact HB.out)) hb); clear HB; have HB := n0_; clear n0_; (try clear hb); (try clear hb2); (try clear hk); (try clear hi)) | (go_at_call 26; (with_reducible refine (field_Of.calls kj4 _ _ l0 a1 t236 _ ?side1 ?side2 A20.out).mono ?_); (case side1 => repeat (first | exact (Kd.C_below HR0.out HB.out) | (with_reducible refine Kd.C_alloc ?_ _) | (with_reducible refine Kd.C_drewN ?_ _) | (with_reducible refine Kd.C_drew ?_))); (case side2 => exact HC0.out); rintro e w25 ⟨v237, rfl, ho0, hb⟩; have n0_ := Aside0.mk (Kd.R_lower ho0 (below_size (by repeat (first | (with_reducible first | exact HB.out | apply below_alloc | apply pw_below_drewN | apply below_drew1) | exact HB.out)))); have n1_ := Aside0.mk (below_step (by repeat (first | (with_reducible first | exact HB.out | apply below_alloc | apply pw_below_drewN | apply below_drew1) | exact HB.out)) hb); clear HB; have HO238 := n0_; have HB := n1_; clear n0_ n1_; (try clear hb); (try clear hb2); (try clear hk); (try clear hi); (try clear ho0)) | (go_at_call 27; (with_reducible refine (mandolineref07_Of.calls kj4 _ _ l0 a1 t239 _ ?side1 ?side2 A21.out).mono ?_); (case side1 => repeat (first | exact (Kd.C_below HR0.out HB.out) | (with_reducible refine Kd.C_alloc ?_ _) | (with_reducible refine Kd.C_drewN ?_ _) | (with_reducible refine Kd.C_drew ?_))); (case side2 => exact HC0.out); rintro e w26 ⟨v240, rfl, ho0, hb⟩; have n0_ := Aside0.mk (Kd.R_elder' (by (with_reducible repeat (first | apply Kd.R_alloc | apply Kd.R_drewN | apply Kd.R_drew)); exact HO238.out) (Kd.R_base ho0) hb); have n1_ := Aside0.mk (Kd.R_lower (Kd.R_new' ho0 (Kd.R_lt (by (with_reducible repeat (first | apply Kd.R_alloc | apply Kd.R_drewN | apply Kd.R_drew)); exact HO238.out))) (below_size (by repeat (first | (with_reducible first | exact HB.out | apply below_alloc | apply pw_below_drewN | apply below_drew1) | exact HB.out)))); have n2_ := Aside0.mk (below_step (by repeat (first | (with_reducible first | exact HB.out | apply below_alloc | apply pw_below_drewN | apply below_drew1) | exact HB.out)) hb); clear HO238; clear HB; have HO238 := n0_; have HO241 := n1_; have HB := n2_; clear n0_ n1_ n2_; (try clear hb); (try clear hb2); (try clear hk); (try clear hi); (try clear ho0); obtain ⟨Ao27, co27, eo27⟩ := Kd.R_slice HO238.out; subst eo27; obtain ⟨Ao28, co28, eo28⟩ := Kd.R_slice HO241.out; subst eo28) | (go_at_call 14; (with_reducible refine (mandolineref07_Texts.calls kj4 _ _ t236 _ _ t239 t242 _ ?side1 ?side2 ?side3 ?side4 A22.out).mono ?_); (case side1 => repeat (first | exact (Kd.R_reads' HO238.out).2.2 | (with_reducible refine Kd.C_alloc ?_ _) | (with_reducible refine Kd.C_drewN ?_ _) | (with_reducible refine Kd.C_drew ?_))); (case side2 => exact (Kd.R_reads' HO238.out).2.1); (case side3 => repeat (first | exact (Kd.R_reads' HO241.out).2.2 | (with_reducible refine Kd.C_alloc ?_ _) | (with_reducible refine Kd.C_drewN ?_ _) | (with_reducible refine Kd.C_drew ?_))); (case side4 => exact (Kd.R_reads' HO241.out).2.1); rintro e w' ⟨rfl, ⟨nd, rfl⟩⟩))
              go_ret
              exact ⟨by first | rfl | (simp [errW_none, errW_some] <;> rfl) | (simp [*, errW_none, errW_some] <;> rfl), by repeat (first | (with_reducible first | exact HB.out | apply below_alloc | apply pw_below_drewN | apply below_drew1) | exact HB.out)⟩
            · rw [if_neg c19] at H
              have c19b0 : (t233 == t235) = false := by simpa using c19
              (try (have c19b1 : decide (t233 = t235) = false := by simpa using c19))
              (try (have c19b2 : (t233 == t235) = false := by simpa using c19))
              (try (have c19b3 : ¬ (t233 = t235) := by simpa using c19))
              clear c19
              obtain rfl := Option.some.inj H
              go_wp2_with (first | ((with_reducible refine gate_callee (f := 24) rfl ?_); refine goesL_ (some 21) rfl rfl Tryd.func24 (by kernel_rfl) rfl #[.slice A0 l0.length c0, .string a1] rfl (by (try simp only [List.map_toArray, List.map_cons, List.map_nil]); first | done | rfl | (simp only [List.length_drop, List.length_take]; rfl)) ?_; (with_reducible refine (field_Get.calls kj4 _ _ l0 a1 t232 t233 _ ?side1 ?side2 A16.out).mono ?_); (case side1 => repeat (first | exact (Kd.C_below HR0.out HB.out) | (with_reducible refine Kd.C_alloc ?_ _) | (with_reducible refine Kd.C_drewN ?_ _) | (with_reducible refine Kd.C_drew ?_))); (case side2 => exact HC0.out); rintro e w29 ⟨rfl, hb⟩; refine ⟨_, rfl, ?_⟩; have n0_ := Aside0.mk (below_step (by repeat (first | (with_reducible first | exact HB.out | apply below_alloc | apply pw_below_drewN | apply below_drew1) | exact HB.out)) hb); clear HB; have HB := n0_; clear n0_; (try clear hb); (try clear hb2); (try clear hk); (try clear hi)) | ((with_reducible refine gate_callee (f := 25) rfl ?_); refine goesL_ (some 27) rfl rfl Tryd.func25 (by kernel_rfl) rfl #[.slice A0 l0.length c0, .string a1] rfl (by (try simp only [List.map_toArray, List.map_cons, List.map_nil]); first | done | rfl | (simp only [List.length_drop, List.length_take]; rfl)) ?_; (with_reducible refine (mandolineref07_Get.calls kj4 _ _ l0 a1 t234 t235 _ ?side1 ?side2 A17.out).mono ?_); (case side1 => repeat (first | exact (Kd.C_below HR0.out HB.out) | (with_reducible refine Kd.C_alloc ?_ _) | (with_reducible refine Kd.C_drewN ?_ _) | (with_reducible refine Kd.C_drew ?_))); (case side2 => exact HC0.out); rintro e w30 ⟨rfl, hb⟩; refine ⟨_, rfl, ?_⟩; have n0_ := Aside0.mk (below_step (by repeat (first | (with_reducible first | exact HB.out | apply below_alloc | apply pw_below_drewN | apply below_drew1) | exact HB.out)) hb); clear HB; have HB := n0_; clear n0_; (try clear hb); (try clear hb2); (try clear hk); (try clear hi)))
              go_ret
              exact ⟨by first | rfl | (simp [errW_none, errW_some] <;> rfl) | (simp [*, errW_none, errW_some] <;> rfl), by repeat (first | (with_reducible first | exact HB.out | apply below_alloc | apply pw_below_drewN | apply below_drew1) | exact HB.out)⟩
          · rw [if_neg c18] at H
            have c18b0 : (t232.toList == t234.toList) = false := beq_eq_false_iff_ne.mpr c18
            have c18b1 : (t232.toList != t234.toList) = true := bne_iff_ne.mpr c18
            obtain rfl := Option.some.inj H
            go_wp2_with (first | ((with_reducible refine gate_callee (f := 24) rfl ?_); refine goesL_ (some 21) rfl rfl Tryd.func24 (by kernel_rfl) rfl #[.slice A0 l0.length c0, .string a1] rfl (by (try simp only [List.map_toArray, List.map_cons, List.map_nil]); first | done | rfl | (simp only [List.length_drop, List.length_take]; rfl)) ?_; (with_reducible refine (field_Get.calls kj4 _ _ l0 a1 t232 t233 _ ?side1 ?side2 A16.out).mono ?_); (case side1 => repeat (first | exact (Kd.C_below HR0.out HB.out) | (with_reducible refine Kd.C_alloc ?_ _) | (with_reducible refine Kd.C_drewN ?_ _) | (with_reducible refine Kd.C_drew ?_))); (case side2 => exact HC0.out); rintro e w31 ⟨rfl, hb⟩; refine ⟨_, rfl, ?_⟩; have n0_ := Aside0.mk (below_step (by repeat (first | (with_reducible first | exact HB.out | apply below_alloc | apply pw_below_drewN | apply below_drew1) | exact HB.out)) hb); clear HB; have HB := n0_; clear n0_; (try clear hb); (try clear hb2); (try clear hk); (try clear hi)) | ((with_reducible refine gate_callee (f := 25) rfl ?_); refine goesL_ (some 27) rfl rfl Tryd.func25 (by kernel_rfl) rfl #[.slice A0 l0.length c0, .string a1] rfl (by (try simp only [List.map_toArray, List.map_cons, List.map_nil]); first | done | rfl | (simp only [List.length_drop, List.length_take]; rfl)) ?_; (with_reducible refine (mandolineref07_Get.calls kj4 _ _ l0 a1 t234 t235 _ ?side1 ?side2 A17.out).mono ?_); (case side1 => repeat (first | exact (Kd.C_below HR0.out HB.out) | (with_reducible refine Kd.C_alloc ?_ _) | (with_reducible refine Kd.C_drewN ?_ _) | (with_reducible refine Kd.C_drew ?_))); (case side2 => exact HC0.out); rintro e w32 ⟨rfl, hb⟩; refine ⟨_, rfl, ?_⟩; have n0_ := Aside0.mk (below_step (by repeat (first | (with_reducible first | exact HB.out | apply below_alloc | apply pw_below_drewN | apply below_drew1) | exact HB.out)) hb); clear HB; have HB := n0_; clear n0_; (try clear hb); (try clear hb2); (try clear hk); (try clear hi)))
            go_ret
            exact ⟨by first | rfl | (simp [errW_none, errW_some] <;> rfl) | (simp [*, errW_none, errW_some] <;> rfl), by repeat (first | (with_reducible first | exact HB.out | apply below_alloc | apply pw_below_drewN | apply below_drew1) | exact HB.out)⟩
  · replace c4 := Bool.eq_false_iff.mpr c4
    subst c4
    have H1 : (some false) = some r := by rw [if_neg (show ¬ (false = true) by decide)] at H; exact H
    clear H
    have H := H1
    clear H1
    obtain rfl := Option.some.inj H
    go_enter Tryd.func6, Tryd.ntmps6
    go_wp2_with (first | ((with_reducible refine gate_callee (f := 11) rfl ?_); refine goesL_ (some 9) rfl rfl Tryd.func11 (by kernel_rfl) rfl #[] rfl (by (try simp only [List.map_toArray, List.map_cons, List.map_nil]); first | done | rfl | (simp only [List.length_drop, List.length_take]; rfl)) ?_; (with_reducible refine (mandolinelaw07_alive.calls k  false _ ?side1 A3.out).mono ?_); (case side1 => exact Glob.below HG.out (by repeat (first | (with_reducible first | exact HB.out | apply below_alloc | apply pw_below_drewN | apply below_drew1) | exact HB.out))); rintro e w33 ⟨rfl, hb⟩; refine ⟨_, rfl, ?_⟩; have n0_ := Aside0.mk (below_step (by repeat (first | (with_reducible first | exact HB.out | apply below_alloc | apply pw_below_drewN | apply below_drew1) | exact HB.out)) hb); clear HB; have HB := n0_; clear n0_; (try clear hb); (try clear hb2); (try clear hk); (try clear hi)))
    go_ret
    exact ⟨by first | rfl | (simp [errW_none, errW_some] <;> rfl) | (simp [*, errW_none, errW_some] <;> rfl), by repeat (first | (with_reducible first | exact HB.out | apply below_alloc | apply pw_below_drewN | apply below_drew1) | exact HB.out)⟩

/-! ### field_Put: function 28 -/
/-! The builder's two writing methods, at this translation (its copy check refuses where the library's contract has a panic). -/
theorem Bld.below {w w' : World} {B b : Nat} {p : Value} {bs : List Value} (h : Lib.BuilderAt 66 5 B b p bs w) (hb : Below w.heap.size w w') : Lib.BuilderAt 66 5 B b p bs w' := by
  obtain ⟨h1, v, h2, h3, h4⟩ := h
  exact ⟨h1, v, (hb.block b (blk_lt h2)).trans h2, own_move h3 (fun k hk => hb.block k (own_lt h3 k hk)), h4⟩
theorem Bld.is {w w' : World} {B b : Nat} {bs : List Value} (h : Lib.IsBuilder 66 5 B b bs w) (hb : Below w.heap.size w w') : Lib.IsBuilder 66 5 B b bs w' := h.imp (fun h => Bld.below h hb) (fun h => Bld.below h hb)
set_option maxHeartbeats 1000000 in
set_option maxRecDepth 100000 in
theorem Bld.check (B b : Nat) (bs : List Value) (w : World) (h : Lib.IsBuilder 66 5 B b bs w) :
    Calls Tryd.prog 62 #[.pointer (some ⟨b, 0, none⟩)] w fun e w' => e = .returned (.tuple #[]) ∧ Lib.BuilderAt 66 5 B b (.pointer (some ⟨b, 0, none⟩)) bs w' ∧ Below B w w' := by
  obtain ⟨j, hj, hjs⟩ := Option.map_eq_some_iff.1 (show (Tryd.prog.info? 66).map (·.size) = some 2 by kernel_rfl)
  rcases h with h | h
  · have h0 := h.cell0
    have hsh := h.shape
    have hfz := h.frozen0
    have HX := Aside0.mk h
    clear h
    go_enter Tryd.func62, Tryd.ntmps62
    go_wp2
    rw [Lib.run_to_unsafe w ⟨b, 0, none⟩ Tryd.underlying63 Tryd.underlying87 hj (by rw [hjs]; decide) hsh (Nat.zero_lt_succ 1)]
    simp only [Result.andThen]
    rw [Oper.upon_value]
    go_wp2
    rw [run_callFunc_extern Tryd.func69 (by kernel_rfl) (by kernel_rfl) (by kernel_rfl) (e := Extern.AbiNoEscape.same) (by kernel_rfl)]
    rw [Lib.run_noEscape]
    simp only [Result.andThen]
    rw [Oper.upon_value]
    go_wp2
    rw [Lib.run_from_unsafe w ⟨b, 0, none⟩ Tryd.underlying87 Tryd.underlying63 hj hsh (by kernel_rfl)]
    simp only [Result.andThen]
    rw [Oper.upon_value]
    go_wp2
    go_end0
    exact ⟨rfl, HX.out.used _, (Below.refl B w).setCell (p := ⟨b, 0, none⟩) HX.out.1 _⟩
  · have h0 := h.cell0
    have HX := Aside0.mk h
    clear h
    go_enter Tryd.func62, Tryd.ntmps62
    go_wp2
    rw [Lib.run_neq_ptr_same w _ Tryd.underlying63 hj]
    go_wp2
    go_end0
    exact ⟨rfl, HX.out, Below.refl B _⟩
set_option maxHeartbeats 1000000 in
set_option maxRecDepth 100000 in
theorem Bld.write (B b : Nat) (l : List UInt8) (s : ByteArray) (w : World) (h : Lib.IsBuilder 66 5 B b (Lib.byteCells l) w) (hlen : l.length + s.size ≤ 140737488351232) (hBw : B ≤ w.heap.size) :
    Calls Tryd.prog 48 #[.pointer (some ⟨b, 0, none⟩), .string s] w fun e w' => (∃ v, e = .returned v) ∧ Lib.IsBuilder 66 5 B b (Lib.byteCells (l ++ s.data.toList)) w' ∧ Below B w w' := by
  obtain ⟨i0, hi, hz0, hz1, hz2⟩ := info_parts (show (Tryd.prog.info? 5).map (fun i => (i.zero, i.size, i.bytes)) = some (some (.int .u8 0), 1, 1) by kernel_rfl)
  have HH := Aside0.mk h
  have HL := Aside0.mk hlen
  have HBW := Aside0.mk hBw
  have HI := Aside0.mk hi
  have HZ := Aside0.mk (And.intro hz0 (And.intro hz1 hz2))
  clear h hlen hBw hi hz0 hz1 hz2
  go_enter Tryd.func48, Tryd.ntmps48
  go_wp2_with (go_at_call 62; refine (Bld.check B b (Lib.byteCells l) _ HH.out).mono ?_)
  rintro e w1 ⟨rfl, h1, hb1⟩
  obtain ⟨hB, v, hbk, hown, hne⟩ := h1
  have hcl : (Lib.byteCells l).length = l.length := by simp [Lib.byteCells]
  have c0 : w1.cell? ⟨b, 0, none⟩ = some (.pointer (some ⟨b, 0, none⟩)) := blk_cell hbk 0
  have c1 : w1.cell? ⟨b, 1, none⟩ = some v := blk_cell hbk 1
  have HBK := Aside0.mk hbk
  have HOWN := Aside0.mk hown
  have HNE := Aside0.mk hne
  have HB1 := Aside0.mk hb1
  have HCL := Aside0.mk hcl
  clear hbk hown hne hb1 hcl
  go_wp2_with (at_builtin; refine Lib.wpList_append_own_string _ rfl _ _ 64 9 rfl B 5 i0 Tryd.underlying64 Tryd.underlying9 HI.out HZ.out.1 HZ.out.2.1 HZ.out.2.2 _ _ _ rfl HOWN.out s rfl ?c3 ?c4 ?c5 ?_)
  case c3 => unfold maxLen; have := HL.out; have := HCL.out; omega
  case c4 => have := HL.out; have := HCL.out; omega
  case c5 => have := HB1.out.size; have := HBW.out; omega
  intro v' w2 hown' hgrow _
  have hb2 := (hgrow.block b (blk_lt HBK.out) (fun e => HNE.out e.symm)).trans HBK.out
  have d0 : w2.cell? ⟨b, 0, none⟩ = some (.pointer (some ⟨b, 0, none⟩)) := blk_cell hb2 0
  have d1 : w2.cell? ⟨b, 1, none⟩ = some v := blk_cell hb2 1
  have f1 : w2.frozen? ⟨b, 1, none⟩ = false := blk_frozen hb2 1
  obtain ⟨ao, n', cap, rfl⟩ : ∃ ao n' cap, v' = .slice ao n' cap := by
    rcases hown'.2 with ⟨hv, _⟩ | ⟨g, cap, cur, hv, _⟩
    · exact ⟨_, _, _, hv⟩
    · exact ⟨_, _, _, hv⟩
  have HO2 := Aside0.mk hown'
  have HG2 := Aside0.mk hgrow
  have HB2 := Aside0.mk hb2
  clear hown' hgrow hb2
  go_wp2
  go_ret2
  refine ⟨⟨_, rfl⟩, ?_, ?_⟩
  · refine .inr (Lib.BuilderAt.put (T := 66) (e := 5) hB HB2.out (bs' := Lib.byteCells (l ++ s.data.toList)) ?_ (by decide))
    have := HO2.out
    rw [Lib.strCells_eq] at this
    have e1 : Lib.byteCells (l ++ s.data.toList) = Lib.byteCells l ++ Lib.byteCells s.data.toList := by simp [Lib.byteCells]
    rw [e1]
    simpa [Lib.byteCells] using this
  · exact (HB1.out.grown HG2.out (by have := HB1.out.size; have := HBW.out; omega) (fun k hk => (HOWN.out.lt k hk).1)).setCell (p := ⟨b, 1, none⟩) hB _
theorem Bld.len (B b : Nat) (l : List UInt8) (n : Int) (w : World) (hn : (l.length : Int) = n) (h : Lib.IsBuilder 66 5 B b (Lib.byteCells l) w) :
    Calls Tryd.prog 49 #[.pointer (some ⟨b, 0, none⟩)] w fun e w' => e = .returned (.int .i64 n) ∧ w = w' := by
  refine (Tryd.Builder_Len B b _ w h).mono ?_
  rintro e w' ⟨rfl, rfl⟩
  exact ⟨by rw [← hn]; simp [Lib.byteCells], rfl⟩
/-- field.Put: the fields from some on, behind what is put. -/
def field_Put.go (k : Nat) (n : Nat) : List S33 → List UInt8 → Option (ByteArray × Int)
  | [], acc => if acc.length + 2 ≤ 140737488351232 then (if (n : Int) > 100 then some ((⟨#[]⟩ : ByteArray), 4) else if ((acc.length + 2 : Nat) : Int) > 65536 then some ((⟨#[]⟩ : ByteArray), 4) else some (⟨(acc ++ [13, 10]).toArray⟩, 0)) else none
  | x :: r, acc => (field_Right.f k x.f0 x.f1).bind fun b => if b = true then (if acc.length + x.f0.size + x.f1.size + 4 ≤ 140737488351232 then field_Put.go k n r (acc ++ (x.f0.data.toList ++ [58, 32] ++ x.f1.data.toList ++ [13, 10])) else none) else some ((⟨#[]⟩ : ByteArray), 2)
def field_Put.f (k : Nat) (l0 : List S33) : Option (ByteArray × Int) := field_Put.go k l0.length l0 []
theorem field_Put.mono_go (k n : Nat) : ∀ (l : List S33) (acc : List UInt8), LeO (field_Put.go k n l acc) (field_Put.go (k + 1) n l acc)
  | [], acc => LeO.refl _
  | x :: r, acc => by
    rw [field_Put.go, field_Put.go]
    exact LeO.bind (field_Right.mono _ _ _) (fun b => LeO.ite (LeO.ite (field_Put.mono_go k n r _) (LeO.refl _)) (LeO.refl _))
theorem field_Put.mono : ∀ a0 k, LeO (field_Put.f k a0) (field_Put.f (k + 1) a0) := fun a0 k => field_Put.mono_go k _ _ _
def field_Put.line (x : S33) : ByteArray := (((x.f0 ++ (⟨#[58, 32]⟩ : ByteArray)) ++ x.f1) ++ (⟨#[13, 10]⟩ : ByteArray))
theorem field_Put.line_list (x : S33) : (field_Put.line x).data.toList = x.f0.data.toList ++ [58, 32] ++ x.f1.data.toList ++ [13, 10] := by simp [field_Put.line]
theorem field_Put.line_size (x : S33) : (field_Put.line x).size = x.f0.size + x.f1.size + 4 := by
  have h1 : (⟨#[58, 32]⟩ : ByteArray).size = 2 := rfl
  have h2 : (⟨#[13, 10]⟩ : ByteArray).size = 2 := rfl
  simp only [field_Put.line, ByteArray.size_append, h1, h2]
  omega
set_option maxHeartbeats 8000000 in
set_option maxRecDepth 100000 in
theorem field_Put.calls (k : Nat) (A0 : Option Addr) (c0 : Nat) (l0 : List (S33)) (r1 : ByteArray) (r2 : Int) (w : World) (hr0 : Kd.C k33 w A0 l0.length l0) (hc0 : l0.length ≤ c0) (h : field_Put.f k l0 = some (r1, r2)) :
    Calls Tryd.prog 28 #[.slice A0 l0.length c0] w fun e w' => e = .returned (.tuple #[.string r1, .int .i64 r2]) ∧ Below w.heap.size w w' := by
  have hu33 := Tryd.underlying33
  have HR := Aside0.mk hr0
  have HF := Aside0.mk h
  have hlen : (l0.length : Int) ≤ 9223372036854775807 := by have := hr0.2.1; omega
  have hl0 : (0 : Int) ≤ (l0.length : Int) := by omega
  clear hr0 h hc0
  go_enter Tryd.func28, Tryd.ntmps28
  go_wp2
  go_loopw [9] (fun v9 w' => ∃ (j : Nat) (acc : List UInt8), v9 = .int .i64 j ∧ j ≤ l0.length ∧ Aside0 (field_Put.go k l0.length (l0.drop j) acc = some (r1, r2)) ∧ Aside0 (Lib.IsBuilder 66 5 w.heap.size w.heap.size (Lib.byteCells acc) w') ∧ Aside0 (Below w.heap.size w w')) (fun v9 _ => l0.length - (intOf v9).toNat)
  case atStart => exact ⟨0, [], rfl, Nat.zero_le _, ⟨HF.out⟩, ⟨.inl ⟨Nat.le_refl _, .slice none 0 0, by simp [World.alloc, -World.alloc_eq], by simp [World.ownsRow, Lib.byteCells], by simp [Value.ownBlock]⟩⟩, ⟨by repeat (first | exact Below.refl _ _ | apply below_alloc)⟩⟩
  case round =>
    clear HF
    obtain ⟨j, acc, rfl, hj, HF, HO, HB⟩ := hrel
    by_cases hlt : j < l0.length
    · have H := HF.out
      clear HF
      rw [List.drop_eq_getElem_cons hlt, field_Put.go] at H
      obtain ⟨ad, e, hx0, hx1⟩ := at_T33 HR.out (j : Int) (by omega) (by omega)
      cases e
      replace hx0 := (HB.out.cell (World.block_lt_of_cell? _ _ hx0)).trans hx0
      replace hx1 := (HB.out.cell (World.block_lt_of_cell? _ _ hx1)).trans hx1
      rw [show rd_T33 l0 (j : Int) = l0[j] by simp [rd_T33, List.getD, hlt], Int.toNat_natCast] at hx0 hx1
      generalize l0[j] = x at hx0 hx1 H
      obtain ⟨b, hb, H⟩ := Option.bind_eq_some_iff.mp H
      have HRB := Aside0.mk hb
      clear hb
      have hlt' : ((j : Int) < (l0.length : Int)) := by omega
      have hj0 : (0 : Int) ≤ (j : Int) := by omega
      cases b with
      | false =>
        rw [if_neg (by simp)] at H
        obtain ⟨rfl, rfl⟩ := Prod.mk.inj (Option.some.inj H)
        clear H
        go_wp2_with (go_at_call 18; (with_reducible refine (field_Right.calls k x.f0 x.f1 _ _ HRB.out).mono ?_); rintro e wr1 ⟨rfl, hb⟩; have HB1 := Aside0.mk (below_step (below_alloc HB.out _) hb); clear hb)
        go_ret2
        exact ⟨rfl, HB1.out⟩
      | true =>
        rw [if_pos rfl] at H
        by_cases hsz : acc.length + x.f0.size + x.f1.size + 4 ≤ 140737488351232
        · rw [if_pos hsz] at H
          have HF := Aside0.mk H
          clear H
          have s1 : x.f0.size + 2 ≤ 9223372036854775807 := by omega
          have s2 : x.f0.size + 2 + x.f1.size ≤ 9223372036854775807 := by omega
          have s3 : x.f0.size + 2 + x.f1.size + 2 ≤ 9223372036854775807 := by omega
          have HSZ := Aside0.mk hsz
          clear hsz
          go_wp2_with (first | (go_at_call 18; (with_reducible refine (field_Right.calls k x.f0 x.f1 _ _ HRB.out).mono ?_); rintro e wr1 ⟨rfl, hb⟩; have hal := below_alloc (Below.refl wr.heap.size wr) (.cells #[.string x.f0, .string x.f1] 33); have HO1 := Aside0.mk (Bld.is (Bld.is HO.out hal) hb); have HB1 := Aside0.mk (below_step (below_alloc HB.out _) hb); have hc := hb.cell (p := ⟨wr.heap.size, 0, none⟩) (by simp); have hc' := hb.cell (p := ⟨wr.heap.size, 1, none⟩) (by simp); simp at hc hc'; clear hb hal) | (go_at_call 48; refine (Bld.write w.heap.size w.heap.size acc (field_Put.line x) _ HO1.out (by rw [field_Put.line_size]; have := HSZ.out; omega) HB1.out.size).mono ?_; rintro e wr2 ⟨⟨vv, rfl⟩, ho, hb⟩; have HO2 := Aside0.mk ho; have HB2 := Aside0.mk (HB1.out.trans hb); clear ho hb HO1 HB1))
          exact ⟨⟨j + 1, _, by go_num, by omega, HF, ⟨by have := HO2.out; rwa [field_Put.line_list] at this⟩, HB2⟩, by simp [intOf]; omega⟩
        · rw [if_neg hsz] at H
          exact absurd H (by simp)
    · have hj' : j = l0.length := by omega
      have hlt' : ¬ ((j : Int) < (l0.length : Int)) := by omega
      have H := HF.out
      rw [hj', List.drop_of_length_le (Nat.le_refl _), field_Put.go] at H
      clear HF hj'
      by_cases hsz : acc.length + 2 ≤ 140737488351232
      · rw [if_pos hsz] at H
        have HSZ := Aside0.mk hsz
        clear hsz
        by_cases h1 : (l0.length : Int) > 100
        · rw [if_pos h1] at H
          obtain ⟨rfl, rfl⟩ := Prod.mk.inj (Option.some.inj H)
          clear H
          go_wp2_with ((go_at_call 48; refine (Bld.write w.heap.size w.heap.size acc ⟨#[13, 10]⟩ _ HO.out (by have := HSZ.out; exact this) HB.out.size).mono ?_; rintro e wr2 ⟨⟨vv, rfl⟩, ho, hb⟩; have HO2 := Aside0.mk ho; have HB2 := Aside0.mk (HB.out.trans hb); clear ho hb))
          go_ret2
          exact ⟨rfl, HB2.out⟩
        · rw [if_neg h1] at H
          by_cases h2 : ((acc.length + 2 : Nat) : Int) > 65536
          · rw [if_pos h2] at H
            obtain ⟨rfl, rfl⟩ := Prod.mk.inj (Option.some.inj H)
            clear H
            obtain ⟨n, hn⟩ : ∃ n : Int, ((acc ++ [13, 10]).length : Int) = n := ⟨_, rfl⟩
            have h2' : decide (n > (65536 : Int)) = true := decide_eq_true (by rw [← hn]; simpa using h2)
            have HN := Aside0.mk hn
            clear h2 hn
            go_wp2_with (first | (go_at_call 48; refine (Bld.write w.heap.size w.heap.size acc ⟨#[13, 10]⟩ _ HO.out (by have := HSZ.out; exact this) HB.out.size).mono ?_; rintro e wr2 ⟨⟨vv, rfl⟩, ho, hb⟩; have HO2 := Aside0.mk ho; have HB2 := Aside0.mk (HB.out.trans hb); clear ho hb) | (go_at_call 49; refine (Bld.len w.heap.size w.heap.size (acc ++ [13, 10]) n _ HN.out HO2.out).mono ?_; rintro e wr3 ⟨rfl, rfl⟩))
            go_ret2
            exact ⟨rfl, HB2.out⟩
          · rw [if_neg h2] at H
            obtain ⟨rfl, rfl⟩ := Prod.mk.inj (Option.some.inj H)
            clear H
            obtain ⟨n, hn⟩ : ∃ n : Int, ((acc ++ [13, 10]).length : Int) = n := ⟨_, rfl⟩
            have h2' : decide (n > (65536 : Int)) = false := decide_eq_false (by rw [← hn]; simpa using h2)
            have HN := Aside0.mk hn
            clear h2 hn
            go_wp2_with (first | (go_at_call 48; refine (Bld.write w.heap.size w.heap.size acc ⟨#[13, 10]⟩ _ HO.out (by have := HSZ.out; exact this) HB.out.size).mono ?_; rintro e wr2 ⟨⟨vv, rfl⟩, ho, hb⟩; have HO2 := Aside0.mk ho; have HB2 := Aside0.mk (HB.out.trans hb); clear ho hb) | (go_at_call 49; refine (Bld.len w.heap.size w.heap.size (acc ++ [13, 10]) n _ HN.out HO2.out).mono ?_; rintro e wr3 ⟨rfl, rfl⟩) | (go_at_call 50; refine (Tryd.Builder_String_any w.heap.size w.heap.size (acc ++ [13, 10]) _ HO2.out HB2.out.size).mono ?_; rintro e wr4 ⟨rfl, hb⟩; have HB3 := Aside0.mk (HB2.out.trans hb); clear hb))
            go_ret2
            exact ⟨rfl, HB3.out⟩
      · rw [if_neg hsz] at H
        exact absurd H (by simp)


end Go.Proofs.YtcdjeofhhhffcaaDoor.X
