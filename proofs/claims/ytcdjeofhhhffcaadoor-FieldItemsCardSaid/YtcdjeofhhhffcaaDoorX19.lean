-- Printed by a program of this session (pp.py: the kit's print.py, run with contracts of its own) out of the translation. Not trusted: Lean checks it.
import Derived.Test.YtcdjeofhhhffcaaDoorX0
import Derived.Test.YtcdjeofhhhffcaaDoorX14
import Derived.Test.YtcdjeofhhhffcaaDoorX15
namespace Go.Proofs.YtcdjeofhhhffcaaDoor.X
open Go.RowKit Go.Proofs.YtcdjeofhhhffcaaDoorW.PrintWords Go.Proofs.YtcdjeofhhhffcaaDoorW.PrintLast Go.Proofs.YtcdjeofhhhffcaaDoorW.PrintMore
attribute [local go_sem] max2_int min2_int max_two min_two max_three min_three max_four min_four   -- for this text's walks alone
set_option linter.unusedVariables false
set_option linter.unusedSimpArgs false

/-! ### mandolineref07_Set: function 31 -/
def mandolineref07_Set.l0 : Nat → ByteArray → ByteArray → List (S33) → Bool → List (S33) → Int → Int → Option ((List (S33)))
  | 0, _, _, _, _, _, _, _ => none
  | k + 1, x1, x2, x7, x8, x11, x12, x13 => if x13 < x12 then (if 0 ≤ x13 then (if x13 < (x11.length : Int) then ((mandolineref07_Alike.f ((rd_T33 x11 x13).f0) x1).bind fun t288 => (if t288 = true then (if x8 = true then (mandolineref07_Set.l0 k x1 x2 x7 x8 x11 x12 (wrap64 (x13 + 1))) else (if x7.length < 4398046511104 then (mandolineref07_Set.l0 k x1 x2 (x7 ++ [(⟨x1, x2⟩ : S33)]) true x11 x12 (wrap64 (x13 + 1))) else (none))) else (if x7.length < 4398046511104 then (mandolineref07_Set.l0 k x1 x2 (x7 ++ [(⟨(rd_T33 x11 x13).f0, (rd_T33 x11 x13).f1⟩ : S33)]) x8 x11 x12 (wrap64 (x13 + 1))) else (none)))) else (none)) else (none)) else (if x8 = true then (some x7) else (if x7.length < 4398046511104 then (some (x7 ++ [(⟨x1, x2⟩ : S33)])) else (none)))
def mandolineref07_Set.f (k : Nat) (l0 : List (S33)) (a1 : ByteArray) (a2 : ByteArray) : Option ((List (S33))) := mandolineref07_Set.l0 k a1 a2 ([] : List (S33)) false l0 (l0.length : Int) 0
theorem mandolineref07_Set.mono_l : ∀ k, (∀ y0 y1 y2 y3 y4 y5 y6, LeO (mandolineref07_Set.l0 k y0 y1 y2 y3 y4 y5 y6) (mandolineref07_Set.l0 (k + 1) y0 y1 y2 y3 y4 y5 y6))
  | 0 => fun _ _ _ _ _ _ _ r h => by simp [mandolineref07_Set.l0] at h
  | k + 1 => by
    have ih0 := mandolineref07_Set.mono_l k
    · intro y0 y1 y2 y3 y4 y5 y6
      unfold mandolineref07_Set.l0
      repeat' first
      | (with_reducible exact ih0 _ _ _ _ _ _ _)
      | (with_reducible exact LeO.refl _)
      | (with_reducible exact LeO.none _)
      | (with_reducible refine LeO.ite ?_ ?_)
      | (with_reducible refine LeO.bind ?_ (fun _ => ?_))
      | exact ih0 _ _ _ _ _ _ _
      | exact LeO.none _
      | refine LeO.ite ?_ ?_
      | refine LeO.bind ?_ (fun _ => ?_)
theorem mandolineref07_Set.mono : ∀ a0 a1 a2 k, LeO (mandolineref07_Set.f k a0 a1 a2) (mandolineref07_Set.f (k + 1) a0 a1 a2) := by
  intro a0 a1 a2 k
  have ih0 := mandolineref07_Set.mono_l k
  unfold mandolineref07_Set.f
  repeat' first
      | (with_reducible exact ih0 _ _ _ _ _ _ _)
      | (with_reducible exact LeO.refl _)
      | (with_reducible exact LeO.none _)
      | (with_reducible refine LeO.ite ?_ ?_)
      | (with_reducible refine LeO.bind ?_ (fun _ => ?_))
      | exact ih0 _ _ _ _ _ _ _
      | exact LeO.none _
      | refine LeO.ite ?_ ?_
      | refine LeO.bind ?_ (fun _ => ?_)
set_option maxHeartbeats 8000000 in
set_option maxRecDepth 100000 in
theorem mandolineref07_Set.calls (k : Nat) (A0 : Option Addr) (c0 : Nat) (l0 : List (S33)) (a1 : ByteArray) (a2 : ByteArray) (r : List (S33)) (w : World) (hr0 : Kd.C k33 w A0 l0.length l0) (hc0 : l0.length ≤ c0) (h : mandolineref07_Set.f k l0 a1 a2 = some r) :
    Calls Tryd.prog 31 #[.slice A0 l0.length c0, .string a1, .string a2] w fun e w' => ∃ v0_ : Value, e = .returned (v0_) ∧ Kd.R k33 33 w' w.heap.size (fun _ => True) v0_ r ∧ Below w.heap.size w w' := by
  have hu33 := Tryd.underlying33
  have HR0 := Aside0.mk hr0
  have HC0 := Aside0.mk hc0
  clear hr0 hc0
  have HB := Aside0.mk (Below.refl w.heap.size w)
  have H : (mandolineref07_Set.l0 k a1 a2 ([] : List (S33)) false l0 (l0.length : Int) 0) = some r := h
  clear h
  have H' := Aside0.mk H
  clear H
  go_enter Tryd.func31, Tryd.ntmps31
  go_wp2
  go_loopg [7, 8, 13] k (fun kq v7 v8 v13 w' => ∃ (x7_1 : List (S33)) (x8_1 : Bool) (x13_1 : Int), v8 = .bool x8_1 ∧ v13 = .int .i64 x13_1 ∧ Aside0 (mandolineref07_Set.l0 kq a1 a2 x7_1 x8_1 l0 (l0.length : Int) x13_1 = some r) ∧ Aside0 (kq ≤ k) ∧ Aside0 (Kd.R k33 33 w' w.heap.size (fun _ => True) v7 x7_1) ∧ Aside0 (Below w.heap.size w w'))
  case atStart => exact ⟨(([] : List (S33))), (false), (0), (by first | rfl | (simp; done) | (simp [*]; done)), (by first | rfl | (simp; done) | (simp [*]; done)), H', ⟨Nat.le_refl _⟩, ⟨by first | exact Kd.R_nil _ _ _ _ _ | exact Kd.N_nil _ _ _ _ _ | exact Kd.V_nil _ _ _ _ _ | exact Kd.Q_nil _ _ _ _ _ | exact Kd.S_nil _ _ _ _ _⟩, ⟨by repeat (first | (with_reducible first | exact HB.out | apply below_alloc | apply pw_below_drewN | apply below_drew1) | exact HB.out)⟩⟩
  case round =>
    clear H'
    try clear p2
    try clear c3
    obtain ⟨x7_1, x8_1, x13_1, rfl, rfl, HA, HK1, HO_7, HB⟩ := hrel
    cases gk with
    | zero => exact absurd HA.out (by simp [mandolineref07_Set.l0])
    | succ k1 =>
      have H := HA.out
      clear HA
      simp only [mandolineref07_Set.l0] at H
      by_cases c4 : x13_1 < (l0.length : Int)
      · rw [if_pos c4] at H
        have c4b0 : decide (x13_1 < (l0.length : Int)) = true := decide_eq_true c4
        clear c4
        by_cases c5 : 0 ≤ x13_1
        · rw [if_pos c5] at H
          have c5b0 : decide (0 ≤ x13_1) = true := decide_eq_true c5
          clear c5
          by_cases c6 : x13_1 < (l0.length : Int)
          · rw [if_pos c6] at H
            have c6b0 : decide (x13_1 < (l0.length : Int)) = true := decide_eq_true c6
            clear c6
            replace H := Option.bind_eq_some_iff.mp H
            obtain ⟨t288, A70, H⟩ := H
            replace H : (if t288 = true then (if x8_1 = true then (mandolineref07_Set.l0 k1 a1 a2 x7_1 x8_1 l0 (l0.length : Int) (wrap64 (x13_1 + 1))) else (if x7_1.length < 4398046511104 then (mandolineref07_Set.l0 k1 a1 a2 (x7_1 ++ [(⟨a1, a2⟩ : S33)]) true l0 (l0.length : Int) (wrap64 (x13_1 + 1))) else (none))) else (if x7_1.length < 4398046511104 then (mandolineref07_Set.l0 k1 a1 a2 (x7_1 ++ [(⟨(rd_T33 l0 x13_1).f0, (rd_T33 l0 x13_1).f1⟩ : S33)]) x8_1 l0 (l0.length : Int) (wrap64 (x13_1 + 1))) else (none))) = some r := H
            have A7 := Aside0.mk A70
            clear A70
            by_cases c8 : t288 = true
            · subst c8
              have H1 : (if x8_1 = true then (mandolineref07_Set.l0 k1 a1 a2 x7_1 x8_1 l0 (l0.length : Int) (wrap64 (x13_1 + 1))) else (if x7_1.length < 4398046511104 then (mandolineref07_Set.l0 k1 a1 a2 (x7_1 ++ [(⟨a1, a2⟩ : S33)]) true l0 (l0.length : Int) (wrap64 (x13_1 + 1))) else (none))) = some r := by rw [if_pos rfl] at H; exact H
              clear H
              have H := H1
              clear H1
              by_cases c9 : x8_1 = true
              · subst c9
                have H1 : (mandolineref07_Set.l0 k1 a1 a2 x7_1 true l0 (l0.length : Int) (wrap64 (x13_1 + 1))) = some r := by rw [if_pos rfl] at H; exact H
                clear H
                have H := H1
                clear H1
                have H' := Aside0.mk H
                clear H
                have p286 : 0 ≤ (x13_1 : Int) := of_decide_eq_true (by first | (with_reducible assumption) | assumption)
                have q286 : x13_1 < (l0.length : Int) := of_decide_eq_true (by first | (with_reducible assumption) | assumption)
                obtain ⟨ad286, e286, hx286_0, hx286_1⟩ := at_T33 HR0.out x13_1 p286 q286
                cases e286
                replace hx286_0 := (HB.out.cell (World.block_lt_of_cell? w _ hx286_0)).trans hx286_0
                replace hx286_1 := (HB.out.cell (World.block_lt_of_cell? w _ hx286_1)).trans hx286_1
                replace p286 := eq_true p286
                replace q286 := eq_true q286
                go_wp2_with (first | ((with_reducible refine gate_dst (N := 10) rfl ?_); refine box_event ?hg (N := 10) ?hd (cs := #[.string (⟨#[]⟩ : ByteArray), .string (⟨#[]⟩ : ByteArray)]) (t := 33) ?hr ?_; (case hd => rfl); (case hg => rfl); (case hr => first | (go_simp; done) | (go_simp; rfl)); intro gb287 hg w10 hbox hb; have n0_ := Aside0.mk (Kd.R_below (Kd.R_elderB (by (with_reducible repeat (first | apply Kd.R_alloc | apply Kd.R_drewN | apply Kd.R_drew)); exact HO_7.out) gb287 (Nat.le_of_eq hg.symm)) hb); have n1_ := Aside0.mk (below_step (by repeat (first | (with_reducible first | exact HB.out | apply below_alloc | apply pw_below_drewN | apply below_drew1) | exact HB.out)) hb); have n2_ := Aside0.mk (hbox); have n3_ := Aside0.mk ((by rw [hg]; exact (below_size (by repeat (first | (with_reducible first | exact HB.out | apply below_alloc | apply pw_below_drewN | apply below_drew1) | exact HB.out))) : w.heap.size ≤ gb287)); have n4_ := Aside0.mk ((by rw [hg]; exact (below_size (by repeat (first | (with_reducible first | exact HB.out | apply below_alloc | apply pw_below_drewN | apply below_drew1) | exact HB.out))) : w.heap.size ≤ gb287)); clear HO_7; clear HB; have HO_7 := n0_; have HB := n1_; have BK287 := n2_; have GW287 := n3_; have GE287 := n4_; clear n0_ n1_ n2_ n3_ n4_; clear hb hbox hg; have hcz11_0 : w10.cell? ⟨gb287, 0, none⟩ = some (.string (⟨#[]⟩ : ByteArray)) := (blk_cell BK287.out 0).trans rfl; have hcz11_1 : w10.cell? ⟨gb287, 1, none⟩ = some (.string (⟨#[]⟩ : ByteArray)) := (blk_cell BK287.out 1).trans rfl; have hfz11_0 := blk_frozen BK287.out 0; have hfz11_1 := blk_frozen BK287.out 1) | ((with_reducible refine gate_callee (f := 47) rfl ?_); refine goesL_ (some 20) rfl rfl Tryd.func47 (by kernel_rfl) rfl #[.string ((rd_T33 l0 x13_1).f0), .string a1] rfl (by (try simp only [List.map_toArray, List.map_cons, List.map_nil]); first | done | rfl | (simp only [List.length_drop, List.length_take]; rfl)) ?_; (with_reducible refine (mandolineref07_Alike.calls ((rd_T33 l0 x13_1).f0) a1 true _ A7.out).mono ?_); rintro e w12 ⟨rfl, hb⟩; refine ⟨_, rfl, ?_⟩; have n0_ := Aside0.mk (Kd.R_below (by (with_reducible repeat (first | apply Kd.R_alloc | apply Kd.R_drewN | apply Kd.R_drew)); exact (Kd.R_mono (Kd.R_far (p := ⟨gb287, 1, none⟩) (Kd.R_far (p := ⟨gb287, 0, none⟩) (Kd.R_mono HO_7.out (fun k_ hk => (⟨hk, hk.2⟩ : _ ∧ k_ ≠ gb287))) (fun _ hk => hk.2) (.string ((rd_T33 l0 x13_1).f0))) (fun _ hk => hk.2) (.string ((rd_T33 l0 x13_1).f1))) (fun _ h_ => h_.1))) hb); have n1_ := Aside0.mk (blk_below (g := gb287) (o := .cells #[.string ((rd_T33 l0 x13_1).f0), .string ((rd_T33 l0 x13_1).f1)] 33 (0, 0)) (by (with_reducible repeat (first | refine blk_drewN ?_ _ | refine blk_drew ?_ | refine blk_alloc ?_ _)); refine blk_put (cs := #[.string ((rd_T33 l0 x13_1).f0), .string (⟨#[]⟩ : ByteArray)]) ?_ 1 _ rfl; (with_reducible repeat (first | refine blk_drewN ?_ _ | refine blk_drew ?_ | refine blk_alloc ?_ _)); refine blk_put (cs := #[.string (⟨#[]⟩ : ByteArray), .string (⟨#[]⟩ : ByteArray)]) ?_ 0 _ rfl; (with_reducible repeat (first | refine blk_drewN ?_ _ | refine blk_drew ?_ | refine blk_alloc ?_ _)); exact BK287.out) hb); have n2_ := Aside0.mk (below_step (by repeat (first | (with_reducible first | exact HB.out | apply below_alloc | apply pw_below_drewN | apply below_drew1 | refine below_set ?_ GE287.out) | exact HB.out)) hb); clear HO_7; clear BK287; clear HB; have HO_7 := n0_; have BK287 := n1_; have HB := n2_; clear n0_ n1_ n2_; (try clear hb); (try clear hb2); (try clear hk); (try clear hi)))
                go_roundg k1
                case measure => have := HK1.out; omega
                case rel => exact ⟨(x7_1), (true), (wrap64 (x13_1 + 1)), (by first | rfl | (simp; done) | (simp [*]; done)), (by first | rfl | (simp; done) | (simp [*]; done)), H', ⟨by have := HK1.out; omega⟩, ⟨by (with_reducible repeat (first | apply Kd.R_alloc | apply Kd.R_drewN | apply Kd.R_drew)); exact Kd.R_mono HO_7.out (fun _ hk => trivial)⟩, ⟨by repeat (first | (with_reducible first | exact HB.out | apply below_alloc | apply pw_below_drewN | apply below_drew1 | refine below_set ?_ GE287.out) | exact HB.out)⟩⟩
              · replace c9 := Bool.eq_false_iff.mpr c9
                subst c9
                have H1 : (if x7_1.length < 4398046511104 then (mandolineref07_Set.l0 k1 a1 a2 (x7_1 ++ [(⟨a1, a2⟩ : S33)]) true l0 (l0.length : Int) (wrap64 (x13_1 + 1))) else (none)) = some r := by rw [if_neg (show ¬ (false = true) by decide)] at H; exact H
                clear H
                have H := H1
                clear H1
                by_cases c13 : x7_1.length < 4398046511104
                · rw [if_pos c13] at H
                  have LMc13 := Aside0.mk c13
                  clear c13
                  obtain ⟨y289, hy289⟩ : ∃ y_ : List (S33), y_ = (x7_1 ++ [(⟨a1, a2⟩ : S33)]) := ⟨_, rfl⟩
                  replace H : (mandolineref07_Set.l0 k1 a1 a2 y289 true l0 (l0.length : Int) (wrap64 (x13_1 + 1))) = some r := by first | (rw [hy289]; with_reducible exact H) | (have H2_ := (Option.bind_some _ _).symm.trans H; rw [hy289]; with_reducible exact H2_) | (have H2_ := (Option.bind_some _ _).symm.trans H; with_reducible exact H2_) | with_reducible exact H | (rw [hy289]; exact H) | exact H
                  have Ny289 := Aside0.mk hy289
                  clear hy289
                  have H' := Aside0.mk H
                  clear H
                  have p286 : 0 ≤ (x13_1 : Int) := of_decide_eq_true (by first | (with_reducible assumption) | assumption)
                  have q286 : x13_1 < (l0.length : Int) := of_decide_eq_true (by first | (with_reducible assumption) | assumption)
                  obtain ⟨ad286, e286, hx286_0, hx286_1⟩ := at_T33 HR0.out x13_1 p286 q286
                  cases e286
                  replace hx286_0 := (HB.out.cell (World.block_lt_of_cell? w _ hx286_0)).trans hx286_0
                  replace hx286_1 := (HB.out.cell (World.block_lt_of_cell? w _ hx286_1)).trans hx286_1
                  replace p286 := eq_true p286
                  replace q286 := eq_true q286
                  go_wp2_with (first | ((with_reducible refine gate_dst (N := 10) rfl ?_); refine box_event ?hg (N := 10) ?hd (cs := #[.string (⟨#[]⟩ : ByteArray), .string (⟨#[]⟩ : ByteArray)]) (t := 33) ?hr ?_; (case hd => rfl); (case hg => rfl); (case hr => first | (go_simp; done) | (go_simp; rfl)); intro gb287 hg w14 hbox hb; have n0_ := Aside0.mk (Kd.R_below (Kd.R_elderB (by (with_reducible repeat (first | apply Kd.R_alloc | apply Kd.R_drewN | apply Kd.R_drew)); exact HO_7.out) gb287 (Nat.le_of_eq hg.symm)) hb); have n1_ := Aside0.mk (below_step (by repeat (first | (with_reducible first | exact HB.out | apply below_alloc | apply pw_below_drewN | apply below_drew1) | exact HB.out)) hb); have n2_ := Aside0.mk (hbox); have n3_ := Aside0.mk ((by rw [hg]; exact (below_size (by repeat (first | (with_reducible first | exact HB.out | apply below_alloc | apply pw_below_drewN | apply below_drew1) | exact HB.out))) : w.heap.size ≤ gb287)); have n4_ := Aside0.mk ((by rw [hg]; exact (below_size (by repeat (first | (with_reducible first | exact HB.out | apply below_alloc | apply pw_below_drewN | apply below_drew1) | exact HB.out))) : w.heap.size ≤ gb287)); clear HO_7; clear HB; have HO_7 := n0_; have HB := n1_; have BK287 := n2_; have GW287 := n3_; have GE287 := n4_; clear n0_ n1_ n2_ n3_ n4_; clear hb hbox hg; have hcz15_0 : w14.cell? ⟨gb287, 0, none⟩ = some (.string (⟨#[]⟩ : ByteArray)) := (blk_cell BK287.out 0).trans rfl; have hcz15_1 : w14.cell? ⟨gb287, 1, none⟩ = some (.string (⟨#[]⟩ : ByteArray)) := (blk_cell BK287.out 1).trans rfl; have hfz15_0 := blk_frozen BK287.out 0; have hfz15_1 := blk_frozen BK287.out 1) | ((with_reducible refine gate_callee (f := 47) rfl ?_); refine goesL_ (some 20) rfl rfl Tryd.func47 (by kernel_rfl) rfl #[.string ((rd_T33 l0 x13_1).f0), .string a1] rfl (by (try simp only [List.map_toArray, List.map_cons, List.map_nil]); first | done | rfl | (simp only [List.length_drop, List.length_take]; rfl)) ?_; (with_reducible refine (mandolineref07_Alike.calls ((rd_T33 l0 x13_1).f0) a1 true _ A7.out).mono ?_); rintro e w16 ⟨rfl, hb⟩; refine ⟨_, rfl, ?_⟩; have n0_ := Aside0.mk (Kd.R_below (by (with_reducible repeat (first | apply Kd.R_alloc | apply Kd.R_drewN | apply Kd.R_drew)); exact (Kd.R_mono (Kd.R_far (p := ⟨gb287, 1, none⟩) (Kd.R_far (p := ⟨gb287, 0, none⟩) (Kd.R_mono HO_7.out (fun k_ hk => (⟨hk, hk.2⟩ : _ ∧ k_ ≠ gb287))) (fun _ hk => hk.2) (.string ((rd_T33 l0 x13_1).f0))) (fun _ hk => hk.2) (.string ((rd_T33 l0 x13_1).f1))) (fun _ h_ => h_.1))) hb); have n1_ := Aside0.mk (blk_below (g := gb287) (o := .cells #[.string ((rd_T33 l0 x13_1).f0), .string ((rd_T33 l0 x13_1).f1)] 33 (0, 0)) (by (with_reducible repeat (first | refine blk_drewN ?_ _ | refine blk_drew ?_ | refine blk_alloc ?_ _)); refine blk_put (cs := #[.string ((rd_T33 l0 x13_1).f0), .string (⟨#[]⟩ : ByteArray)]) ?_ 1 _ rfl; (with_reducible repeat (first | refine blk_drewN ?_ _ | refine blk_drew ?_ | refine blk_alloc ?_ _)); refine blk_put (cs := #[.string (⟨#[]⟩ : ByteArray), .string (⟨#[]⟩ : ByteArray)]) ?_ 0 _ rfl; (with_reducible repeat (first | refine blk_drewN ?_ _ | refine blk_drew ?_ | refine blk_alloc ?_ _)); exact BK287.out) hb); have n2_ := Aside0.mk (below_step (by repeat (first | (with_reducible first | exact HB.out | apply below_alloc | apply pw_below_drewN | apply below_drew1 | refine below_set ?_ GE287.out) | exact HB.out)) hb); clear HO_7; clear BK287; clear HB; have HO_7 := n0_; have BK287 := n1_; have HB := n2_; clear n0_ n1_ n2_; (try clear hb); (try clear hb2); (try clear hk); (try clear hi)) | ((with_reducible refine gate_builtin (b := .append) (xs := #[.tmp 28, .tmp 32]) rfl ?_); at_builtin; refine Kd.R_append k33 (w0 := w) w.heap.size rfl (.tmp 28) (.tmp 32) 35 33 (.agg #[(.string ⟨#[]⟩), (.string ⟨#[]⟩)]) 32 rfl Tryd.underlying35 info33 rfl (by decide) (by omega) u7 x7_1 (⟨a1, a2⟩ : S33) [.string a1, .string a2] (fun k_ => k_ ≠ gb287) (fun _ => False) rfl rfl ?aP (fun _ hk => hk.elim) ?aF ?aO ?aB ?aS ?aL ?_; (case aP => exact k33_mkM _ _ _ (⟨a1, a2⟩ : S33)); (case aB => exact (by repeat (first | (with_reducible first | exact HB.out | apply below_alloc | apply pw_below_drewN | apply below_drew1 | refine below_set ?_ GE287.out) | exact HB.out))); (case aF => exact (fun k_ hk => Kd.freshB (g := gb287) (o := .cells #[.string ((rd_T33 l0 x13_1).f0), .string ((rd_T33 l0 x13_1).f1)] 33 (0, 0)) (by (with_reducible repeat (first | refine blk_drewN ?_ _ | refine blk_drew ?_ | refine blk_alloc ?_ _)); exact BK287.out) k_ hk)); (case aO => exact (by (with_reducible repeat (first | apply Kd.R_alloc | apply Kd.R_drewN | apply Kd.R_drew)); exact Kd.R_mono HO_7.out (fun _ hk => hk.2))); (case aS => exact (below_size (by repeat (first | (with_reducible first | exact HB.out | apply below_alloc | apply pw_below_drewN | apply below_drew1 | refine below_set ?_ GE287.out) | exact HB.out)))); (case aL => have := LMc13.out; omega); intro v290 w17 ho hb hg hat; rw [← Ny289.out] at ho; have n0_ := Aside0.mk (blk_grown (g := gb287) (o := .cells #[.string ((rd_T33 l0 x13_1).f0), .string ((rd_T33 l0 x13_1).f1)] 33 (0, 0)) (by (with_reducible repeat (first | refine blk_drewN ?_ _ | refine blk_drew ?_ | refine blk_alloc ?_ _)); exact BK287.out) hg (Kd.R_away HO_7.out (fun _ hk => hk.2))); have n1_ := Aside0.mk (hb); have n2_ := Aside0.mk (ho); clear BK287; clear HB; clear HO_7; have BK287 := n0_; have HB := n1_; have HO291 := n2_; clear n0_ n1_ n2_; clear ho hb hg hat))
                  go_roundg k1
                  case measure => have := HK1.out; omega
                  case rel => exact ⟨(y289), (true), (wrap64 (x13_1 + 1)), (by first | rfl | (simp; done) | (simp [*]; done)), (by first | rfl | (simp; done) | (simp [*]; done)), H', ⟨by have := HK1.out; omega⟩, ⟨by (with_reducible repeat (first | apply Kd.R_alloc | apply Kd.R_drewN | apply Kd.R_drew)); exact Kd.R_mono HO291.out (fun _ hk => trivial)⟩, ⟨by repeat (first | (with_reducible first | exact HB.out | apply below_alloc | apply pw_below_drewN | apply below_drew1 | refine below_set ?_ GE287.out) | exact HB.out)⟩⟩
                · rw [if_neg c13] at H
                  exact absurd H (by simp)
            · replace c8 := Bool.eq_false_iff.mpr c8
              subst c8
              have H1 : (if x7_1.length < 4398046511104 then (mandolineref07_Set.l0 k1 a1 a2 (x7_1 ++ [(⟨(rd_T33 l0 x13_1).f0, (rd_T33 l0 x13_1).f1⟩ : S33)]) x8_1 l0 (l0.length : Int) (wrap64 (x13_1 + 1))) else (none)) = some r := by rw [if_neg (show ¬ (false = true) by decide)] at H; exact H
              clear H
              have H := H1
              clear H1
              by_cases c18 : x7_1.length < 4398046511104
              · rw [if_pos c18] at H
                have LMc18 := Aside0.mk c18
                clear c18
                obtain ⟨y292, hy292⟩ : ∃ y_ : List (S33), y_ = (x7_1 ++ [(⟨(rd_T33 l0 x13_1).f0, (rd_T33 l0 x13_1).f1⟩ : S33)]) := ⟨_, rfl⟩
                replace H : (mandolineref07_Set.l0 k1 a1 a2 y292 x8_1 l0 (l0.length : Int) (wrap64 (x13_1 + 1))) = some r := by first | (rw [hy292]; with_reducible exact H) | (have H2_ := (Option.bind_some _ _).symm.trans H; rw [hy292]; with_reducible exact H2_) | (have H2_ := (Option.bind_some _ _).symm.trans H; with_reducible exact H2_) | with_reducible exact H | (rw [hy292]; exact H) | exact H
                have Ny292 := Aside0.mk hy292
                clear hy292
                have H' := Aside0.mk H
                clear H
                have p286 : 0 ≤ (x13_1 : Int) := of_decide_eq_true (by first | (with_reducible assumption) | assumption)
                have q286 : x13_1 < (l0.length : Int) := of_decide_eq_true (by first | (with_reducible assumption) | assumption)
                obtain ⟨ad286, e286, hx286_0, hx286_1⟩ := at_T33 HR0.out x13_1 p286 q286
                cases e286
                replace hx286_0 := (HB.out.cell (World.block_lt_of_cell? w _ hx286_0)).trans hx286_0
                replace hx286_1 := (HB.out.cell (World.block_lt_of_cell? w _ hx286_1)).trans hx286_1
                replace p286 := eq_true p286
                replace q286 := eq_true q286
                go_wp2_with (first | ((with_reducible refine gate_dst (N := 10) rfl ?_); refine box_event ?hg (N := 10) ?hd (cs := #[.string (⟨#[]⟩ : ByteArray), .string (⟨#[]⟩ : ByteArray)]) (t := 33) ?hr ?_; (case hd => rfl); (case hg => rfl); (case hr => first | (go_simp; done) | (go_simp; rfl)); intro gb287 hg w19 hbox hb; have n0_ := Aside0.mk (Kd.R_below (Kd.R_elderB (by (with_reducible repeat (first | apply Kd.R_alloc | apply Kd.R_drewN | apply Kd.R_drew)); exact HO_7.out) gb287 (Nat.le_of_eq hg.symm)) hb); have n1_ := Aside0.mk (below_step (by repeat (first | (with_reducible first | exact HB.out | apply below_alloc | apply pw_below_drewN | apply below_drew1) | exact HB.out)) hb); have n2_ := Aside0.mk (hbox); have n3_ := Aside0.mk ((by rw [hg]; exact (below_size (by repeat (first | (with_reducible first | exact HB.out | apply below_alloc | apply pw_below_drewN | apply below_drew1) | exact HB.out))) : w.heap.size ≤ gb287)); have n4_ := Aside0.mk ((by rw [hg]; exact (below_size (by repeat (first | (with_reducible first | exact HB.out | apply below_alloc | apply pw_below_drewN | apply below_drew1) | exact HB.out))) : w.heap.size ≤ gb287)); clear HO_7; clear HB; have HO_7 := n0_; have HB := n1_; have BK287 := n2_; have GW287 := n3_; have GE287 := n4_; clear n0_ n1_ n2_ n3_ n4_; clear hb hbox hg; have hcz20_0 : w19.cell? ⟨gb287, 0, none⟩ = some (.string (⟨#[]⟩ : ByteArray)) := (blk_cell BK287.out 0).trans rfl; have hcz20_1 : w19.cell? ⟨gb287, 1, none⟩ = some (.string (⟨#[]⟩ : ByteArray)) := (blk_cell BK287.out 1).trans rfl; have hfz20_0 := blk_frozen BK287.out 0; have hfz20_1 := blk_frozen BK287.out 1) | ((with_reducible refine gate_callee (f := 47) rfl ?_); refine goesL_ (some 20) rfl rfl Tryd.func47 (by kernel_rfl) rfl #[.string ((rd_T33 l0 x13_1).f0), .string a1] rfl (by (try simp only [List.map_toArray, List.map_cons, List.map_nil]); first | done | rfl | (simp only [List.length_drop, List.length_take]; rfl)) ?_; (with_reducible refine (mandolineref07_Alike.calls ((rd_T33 l0 x13_1).f0) a1 false _ A7.out).mono ?_); rintro e w21 ⟨rfl, hb⟩; refine ⟨_, rfl, ?_⟩; have n0_ := Aside0.mk (Kd.R_below (by (with_reducible repeat (first | apply Kd.R_alloc | apply Kd.R_drewN | apply Kd.R_drew)); exact (Kd.R_mono (Kd.R_far (p := ⟨gb287, 1, none⟩) (Kd.R_far (p := ⟨gb287, 0, none⟩) (Kd.R_mono HO_7.out (fun k_ hk => (⟨hk, hk.2⟩ : _ ∧ k_ ≠ gb287))) (fun _ hk => hk.2) (.string ((rd_T33 l0 x13_1).f0))) (fun _ hk => hk.2) (.string ((rd_T33 l0 x13_1).f1))) (fun _ h_ => h_.1))) hb); have n1_ := Aside0.mk (blk_below (g := gb287) (o := .cells #[.string ((rd_T33 l0 x13_1).f0), .string ((rd_T33 l0 x13_1).f1)] 33 (0, 0)) (by (with_reducible repeat (first | refine blk_drewN ?_ _ | refine blk_drew ?_ | refine blk_alloc ?_ _)); refine blk_put (cs := #[.string ((rd_T33 l0 x13_1).f0), .string (⟨#[]⟩ : ByteArray)]) ?_ 1 _ rfl; (with_reducible repeat (first | refine blk_drewN ?_ _ | refine blk_drew ?_ | refine blk_alloc ?_ _)); refine blk_put (cs := #[.string (⟨#[]⟩ : ByteArray), .string (⟨#[]⟩ : ByteArray)]) ?_ 0 _ rfl; (with_reducible repeat (first | refine blk_drewN ?_ _ | refine blk_drew ?_ | refine blk_alloc ?_ _)); exact BK287.out) hb); have n2_ := Aside0.mk (below_step (by repeat (first | (with_reducible first | exact HB.out | apply below_alloc | apply pw_below_drewN | apply below_drew1 | refine below_set ?_ GE287.out) | exact HB.out)) hb); clear HO_7; clear BK287; clear HB; have HO_7 := n0_; have BK287 := n1_; have HB := n2_; clear n0_ n1_ n2_; (try clear hb); (try clear hb2); (try clear hk); (try clear hi); have hcz22_0 : w21.cell? ⟨gb287, 0, none⟩ = some (.string ((rd_T33 l0 x13_1).f0)) := (blk_cell BK287.out 0).trans rfl; have hcz22_1 : w21.cell? ⟨gb287, 1, none⟩ = some (.string ((rd_T33 l0 x13_1).f1)) := (blk_cell BK287.out 1).trans rfl; have hfz22_0 := blk_frozen BK287.out 0; have hfz22_1 := blk_frozen BK287.out 1) | ((with_reducible refine gate_builtin (b := .append) (xs := #[.tmp 22, .tmp 24]) rfl ?_); at_builtin; refine Kd.R_append k33 (w0 := w) w.heap.size rfl (.tmp 22) (.tmp 24) 35 33 (.agg #[(.string ⟨#[]⟩), (.string ⟨#[]⟩)]) 32 rfl Tryd.underlying35 info33 rfl (by decide) (by omega) u7 x7_1 (⟨(rd_T33 l0 x13_1).f0, (rd_T33 l0 x13_1).f1⟩ : S33) [.string ((rd_T33 l0 x13_1).f0), .string ((rd_T33 l0 x13_1).f1)] (fun k_ => k_ ≠ gb287) (fun _ => False) rfl rfl ?aP (fun _ hk => hk.elim) ?aF ?aO ?aB ?aS ?aL ?_; (case aP => exact k33_mkM _ _ _ (⟨(rd_T33 l0 x13_1).f0, (rd_T33 l0 x13_1).f1⟩ : S33)); (case aB => exact (by repeat (first | (with_reducible first | exact HB.out | apply below_alloc | apply pw_below_drewN | apply below_drew1 | refine below_set ?_ GE287.out) | exact HB.out))); (case aF => exact (fun k_ hk => Kd.freshB (g := gb287) (o := .cells #[.string ((rd_T33 l0 x13_1).f0), .string ((rd_T33 l0 x13_1).f1)] 33 (0, 0)) (by (with_reducible repeat (first | refine blk_drewN ?_ _ | refine blk_drew ?_ | refine blk_alloc ?_ _)); exact BK287.out) k_ hk)); (case aO => exact (by (with_reducible repeat (first | apply Kd.R_alloc | apply Kd.R_drewN | apply Kd.R_drew)); exact Kd.R_mono HO_7.out (fun _ hk => hk.2))); (case aS => exact (below_size (by repeat (first | (with_reducible first | exact HB.out | apply below_alloc | apply pw_below_drewN | apply below_drew1 | refine below_set ?_ GE287.out) | exact HB.out)))); (case aL => have := LMc18.out; omega); intro v293 w23 ho hb hg hat; rw [← Ny292.out] at ho; have n0_ := Aside0.mk (blk_grown (g := gb287) (o := .cells #[.string ((rd_T33 l0 x13_1).f0), .string ((rd_T33 l0 x13_1).f1)] 33 (0, 0)) (by (with_reducible repeat (first | refine blk_drewN ?_ _ | refine blk_drew ?_ | refine blk_alloc ?_ _)); exact BK287.out) hg (Kd.R_away HO_7.out (fun _ hk => hk.2))); have n1_ := Aside0.mk (hb); have n2_ := Aside0.mk (ho); clear BK287; clear HB; clear HO_7; have BK287 := n0_; have HB := n1_; have HO294 := n2_; clear n0_ n1_ n2_; clear ho hb hg hat))
                go_roundg k1
                case measure => have := HK1.out; omega
                case rel => exact ⟨(y292), (x8_1), (wrap64 (x13_1 + 1)), (by first | rfl | (simp; done) | (simp [*]; done)), (by first | rfl | (simp; done) | (simp [*]; done)), H', ⟨by have := HK1.out; omega⟩, ⟨by (with_reducible repeat (first | apply Kd.R_alloc | apply Kd.R_drewN | apply Kd.R_drew)); exact Kd.R_mono HO294.out (fun _ hk => trivial)⟩, ⟨by repeat (first | (with_reducible first | exact HB.out | apply below_alloc | apply pw_below_drewN | apply below_drew1 | refine below_set ?_ GE287.out) | exact HB.out)⟩⟩
              · rw [if_neg c18] at H
                exact absurd H (by simp)
          · rw [if_neg c6] at H
            exact absurd H (by simp)
        · rw [if_neg c5] at H
          exact absurd H (by simp)
      · rw [if_neg c4] at H
        have c4b0 : decide (x13_1 < (l0.length : Int)) = false := decide_eq_false c4
        clear c4
        by_cases c24 : x8_1 = true
        · subst c24
          have H1 : (some x7_1) = some r := by rw [if_pos rfl] at H; exact H
          clear H
          have H := H1
          clear H1
          obtain rfl := Option.some.inj H
          go_wp2
          go_ret
          exact ⟨_, by first | rfl | (simp [errW_none, errW_some] <;> rfl) | (simp [*, errW_none, errW_some] <;> rfl), by (with_reducible repeat (first | apply Kd.R_alloc | apply Kd.R_drewN | apply Kd.R_drew)); exact HO_7.out, by repeat (first | (with_reducible first | exact HB.out | apply below_alloc | apply pw_below_drewN | apply below_drew1) | exact HB.out)⟩
        · replace c24 := Bool.eq_false_iff.mpr c24
          subst c24
          have H1 : (if x7_1.length < 4398046511104 then (some (x7_1 ++ [(⟨a1, a2⟩ : S33)])) else (none)) = some r := by rw [if_neg (show ¬ (false = true) by decide)] at H; exact H
          clear H
          have H := H1
          clear H1
          by_cases c25 : x7_1.length < 4398046511104
          · rw [if_pos c25] at H
            have LMc25 := Aside0.mk c25
            clear c25
            obtain ⟨y283, hy283⟩ : ∃ y_ : List (S33), y_ = (x7_1 ++ [(⟨a1, a2⟩ : S33)]) := ⟨_, rfl⟩
            replace H : (some y283) = some r := by first | (rw [hy283]; with_reducible exact H) | (have H2_ := (Option.bind_some _ _).symm.trans H; rw [hy283]; with_reducible exact H2_) | (have H2_ := (Option.bind_some _ _).symm.trans H; with_reducible exact H2_) | with_reducible exact H | (rw [hy283]; exact H) | exact H
            have Ny283 := Aside0.mk hy283
            clear hy283
            obtain rfl := Option.some.inj H
            go_wp2_with (first | ((with_reducible refine gate_builtin (b := .append) (xs := #[.tmp 37, .tmp 41]) rfl ?_); at_builtin; refine Kd.R_append k33 (w0 := w) w.heap.size rfl (.tmp 37) (.tmp 41) 35 33 (.agg #[(.string ⟨#[]⟩), (.string ⟨#[]⟩)]) 32 rfl Tryd.underlying35 info33 rfl (by decide) (by omega) u7 x7_1 (⟨a1, a2⟩ : S33) [.string a1, .string a2] (fun _ => True) (fun _ => False) rfl rfl ?aP (fun _ hk => hk.elim) ?aF ?aO ?aB ?aS ?aL ?_; (case aP => exact k33_mkM _ _ _ (⟨a1, a2⟩ : S33)); (case aB => exact (by repeat (first | (with_reducible first | exact HB.out | apply below_alloc | apply pw_below_drewN | apply below_drew1) | exact HB.out))); (case aF => exact (fun _ _ => trivial)); (case aO => exact (by (with_reducible repeat (first | apply Kd.R_alloc | apply Kd.R_drewN | apply Kd.R_drew)); exact HO_7.out)); (case aS => exact (below_size (by repeat (first | (with_reducible first | exact HB.out | apply below_alloc | apply pw_below_drewN | apply below_drew1) | exact HB.out)))); (case aL => have := LMc25.out; omega); intro v284 w26 ho hb hg hat; rw [← Ny283.out] at ho; have n0_ := Aside0.mk (hb); have n1_ := Aside0.mk (ho); clear HB; clear HO_7; have HB := n0_; have HO285 := n1_; clear n0_ n1_; clear ho hb hg hat))
            go_ret
            exact ⟨_, by first | rfl | (simp [errW_none, errW_some] <;> rfl) | (simp [*, errW_none, errW_some] <;> rfl), by (with_reducible repeat (first | apply Kd.R_alloc | apply Kd.R_drewN | apply Kd.R_drew)); exact HO285.out, by repeat (first | (with_reducible first | exact HB.out | apply below_alloc | apply pw_below_drewN | apply below_drew1) | exact HB.out)⟩
          · rw [if_neg c25] at H
            exact absurd H (by simp)

/-! ### field_Without: function 32 -/
def field_Without.l0 : Nat → ByteArray → List (S33) → List (S33) → Int → Int → Option ((List (S33)))
  | 0, _, _, _, _, _ => none
  | k + 1, x1, x5, x8, x9, x10 => if x10 < x9 then (if 0 ≤ x10 then (if x10 < (x8.length : Int) then ((field_alike.f k ((rd_T33 x8 x10).f0) x1).bind fun t297 => (if t297 = true then (field_Without.l0 k x1 x5 x8 x9 (wrap64 (x10 + 1))) else (if x5.length < 4398046511104 then (field_Without.l0 k x1 (x5 ++ [(⟨(rd_T33 x8 x10).f0, (rd_T33 x8 x10).f1⟩ : S33)]) x8 x9 (wrap64 (x10 + 1))) else (none)))) else (none)) else (none)) else (some x5)
def field_Without.f (k : Nat) (l0 : List (S33)) (a1 : ByteArray) : Option ((List (S33))) := field_Without.l0 k a1 ([] : List (S33)) l0 (l0.length : Int) 0
theorem field_Without.mono_l : ∀ k, (∀ y0 y1 y2 y3 y4, LeO (field_Without.l0 k y0 y1 y2 y3 y4) (field_Without.l0 (k + 1) y0 y1 y2 y3 y4))
  | 0 => fun _ _ _ _ _ r h => by simp [field_Without.l0] at h
  | k + 1 => by
    have ih0 := field_Without.mono_l k
    · intro y0 y1 y2 y3 y4
      unfold field_Without.l0
      repeat' first
      | (with_reducible exact ih0 _ _ _ _ _)
      | (with_reducible exact field_alike.mono _ _ _)
      | (with_reducible exact LeO.refl _)
      | (with_reducible exact LeO.none _)
      | (with_reducible refine LeO.ite ?_ ?_)
      | (with_reducible refine LeO.bind ?_ (fun _ => ?_))
      | exact ih0 _ _ _ _ _
      | exact field_alike.mono _ _ _
      | exact LeO.none _
      | refine LeO.ite ?_ ?_
      | refine LeO.bind ?_ (fun _ => ?_)
theorem field_Without.mono : ∀ a0 a1 k, LeO (field_Without.f k a0 a1) (field_Without.f (k + 1) a0 a1) := by
  intro a0 a1 k
  have ih0 := field_Without.mono_l k
  unfold field_Without.f
  repeat' first
      | (with_reducible exact ih0 _ _ _ _ _)
      | (with_reducible exact field_alike.mono _ _ _)
      | (with_reducible exact LeO.refl _)
      | (with_reducible exact LeO.none _)
      | (with_reducible refine LeO.ite ?_ ?_)
      | (with_reducible refine LeO.bind ?_ (fun _ => ?_))
      | exact ih0 _ _ _ _ _
      | exact field_alike.mono _ _ _
      | exact LeO.none _
      | refine LeO.ite ?_ ?_
      | refine LeO.bind ?_ (fun _ => ?_)
set_option maxHeartbeats 8000000 in
set_option maxRecDepth 100000 in
theorem field_Without.calls (k : Nat) (A0 : Option Addr) (c0 : Nat) (l0 : List (S33)) (a1 : ByteArray) (r : List (S33)) (w : World) (hr0 : Kd.C k33 w A0 l0.length l0) (hc0 : l0.length ≤ c0) (h : field_Without.f k l0 a1 = some r) :
    Calls Tryd.prog 32 #[.slice A0 l0.length c0, .string a1] w fun e w' => ∃ v0_ : Value, e = .returned (v0_) ∧ Kd.R k33 33 w' w.heap.size (fun _ => True) v0_ r ∧ Below w.heap.size w w' := by
  have hu33 := Tryd.underlying33
  have HR0 := Aside0.mk hr0
  have HC0 := Aside0.mk hc0
  clear hr0 hc0
  have HB := Aside0.mk (Below.refl w.heap.size w)
  have H : (field_Without.l0 k a1 ([] : List (S33)) l0 (l0.length : Int) 0) = some r := h
  clear h
  have H' := Aside0.mk H
  clear H
  go_enter Tryd.func32, Tryd.ntmps32
  go_wp2
  go_loopg [5, 10] k (fun kq v5 v10 w' => ∃ (x5_1 : List (S33)) (x10_1 : Int), v10 = .int .i64 x10_1 ∧ Aside0 (field_Without.l0 kq a1 x5_1 l0 (l0.length : Int) x10_1 = some r) ∧ Aside0 (kq ≤ k) ∧ Aside0 (Kd.R k33 33 w' w.heap.size (fun _ => True) v5 x5_1) ∧ Aside0 (Below w.heap.size w w'))
  case atStart => exact ⟨(([] : List (S33))), (0), (by first | rfl | (simp; done) | (simp [*]; done)), H', ⟨Nat.le_refl _⟩, ⟨by first | exact Kd.R_nil _ _ _ _ _ | exact Kd.N_nil _ _ _ _ _ | exact Kd.V_nil _ _ _ _ _ | exact Kd.Q_nil _ _ _ _ _ | exact Kd.S_nil _ _ _ _ _⟩, ⟨by repeat (first | (with_reducible first | exact HB.out | apply below_alloc | apply pw_below_drewN | apply below_drew1) | exact HB.out)⟩⟩
  case round =>
    clear H'
    try clear p2
    obtain ⟨x5_1, x10_1, rfl, HA, HK1, HO_5, HB⟩ := hrel
    cases gk with
    | zero => exact absurd HA.out (by simp [field_Without.l0])
    | succ k1 =>
      have H := HA.out
      clear HA
      simp only [field_Without.l0] at H
      by_cases c3 : x10_1 < (l0.length : Int)
      · rw [if_pos c3] at H
        have c3b0 : decide (x10_1 < (l0.length : Int)) = true := decide_eq_true c3
        clear c3
        by_cases c4 : 0 ≤ x10_1
        · rw [if_pos c4] at H
          have c4b0 : decide (0 ≤ x10_1) = true := decide_eq_true c4
          clear c4
          by_cases c5 : x10_1 < (l0.length : Int)
          · rw [if_pos c5] at H
            have c5b0 : decide (x10_1 < (l0.length : Int)) = true := decide_eq_true c5
            clear c5
            replace H := Option.bind_eq_some_iff.mp H
            obtain ⟨t297, A60, H⟩ := H
            replace H : (if t297 = true then (field_Without.l0 k1 a1 x5_1 l0 (l0.length : Int) (wrap64 (x10_1 + 1))) else (if x5_1.length < 4398046511104 then (field_Without.l0 k1 a1 (x5_1 ++ [(⟨(rd_T33 l0 x10_1).f0, (rd_T33 l0 x10_1).f1⟩ : S33)]) l0 (l0.length : Int) (wrap64 (x10_1 + 1))) else (none))) = some r := H
            have A6 := Aside0.mk A60
            clear A60
            by_cases c7 : t297 = true
            · subst c7
              have H1 : (field_Without.l0 k1 a1 x5_1 l0 (l0.length : Int) (wrap64 (x10_1 + 1))) = some r := by rw [if_pos rfl] at H; exact H
              clear H
              have H := H1
              clear H1
              have H' := Aside0.mk H
              clear H
              have p295 : 0 ≤ (x10_1 : Int) := of_decide_eq_true (by first | (with_reducible assumption) | assumption)
              have q295 : x10_1 < (l0.length : Int) := of_decide_eq_true (by first | (with_reducible assumption) | assumption)
              obtain ⟨ad295, e295, hx295_0, hx295_1⟩ := at_T33 HR0.out x10_1 p295 q295
              cases e295
              replace hx295_0 := (HB.out.cell (World.block_lt_of_cell? w _ hx295_0)).trans hx295_0
              replace hx295_1 := (HB.out.cell (World.block_lt_of_cell? w _ hx295_1)).trans hx295_1
              replace p295 := eq_true p295
              replace q295 := eq_true q295
              go_wp2_with (first | ((with_reducible refine gate_dst (N := 7) rfl ?_); refine box_event ?hg (N := 7) ?hd (cs := #[.string (⟨#[]⟩ : ByteArray), .string (⟨#[]⟩ : ByteArray)]) (t := 33) ?hr ?_; (case hd => rfl); (case hg => rfl); (case hr => first | (go_simp; done) | (go_simp; rfl)); intro gb296 hg w8 hbox hb; have n0_ := Aside0.mk (Kd.R_below (Kd.R_elderB (by (with_reducible repeat (first | apply Kd.R_alloc | apply Kd.R_drewN | apply Kd.R_drew)); exact HO_5.out) gb296 (Nat.le_of_eq hg.symm)) hb); have n1_ := Aside0.mk (below_step (by repeat (first | (with_reducible first | exact HB.out | apply below_alloc | apply pw_below_drewN | apply below_drew1) | exact HB.out)) hb); have n2_ := Aside0.mk (hbox); have n3_ := Aside0.mk ((by rw [hg]; exact (below_size (by repeat (first | (with_reducible first | exact HB.out | apply below_alloc | apply pw_below_drewN | apply below_drew1) | exact HB.out))) : w.heap.size ≤ gb296)); have n4_ := Aside0.mk ((by rw [hg]; exact (below_size (by repeat (first | (with_reducible first | exact HB.out | apply below_alloc | apply pw_below_drewN | apply below_drew1) | exact HB.out))) : w.heap.size ≤ gb296)); clear HO_5; clear HB; have HO_5 := n0_; have HB := n1_; have BK296 := n2_; have GW296 := n3_; have GE296 := n4_; clear n0_ n1_ n2_ n3_ n4_; clear hb hbox hg; have hcz9_0 : w8.cell? ⟨gb296, 0, none⟩ = some (.string (⟨#[]⟩ : ByteArray)) := (blk_cell BK296.out 0).trans rfl; have hcz9_1 : w8.cell? ⟨gb296, 1, none⟩ = some (.string (⟨#[]⟩ : ByteArray)) := (blk_cell BK296.out 1).trans rfl; have hfz9_0 := blk_frozen BK296.out 0; have hfz9_1 := blk_frozen BK296.out 1) | ((with_reducible refine gate_callee (f := 46) rfl ?_); refine goesL_ (some 17) rfl rfl Tryd.func46 (by kernel_rfl) rfl #[.string ((rd_T33 l0 x10_1).f0), .string a1] rfl (by (try simp only [List.map_toArray, List.map_cons, List.map_nil]); first | done | rfl | (simp only [List.length_drop, List.length_take]; rfl)) ?_; (with_reducible refine (field_alike.calls k1 ((rd_T33 l0 x10_1).f0) a1 true _ A6.out).mono ?_); rintro e w' ⟨rfl, ⟨nd, rfl⟩⟩; refine ⟨_, rfl, ?_⟩))
              go_roundg k1
              case measure => have := HK1.out; omega
              case rel => exact ⟨(x5_1), (wrap64 (x10_1 + 1)), (by first | rfl | (simp; done) | (simp [*]; done)), H', ⟨by have := HK1.out; omega⟩, ⟨by (with_reducible repeat (first | apply Kd.R_alloc | apply Kd.R_drewN | apply Kd.R_drew)); exact Kd.R_mono (Kd.R_far (p := ⟨gb296, 1, none⟩) (Kd.R_far (p := ⟨gb296, 0, none⟩) (Kd.R_mono HO_5.out (fun k_ hk => (⟨hk, hk.2⟩ : _ ∧ k_ ≠ gb296))) (fun _ hk => hk.2) (.string ((rd_T33 l0 x10_1).f0))) (fun _ hk => hk.2) (.string ((rd_T33 l0 x10_1).f1))) (fun _ hk => trivial)⟩, ⟨by repeat (first | (with_reducible first | exact HB.out | apply below_alloc | apply pw_below_drewN | apply below_drew1 | refine below_set ?_ GE296.out) | exact HB.out)⟩⟩
            · replace c7 := Bool.eq_false_iff.mpr c7
              subst c7
              have H1 : (if x5_1.length < 4398046511104 then (field_Without.l0 k1 a1 (x5_1 ++ [(⟨(rd_T33 l0 x10_1).f0, (rd_T33 l0 x10_1).f1⟩ : S33)]) l0 (l0.length : Int) (wrap64 (x10_1 + 1))) else (none)) = some r := by rw [if_neg (show ¬ (false = true) by decide)] at H; exact H
              clear H
              have H := H1
              clear H1
              by_cases c10 : x5_1.length < 4398046511104
              · rw [if_pos c10] at H
                have LMc10 := Aside0.mk c10
                clear c10
                obtain ⟨y298, hy298⟩ : ∃ y_ : List (S33), y_ = (x5_1 ++ [(⟨(rd_T33 l0 x10_1).f0, (rd_T33 l0 x10_1).f1⟩ : S33)]) := ⟨_, rfl⟩
                replace H : (field_Without.l0 k1 a1 y298 l0 (l0.length : Int) (wrap64 (x10_1 + 1))) = some r := by first | (rw [hy298]; with_reducible exact H) | (have H2_ := (Option.bind_some _ _).symm.trans H; rw [hy298]; with_reducible exact H2_) | (have H2_ := (Option.bind_some _ _).symm.trans H; with_reducible exact H2_) | with_reducible exact H | (rw [hy298]; exact H) | exact H
                have Ny298 := Aside0.mk hy298
                clear hy298
                have H' := Aside0.mk H
                clear H
                have p295 : 0 ≤ (x10_1 : Int) := of_decide_eq_true (by first | (with_reducible assumption) | assumption)
                have q295 : x10_1 < (l0.length : Int) := of_decide_eq_true (by first | (with_reducible assumption) | assumption)
                obtain ⟨ad295, e295, hx295_0, hx295_1⟩ := at_T33 HR0.out x10_1 p295 q295
                cases e295
                replace hx295_0 := (HB.out.cell (World.block_lt_of_cell? w _ hx295_0)).trans hx295_0
                replace hx295_1 := (HB.out.cell (World.block_lt_of_cell? w _ hx295_1)).trans hx295_1
                replace p295 := eq_true p295
                replace q295 := eq_true q295
                go_wp2_with (first | ((with_reducible refine gate_dst (N := 7) rfl ?_); refine box_event ?hg (N := 7) ?hd (cs := #[.string (⟨#[]⟩ : ByteArray), .string (⟨#[]⟩ : ByteArray)]) (t := 33) ?hr ?_; (case hd => rfl); (case hg => rfl); (case hr => first | (go_simp; done) | (go_simp; rfl)); intro gb296 hg w11 hbox hb; have n0_ := Aside0.mk (Kd.R_below (Kd.R_elderB (by (with_reducible repeat (first | apply Kd.R_alloc | apply Kd.R_drewN | apply Kd.R_drew)); exact HO_5.out) gb296 (Nat.le_of_eq hg.symm)) hb); have n1_ := Aside0.mk (below_step (by repeat (first | (with_reducible first | exact HB.out | apply below_alloc | apply pw_below_drewN | apply below_drew1) | exact HB.out)) hb); have n2_ := Aside0.mk (hbox); have n3_ := Aside0.mk ((by rw [hg]; exact (below_size (by repeat (first | (with_reducible first | exact HB.out | apply below_alloc | apply pw_below_drewN | apply below_drew1) | exact HB.out))) : w.heap.size ≤ gb296)); have n4_ := Aside0.mk ((by rw [hg]; exact (below_size (by repeat (first | (with_reducible first | exact HB.out | apply below_alloc | apply pw_below_drewN | apply below_drew1) | exact HB.out))) : w.heap.size ≤ gb296)); clear HO_5; clear HB; have HO_5 := n0_; have HB := n1_; have BK296 := n2_; have GW296 := n3_; have GE296 := n4_; clear n0_ n1_ n2_ n3_ n4_; clear hb hbox hg; have hcz12_0 : w11.cell? ⟨gb296, 0, none⟩ = some (.string (⟨#[]⟩ : ByteArray)) := (blk_cell BK296.out 0).trans rfl; have hcz12_1 : w11.cell? ⟨gb296, 1, none⟩ = some (.string (⟨#[]⟩ : ByteArray)) := (blk_cell BK296.out 1).trans rfl; have hfz12_0 := blk_frozen BK296.out 0; have hfz12_1 := blk_frozen BK296.out 1) | ((with_reducible refine gate_callee (f := 46) rfl ?_); refine goesL_ (some 17) rfl rfl Tryd.func46 (by kernel_rfl) rfl #[.string ((rd_T33 l0 x10_1).f0), .string a1] rfl (by (try simp only [List.map_toArray, List.map_cons, List.map_nil]); first | done | rfl | (simp only [List.length_drop, List.length_take]; rfl)) ?_; (with_reducible refine (field_alike.calls k1 ((rd_T33 l0 x10_1).f0) a1 false _ A6.out).mono ?_); rintro e w' ⟨rfl, ⟨nd, rfl⟩⟩; refine ⟨_, rfl, ?_⟩) | ((with_reducible refine gate_builtin (b := .append) (xs := #[.tmp 19, .tmp 21]) rfl ?_); at_builtin; refine Kd.R_append k33 (w0 := w) w.heap.size rfl (.tmp 19) (.tmp 21) 35 33 (.agg #[(.string ⟨#[]⟩), (.string ⟨#[]⟩)]) 32 rfl Tryd.underlying35 info33 rfl (by decide) (by omega) u5 x5_1 (⟨(rd_T33 l0 x10_1).f0, (rd_T33 l0 x10_1).f1⟩ : S33) [.string ((rd_T33 l0 x10_1).f0), .string ((rd_T33 l0 x10_1).f1)] (fun k_ => k_ ≠ gb296) (fun _ => False) rfl (by first | (go_simp; done) | (go_simp; rfl)) ?aP (fun _ hk => hk.elim) ?aF ?aO ?aB ?aS ?aL ?_; (case aP => exact k33_mkM _ _ _ (⟨(rd_T33 l0 x10_1).f0, (rd_T33 l0 x10_1).f1⟩ : S33)); (case aB => exact (by repeat (first | (with_reducible first | exact HB.out | apply below_alloc | apply pw_below_drewN | apply below_drew1 | refine below_set ?_ GE296.out) | exact HB.out))); (case aF => exact (fun k_ hk => Kd.freshB (g := gb296) (o := .cells #[.string ((rd_T33 l0 x10_1).f0), .string ((rd_T33 l0 x10_1).f1)] 33 (0, 0)) (by (with_reducible repeat (first | refine blk_drewN ?_ _ | refine blk_drew ?_ | refine blk_alloc ?_ _)); refine blk_put (cs := #[.string ((rd_T33 l0 x10_1).f0), .string (⟨#[]⟩ : ByteArray)]) ?_ 1 _ rfl; (with_reducible repeat (first | refine blk_drewN ?_ _ | refine blk_drew ?_ | refine blk_alloc ?_ _)); refine blk_put (cs := #[.string (⟨#[]⟩ : ByteArray), .string (⟨#[]⟩ : ByteArray)]) ?_ 0 _ rfl; (with_reducible repeat (first | refine blk_drewN ?_ _ | refine blk_drew ?_ | refine blk_alloc ?_ _)); exact BK296.out) k_ hk)); (case aO => exact (by (with_reducible repeat (first | apply Kd.R_alloc | apply Kd.R_drewN | apply Kd.R_drew)); exact Kd.R_mono (Kd.R_far (p := ⟨gb296, 1, none⟩) (Kd.R_far (p := ⟨gb296, 0, none⟩) (Kd.R_mono HO_5.out (fun k_ hk => (⟨hk, hk.2⟩ : _ ∧ k_ ≠ gb296))) (fun _ hk => hk.2) (.string ((rd_T33 l0 x10_1).f0))) (fun _ hk => hk.2) (.string ((rd_T33 l0 x10_1).f1))) (fun _ hk => hk.1.2))); (case aS => exact (below_size (by repeat (first | (with_reducible first | exact HB.out | apply below_alloc | apply pw_below_drewN | apply below_drew1 | refine below_set ?_ GE296.out) | exact HB.out)))); (case aL => have := LMc10.out; omega); intro v299 w13 ho hb hg hat; rw [← Ny298.out] at ho; have n0_ := Aside0.mk (blk_grown (g := gb296) (o := .cells #[.string ((rd_T33 l0 x10_1).f0), .string ((rd_T33 l0 x10_1).f1)] 33 (0, 0)) (by (with_reducible repeat (first | refine blk_drewN ?_ _ | refine blk_drew ?_ | refine blk_alloc ?_ _)); refine blk_put (cs := #[.string ((rd_T33 l0 x10_1).f0), .string (⟨#[]⟩ : ByteArray)]) ?_ 1 _ rfl; (with_reducible repeat (first | refine blk_drewN ?_ _ | refine blk_drew ?_ | refine blk_alloc ?_ _)); refine blk_put (cs := #[.string (⟨#[]⟩ : ByteArray), .string (⟨#[]⟩ : ByteArray)]) ?_ 0 _ rfl; (with_reducible repeat (first | refine blk_drewN ?_ _ | refine blk_drew ?_ | refine blk_alloc ?_ _)); exact BK296.out) hg (Kd.R_away HO_5.out (fun _ hk => hk.2))); have n1_ := Aside0.mk (hb); have n2_ := Aside0.mk (ho); clear BK296; clear HB; clear HO_5; have BK296 := n0_; have HB := n1_; have HO300 := n2_; clear n0_ n1_ n2_; clear ho hb hg hat))
                go_roundg k1
                case measure => have := HK1.out; omega
                case rel => exact ⟨(y298), (wrap64 (x10_1 + 1)), (by first | rfl | (simp; done) | (simp [*]; done)), H', ⟨by have := HK1.out; omega⟩, ⟨by (with_reducible repeat (first | apply Kd.R_alloc | apply Kd.R_drewN | apply Kd.R_drew)); exact Kd.R_mono HO300.out (fun _ hk => trivial)⟩, ⟨by repeat (first | (with_reducible first | exact HB.out | apply below_alloc | apply pw_below_drewN | apply below_drew1 | refine below_set ?_ GE296.out) | exact HB.out)⟩⟩
              · rw [if_neg c10] at H
                exact absurd H (by simp)
          · rw [if_neg c5] at H
            exact absurd H (by simp)
        · rw [if_neg c4] at H
          exact absurd H (by simp)
      · rw [if_neg c3] at H
        have c3b0 : decide (x10_1 < (l0.length : Int)) = false := decide_eq_false c3
        clear c3
        obtain rfl := Option.some.inj H
        go_wp2
        go_ret
        exact ⟨_, by first | rfl | (simp [errW_none, errW_some] <;> rfl) | (simp [*, errW_none, errW_some] <;> rfl), by (with_reducible repeat (first | apply Kd.R_alloc | apply Kd.R_drewN | apply Kd.R_drew)); exact HO_5.out, by repeat (first | (with_reducible first | exact HB.out | apply below_alloc | apply pw_below_drewN | apply below_drew1) | exact HB.out)⟩

/-! ### mandolineref07_Without: function 33 -/
def mandolineref07_Without.l0 : Nat → ByteArray → List (S33) → List (S33) → Int → Int → Option ((List (S33)))
  | 0, _, _, _, _, _ => none
  | k + 1, x1, x5, x8, x9, x10 => if x10 < x9 then (if 0 ≤ x10 then (if x10 < (x8.length : Int) then ((mandolineref07_Alike.f ((rd_T33 x8 x10).f0) x1).bind fun t303 => (if t303 = true then (mandolineref07_Without.l0 k x1 x5 x8 x9 (wrap64 (x10 + 1))) else (if x5.length < 4398046511104 then (mandolineref07_Without.l0 k x1 (x5 ++ [(⟨(rd_T33 x8 x10).f0, (rd_T33 x8 x10).f1⟩ : S33)]) x8 x9 (wrap64 (x10 + 1))) else (none)))) else (none)) else (none)) else (some x5)
def mandolineref07_Without.f (k : Nat) (l0 : List (S33)) (a1 : ByteArray) : Option ((List (S33))) := mandolineref07_Without.l0 k a1 ([] : List (S33)) l0 (l0.length : Int) 0
theorem mandolineref07_Without.mono_l : ∀ k, (∀ y0 y1 y2 y3 y4, LeO (mandolineref07_Without.l0 k y0 y1 y2 y3 y4) (mandolineref07_Without.l0 (k + 1) y0 y1 y2 y3 y4))
  | 0 => fun _ _ _ _ _ r h => by simp [mandolineref07_Without.l0] at h
  | k + 1 => by
    have ih0 := mandolineref07_Without.mono_l k
    · intro y0 y1 y2 y3 y4
      unfold mandolineref07_Without.l0
      repeat' first
      | (with_reducible exact ih0 _ _ _ _ _)
      | (with_reducible exact LeO.refl _)
      | (with_reducible exact LeO.none _)
      | (with_reducible refine LeO.ite ?_ ?_)
      | (with_reducible refine LeO.bind ?_ (fun _ => ?_))
      | exact ih0 _ _ _ _ _
      | exact LeO.none _
      | refine LeO.ite ?_ ?_
      | refine LeO.bind ?_ (fun _ => ?_)
theorem mandolineref07_Without.mono : ∀ a0 a1 k, LeO (mandolineref07_Without.f k a0 a1) (mandolineref07_Without.f (k + 1) a0 a1) := by
  intro a0 a1 k
  have ih0 := mandolineref07_Without.mono_l k
  unfold mandolineref07_Without.f
  repeat' first
      | (with_reducible exact ih0 _ _ _ _ _)
      | (with_reducible exact LeO.refl _)
      | (with_reducible exact LeO.none _)
      | (with_reducible refine LeO.ite ?_ ?_)
      | (with_reducible refine LeO.bind ?_ (fun _ => ?_))
      | exact ih0 _ _ _ _ _
      | exact LeO.none _
      | refine LeO.ite ?_ ?_
      | refine LeO.bind ?_ (fun _ => ?_)
set_option maxHeartbeats 8000000 in
set_option maxRecDepth 100000 in
theorem mandolineref07_Without.calls (k : Nat) (A0 : Option Addr) (c0 : Nat) (l0 : List (S33)) (a1 : ByteArray) (r : List (S33)) (w : World) (hr0 : Kd.C k33 w A0 l0.length l0) (hc0 : l0.length ≤ c0) (h : mandolineref07_Without.f k l0 a1 = some r) :
    Calls Tryd.prog 33 #[.slice A0 l0.length c0, .string a1] w fun e w' => ∃ v0_ : Value, e = .returned (v0_) ∧ Kd.R k33 33 w' w.heap.size (fun _ => True) v0_ r ∧ Below w.heap.size w w' := by
  have hu33 := Tryd.underlying33
  have HR0 := Aside0.mk hr0
  have HC0 := Aside0.mk hc0
  clear hr0 hc0
  have HB := Aside0.mk (Below.refl w.heap.size w)
  have H : (mandolineref07_Without.l0 k a1 ([] : List (S33)) l0 (l0.length : Int) 0) = some r := h
  clear h
  have H' := Aside0.mk H
  clear H
  go_enter Tryd.func33, Tryd.ntmps33
  go_wp2
  go_loopg [5, 10] k (fun kq v5 v10 w' => ∃ (x5_1 : List (S33)) (x10_1 : Int), v10 = .int .i64 x10_1 ∧ Aside0 (mandolineref07_Without.l0 kq a1 x5_1 l0 (l0.length : Int) x10_1 = some r) ∧ Aside0 (kq ≤ k) ∧ Aside0 (Kd.R k33 33 w' w.heap.size (fun _ => True) v5 x5_1) ∧ Aside0 (Below w.heap.size w w'))
  case atStart => exact ⟨(([] : List (S33))), (0), (by first | rfl | (simp; done) | (simp [*]; done)), H', ⟨Nat.le_refl _⟩, ⟨by first | exact Kd.R_nil _ _ _ _ _ | exact Kd.N_nil _ _ _ _ _ | exact Kd.V_nil _ _ _ _ _ | exact Kd.Q_nil _ _ _ _ _ | exact Kd.S_nil _ _ _ _ _⟩, ⟨by repeat (first | (with_reducible first | exact HB.out | apply below_alloc | apply pw_below_drewN | apply below_drew1) | exact HB.out)⟩⟩
  case round =>
    clear H'
    try clear p2
    obtain ⟨x5_1, x10_1, rfl, HA, HK1, HO_5, HB⟩ := hrel
    cases gk with
    | zero => exact absurd HA.out (by simp [mandolineref07_Without.l0])
    | succ k1 =>
      have H := HA.out
      clear HA
      simp only [mandolineref07_Without.l0] at H
      by_cases c3 : x10_1 < (l0.length : Int)
      · rw [if_pos c3] at H
        have c3b0 : decide (x10_1 < (l0.length : Int)) = true := decide_eq_true c3
        clear c3
        by_cases c4 : 0 ≤ x10_1
        · rw [if_pos c4] at H
          have c4b0 : decide (0 ≤ x10_1) = true := decide_eq_true c4
          clear c4
          by_cases c5 : x10_1 < (l0.length : Int)
          · rw [if_pos c5] at H
            have c5b0 : decide (x10_1 < (l0.length : Int)) = true := decide_eq_true c5
            clear c5
            replace H := Option.bind_eq_some_iff.mp H
            obtain ⟨t303, A60, H⟩ := H
            replace H : (if t303 = true then (mandolineref07_Without.l0 k1 a1 x5_1 l0 (l0.length : Int) (wrap64 (x10_1 + 1))) else (if x5_1.length < 4398046511104 then (mandolineref07_Without.l0 k1 a1 (x5_1 ++ [(⟨(rd_T33 l0 x10_1).f0, (rd_T33 l0 x10_1).f1⟩ : S33)]) l0 (l0.length : Int) (wrap64 (x10_1 + 1))) else (none))) = some r := H
            have A6 := Aside0.mk A60
            clear A60
            by_cases c7 : t303 = true
            · subst c7
              have H1 : (mandolineref07_Without.l0 k1 a1 x5_1 l0 (l0.length : Int) (wrap64 (x10_1 + 1))) = some r := by rw [if_pos rfl] at H; exact H
              clear H
              have H := H1
              clear H1
              have H' := Aside0.mk H
              clear H
              have p301 : 0 ≤ (x10_1 : Int) := of_decide_eq_true (by first | (with_reducible assumption) | assumption)
              have q301 : x10_1 < (l0.length : Int) := of_decide_eq_true (by first | (with_reducible assumption) | assumption)
              obtain ⟨ad301, e301, hx301_0, hx301_1⟩ := at_T33 HR0.out x10_1 p301 q301
              cases e301
              replace hx301_0 := (HB.out.cell (World.block_lt_of_cell? w _ hx301_0)).trans hx301_0
              replace hx301_1 := (HB.out.cell (World.block_lt_of_cell? w _ hx301_1)).trans hx301_1
              replace p301 := eq_true p301
              replace q301 := eq_true q301
              go_wp2_with (first | ((with_reducible refine gate_dst (N := 7) rfl ?_); refine box_event ?hg (N := 7) ?hd (cs := #[.string (⟨#[]⟩ : ByteArray), .string (⟨#[]⟩ : ByteArray)]) (t := 33) ?hr ?_; (case hd => rfl); (case hg => rfl); (case hr => first | (go_simp; done) | (go_simp; rfl)); intro gb302 hg w8 hbox hb; have n0_ := Aside0.mk (Kd.R_below (Kd.R_elderB (by (with_reducible repeat (first | apply Kd.R_alloc | apply Kd.R_drewN | apply Kd.R_drew)); exact HO_5.out) gb302 (Nat.le_of_eq hg.symm)) hb); have n1_ := Aside0.mk (below_step (by repeat (first | (with_reducible first | exact HB.out | apply below_alloc | apply pw_below_drewN | apply below_drew1) | exact HB.out)) hb); have n2_ := Aside0.mk (hbox); have n3_ := Aside0.mk ((by rw [hg]; exact (below_size (by repeat (first | (with_reducible first | exact HB.out | apply below_alloc | apply pw_below_drewN | apply below_drew1) | exact HB.out))) : w.heap.size ≤ gb302)); have n4_ := Aside0.mk ((by rw [hg]; exact (below_size (by repeat (first | (with_reducible first | exact HB.out | apply below_alloc | apply pw_below_drewN | apply below_drew1) | exact HB.out))) : w.heap.size ≤ gb302)); clear HO_5; clear HB; have HO_5 := n0_; have HB := n1_; have BK302 := n2_; have GW302 := n3_; have GE302 := n4_; clear n0_ n1_ n2_ n3_ n4_; clear hb hbox hg; have hcz9_0 : w8.cell? ⟨gb302, 0, none⟩ = some (.string (⟨#[]⟩ : ByteArray)) := (blk_cell BK302.out 0).trans rfl; have hcz9_1 : w8.cell? ⟨gb302, 1, none⟩ = some (.string (⟨#[]⟩ : ByteArray)) := (blk_cell BK302.out 1).trans rfl; have hfz9_0 := blk_frozen BK302.out 0; have hfz9_1 := blk_frozen BK302.out 1) | ((with_reducible refine gate_callee (f := 47) rfl ?_); refine goesL_ (some 17) rfl rfl Tryd.func47 (by kernel_rfl) rfl #[.string ((rd_T33 l0 x10_1).f0), .string a1] rfl (by (try simp only [List.map_toArray, List.map_cons, List.map_nil]); first | done | rfl | (simp only [List.length_drop, List.length_take]; rfl)) ?_; (with_reducible refine (mandolineref07_Alike.calls ((rd_T33 l0 x10_1).f0) a1 true _ A6.out).mono ?_); rintro e w10 ⟨rfl, hb⟩; refine ⟨_, rfl, ?_⟩; have n0_ := Aside0.mk (Kd.R_below (by (with_reducible repeat (first | apply Kd.R_alloc | apply Kd.R_drewN | apply Kd.R_drew)); exact (Kd.R_mono (Kd.R_far (p := ⟨gb302, 1, none⟩) (Kd.R_far (p := ⟨gb302, 0, none⟩) (Kd.R_mono HO_5.out (fun k_ hk => (⟨hk, hk.2⟩ : _ ∧ k_ ≠ gb302))) (fun _ hk => hk.2) (.string ((rd_T33 l0 x10_1).f0))) (fun _ hk => hk.2) (.string ((rd_T33 l0 x10_1).f1))) (fun _ h_ => h_.1))) hb); have n1_ := Aside0.mk (blk_below (g := gb302) (o := .cells #[.string ((rd_T33 l0 x10_1).f0), .string ((rd_T33 l0 x10_1).f1)] 33 (0, 0)) (by (with_reducible repeat (first | refine blk_drewN ?_ _ | refine blk_drew ?_ | refine blk_alloc ?_ _)); refine blk_put (cs := #[.string ((rd_T33 l0 x10_1).f0), .string (⟨#[]⟩ : ByteArray)]) ?_ 1 _ rfl; (with_reducible repeat (first | refine blk_drewN ?_ _ | refine blk_drew ?_ | refine blk_alloc ?_ _)); refine blk_put (cs := #[.string (⟨#[]⟩ : ByteArray), .string (⟨#[]⟩ : ByteArray)]) ?_ 0 _ rfl; (with_reducible repeat (first | refine blk_drewN ?_ _ | refine blk_drew ?_ | refine blk_alloc ?_ _)); exact BK302.out) hb); have n2_ := Aside0.mk (below_step (by repeat (first | (with_reducible first | exact HB.out | apply below_alloc | apply pw_below_drewN | apply below_drew1 | refine below_set ?_ GE302.out) | exact HB.out)) hb); clear HO_5; clear BK302; clear HB; have HO_5 := n0_; have BK302 := n1_; have HB := n2_; clear n0_ n1_ n2_; (try clear hb); (try clear hb2); (try clear hk); (try clear hi)))
              go_roundg k1
              case measure => have := HK1.out; omega
              case rel => exact ⟨(x5_1), (wrap64 (x10_1 + 1)), (by first | rfl | (simp; done) | (simp [*]; done)), H', ⟨by have := HK1.out; omega⟩, ⟨by (with_reducible repeat (first | apply Kd.R_alloc | apply Kd.R_drewN | apply Kd.R_drew)); exact Kd.R_mono HO_5.out (fun _ hk => trivial)⟩, ⟨by repeat (first | (with_reducible first | exact HB.out | apply below_alloc | apply pw_below_drewN | apply below_drew1 | refine below_set ?_ GE302.out) | exact HB.out)⟩⟩
            · replace c7 := Bool.eq_false_iff.mpr c7
              subst c7
              have H1 : (if x5_1.length < 4398046511104 then (mandolineref07_Without.l0 k1 a1 (x5_1 ++ [(⟨(rd_T33 l0 x10_1).f0, (rd_T33 l0 x10_1).f1⟩ : S33)]) l0 (l0.length : Int) (wrap64 (x10_1 + 1))) else (none)) = some r := by rw [if_neg (show ¬ (false = true) by decide)] at H; exact H
              clear H
              have H := H1
              clear H1
              by_cases c11 : x5_1.length < 4398046511104
              · rw [if_pos c11] at H
                have LMc11 := Aside0.mk c11
                clear c11
                obtain ⟨y304, hy304⟩ : ∃ y_ : List (S33), y_ = (x5_1 ++ [(⟨(rd_T33 l0 x10_1).f0, (rd_T33 l0 x10_1).f1⟩ : S33)]) := ⟨_, rfl⟩
                replace H : (mandolineref07_Without.l0 k1 a1 y304 l0 (l0.length : Int) (wrap64 (x10_1 + 1))) = some r := by first | (rw [hy304]; with_reducible exact H) | (have H2_ := (Option.bind_some _ _).symm.trans H; rw [hy304]; with_reducible exact H2_) | (have H2_ := (Option.bind_some _ _).symm.trans H; with_reducible exact H2_) | with_reducible exact H | (rw [hy304]; exact H) | exact H
                have Ny304 := Aside0.mk hy304
                clear hy304
                have H' := Aside0.mk H
                clear H
                have p301 : 0 ≤ (x10_1 : Int) := of_decide_eq_true (by first | (with_reducible assumption) | assumption)
                have q301 : x10_1 < (l0.length : Int) := of_decide_eq_true (by first | (with_reducible assumption) | assumption)
                obtain ⟨ad301, e301, hx301_0, hx301_1⟩ := at_T33 HR0.out x10_1 p301 q301
                cases e301
                replace hx301_0 := (HB.out.cell (World.block_lt_of_cell? w _ hx301_0)).trans hx301_0
                replace hx301_1 := (HB.out.cell (World.block_lt_of_cell? w _ hx301_1)).trans hx301_1
                replace p301 := eq_true p301
                replace q301 := eq_true q301
                go_wp2_with (first | ((with_reducible refine gate_dst (N := 7) rfl ?_); refine box_event ?hg (N := 7) ?hd (cs := #[.string (⟨#[]⟩ : ByteArray), .string (⟨#[]⟩ : ByteArray)]) (t := 33) ?hr ?_; (case hd => rfl); (case hg => rfl); (case hr => first | (go_simp; done) | (go_simp; rfl)); intro gb302 hg w12 hbox hb; have n0_ := Aside0.mk (Kd.R_below (Kd.R_elderB (by (with_reducible repeat (first | apply Kd.R_alloc | apply Kd.R_drewN | apply Kd.R_drew)); exact HO_5.out) gb302 (Nat.le_of_eq hg.symm)) hb); have n1_ := Aside0.mk (below_step (by repeat (first | (with_reducible first | exact HB.out | apply below_alloc | apply pw_below_drewN | apply below_drew1) | exact HB.out)) hb); have n2_ := Aside0.mk (hbox); have n3_ := Aside0.mk ((by rw [hg]; exact (below_size (by repeat (first | (with_reducible first | exact HB.out | apply below_alloc | apply pw_below_drewN | apply below_drew1) | exact HB.out))) : w.heap.size ≤ gb302)); have n4_ := Aside0.mk ((by rw [hg]; exact (below_size (by repeat (first | (with_reducible first | exact HB.out | apply below_alloc | apply pw_below_drewN | apply below_drew1) | exact HB.out))) : w.heap.size ≤ gb302)); clear HO_5; clear HB; have HO_5 := n0_; have HB := n1_; have BK302 := n2_; have GW302 := n3_; have GE302 := n4_; clear n0_ n1_ n2_ n3_ n4_; clear hb hbox hg; have hcz13_0 : w12.cell? ⟨gb302, 0, none⟩ = some (.string (⟨#[]⟩ : ByteArray)) := (blk_cell BK302.out 0).trans rfl; have hcz13_1 : w12.cell? ⟨gb302, 1, none⟩ = some (.string (⟨#[]⟩ : ByteArray)) := (blk_cell BK302.out 1).trans rfl; have hfz13_0 := blk_frozen BK302.out 0; have hfz13_1 := blk_frozen BK302.out 1) | ((with_reducible refine gate_callee (f := 47) rfl ?_); refine goesL_ (some 17) rfl rfl Tryd.func47 (by kernel_rfl) rfl #[.string ((rd_T33 l0 x10_1).f0), .string a1] rfl (by (try simp only [List.map_toArray, List.map_cons, List.map_nil]); first | done | rfl | (simp only [List.length_drop, List.length_take]; rfl)) ?_; (with_reducible refine (mandolineref07_Alike.calls ((rd_T33 l0 x10_1).f0) a1 false _ A6.out).mono ?_); rintro e w14 ⟨rfl, hb⟩; refine ⟨_, rfl, ?_⟩; have n0_ := Aside0.mk (Kd.R_below (by (with_reducible repeat (first | apply Kd.R_alloc | apply Kd.R_drewN | apply Kd.R_drew)); exact (Kd.R_mono (Kd.R_far (p := ⟨gb302, 1, none⟩) (Kd.R_far (p := ⟨gb302, 0, none⟩) (Kd.R_mono HO_5.out (fun k_ hk => (⟨hk, hk.2⟩ : _ ∧ k_ ≠ gb302))) (fun _ hk => hk.2) (.string ((rd_T33 l0 x10_1).f0))) (fun _ hk => hk.2) (.string ((rd_T33 l0 x10_1).f1))) (fun _ h_ => h_.1))) hb); have n1_ := Aside0.mk (blk_below (g := gb302) (o := .cells #[.string ((rd_T33 l0 x10_1).f0), .string ((rd_T33 l0 x10_1).f1)] 33 (0, 0)) (by (with_reducible repeat (first | refine blk_drewN ?_ _ | refine blk_drew ?_ | refine blk_alloc ?_ _)); refine blk_put (cs := #[.string ((rd_T33 l0 x10_1).f0), .string (⟨#[]⟩ : ByteArray)]) ?_ 1 _ rfl; (with_reducible repeat (first | refine blk_drewN ?_ _ | refine blk_drew ?_ | refine blk_alloc ?_ _)); refine blk_put (cs := #[.string (⟨#[]⟩ : ByteArray), .string (⟨#[]⟩ : ByteArray)]) ?_ 0 _ rfl; (with_reducible repeat (first | refine blk_drewN ?_ _ | refine blk_drew ?_ | refine blk_alloc ?_ _)); exact BK302.out) hb); have n2_ := Aside0.mk (below_step (by repeat (first | (with_reducible first | exact HB.out | apply below_alloc | apply pw_below_drewN | apply below_drew1 | refine below_set ?_ GE302.out) | exact HB.out)) hb); clear HO_5; clear BK302; clear HB; have HO_5 := n0_; have BK302 := n1_; have HB := n2_; clear n0_ n1_ n2_; (try clear hb); (try clear hb2); (try clear hk); (try clear hi); have hcz15_0 : w14.cell? ⟨gb302, 0, none⟩ = some (.string ((rd_T33 l0 x10_1).f0)) := (blk_cell BK302.out 0).trans rfl; have hcz15_1 : w14.cell? ⟨gb302, 1, none⟩ = some (.string ((rd_T33 l0 x10_1).f1)) := (blk_cell BK302.out 1).trans rfl; have hfz15_0 := blk_frozen BK302.out 0; have hfz15_1 := blk_frozen BK302.out 1) | ((with_reducible refine gate_builtin (b := .append) (xs := #[.tmp 19, .tmp 21]) rfl ?_); at_builtin; refine Kd.R_append k33 (w0 := w) w.heap.size rfl (.tmp 19) (.tmp 21) 35 33 (.agg #[(.string ⟨#[]⟩), (.string ⟨#[]⟩)]) 32 rfl Tryd.underlying35 info33 rfl (by decide) (by omega) u5 x5_1 (⟨(rd_T33 l0 x10_1).f0, (rd_T33 l0 x10_1).f1⟩ : S33) [.string ((rd_T33 l0 x10_1).f0), .string ((rd_T33 l0 x10_1).f1)] (fun k_ => k_ ≠ gb302) (fun _ => False) rfl rfl ?aP (fun _ hk => hk.elim) ?aF ?aO ?aB ?aS ?aL ?_; (case aP => exact k33_mkM _ _ _ (⟨(rd_T33 l0 x10_1).f0, (rd_T33 l0 x10_1).f1⟩ : S33)); (case aB => exact (by repeat (first | (with_reducible first | exact HB.out | apply below_alloc | apply pw_below_drewN | apply below_drew1 | refine below_set ?_ GE302.out) | exact HB.out))); (case aF => exact (fun k_ hk => Kd.freshB (g := gb302) (o := .cells #[.string ((rd_T33 l0 x10_1).f0), .string ((rd_T33 l0 x10_1).f1)] 33 (0, 0)) (by (with_reducible repeat (first | refine blk_drewN ?_ _ | refine blk_drew ?_ | refine blk_alloc ?_ _)); exact BK302.out) k_ hk)); (case aO => exact (by (with_reducible repeat (first | apply Kd.R_alloc | apply Kd.R_drewN | apply Kd.R_drew)); exact Kd.R_mono HO_5.out (fun _ hk => hk.2))); (case aS => exact (below_size (by repeat (first | (with_reducible first | exact HB.out | apply below_alloc | apply pw_below_drewN | apply below_drew1 | refine below_set ?_ GE302.out) | exact HB.out)))); (case aL => have := LMc11.out; omega); intro v305 w16 ho hb hg hat; rw [← Ny304.out] at ho; have n0_ := Aside0.mk (blk_grown (g := gb302) (o := .cells #[.string ((rd_T33 l0 x10_1).f0), .string ((rd_T33 l0 x10_1).f1)] 33 (0, 0)) (by (with_reducible repeat (first | refine blk_drewN ?_ _ | refine blk_drew ?_ | refine blk_alloc ?_ _)); exact BK302.out) hg (Kd.R_away HO_5.out (fun _ hk => hk.2))); have n1_ := Aside0.mk (hb); have n2_ := Aside0.mk (ho); clear BK302; clear HB; clear HO_5; have BK302 := n0_; have HB := n1_; have HO306 := n2_; clear n0_ n1_ n2_; clear ho hb hg hat))
                go_roundg k1
                case measure => have := HK1.out; omega
                case rel => exact ⟨(y304), (wrap64 (x10_1 + 1)), (by first | rfl | (simp; done) | (simp [*]; done)), H', ⟨by have := HK1.out; omega⟩, ⟨by (with_reducible repeat (first | apply Kd.R_alloc | apply Kd.R_drewN | apply Kd.R_drew)); exact Kd.R_mono HO306.out (fun _ hk => trivial)⟩, ⟨by repeat (first | (with_reducible first | exact HB.out | apply below_alloc | apply pw_below_drewN | apply below_drew1 | refine below_set ?_ GE302.out) | exact HB.out)⟩⟩
              · rw [if_neg c11] at H
                exact absurd H (by simp)
          · rw [if_neg c5] at H
            exact absurd H (by simp)
        · rw [if_neg c4] at H
          exact absurd H (by simp)
      · rw [if_neg c3] at H
        have c3b0 : decide (x10_1 < (l0.length : Int)) = false := decide_eq_false c3
        clear c3
        obtain rfl := Option.some.inj H
        go_wp2
        go_ret
        exact ⟨_, by first | rfl | (simp [errW_none, errW_some] <;> rfl) | (simp [*, errW_none, errW_some] <;> rfl), by (with_reducible repeat (first | apply Kd.R_alloc | apply Kd.R_drewN | apply Kd.R_drew)); exact HO_5.out, by repeat (first | (with_reducible first | exact HB.out | apply below_alloc | apply pw_below_drewN | apply below_drew1) | exact HB.out)⟩

end Go.Proofs.YtcdjeofhhhffcaaDoor.X
