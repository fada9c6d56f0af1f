-- Printed by a program of this session (pp.py: the kit's print.py, run with contracts of its own) out of the translation. Not trusted: Lean checks it.
import Derived.Test.YtmapdckelbobiaaDoorX0
import Derived.Test.YtmapdckelbobiaaDoorX2
import Derived.Test.YtmapdckelbobiaaDoorX3
namespace Go.Proofs.YtmapdckelbobiaaDoor.X
open Go.RowKit Go.Proofs.YtmapdckelbobiaaDoorW.PrintWords Go.Proofs.YtmapdckelbobiaaDoorW.PrintLast Go.Proofs.YtmapdckelbobiaaDoorW.PrintMore
attribute [local go_sem] max2_int min2_int max_two min_two max_three min_three max_four min_four   -- for this text's walks alone
set_option linter.unusedVariables false
set_option linter.unusedSimpArgs false

/-! ### control_Parse: function 14 -/
abbrev control_Parse.R := Int × Int × Int × Int × Bool × Bool × Bool
def control_Parse.sayR (k : Nat) (r : control_Parse.R) (s : ByteArray) : Option control_Parse.R := control_Rule_say.f k r.1 r.2.1 r.2.2.1 r.2.2.2.1 r.2.2.2.2.1 r.2.2.2.2.2.1 r.2.2.2.2.2.2 s
def control_Parse.l1 (k : Nat) : List ByteArray → control_Parse.R → Option control_Parse.R
  | [], r => some r
  | d :: l, r => (control_Parse.sayR k r d).bind fun r' => control_Parse.l1 k l r'
def control_Parse.l0 (k : Nat) : List ByteArray → control_Parse.R → Option control_Parse.R
  | [], r => some r
  | v :: l, r => (control_directives.f k v).bind fun ds => (control_Parse.l1 k ds r).bind fun r' => control_Parse.l0 k l r'
def control_Parse.f (k : Nat) (l0 : List ByteArray) : Option (Int × Int × Int × Int × Bool × Bool × Bool) := control_Parse.l0 k l0 (-1, -1, -1, -1, false, false, false)
theorem control_Parse.mono1 (k : Nat) : ∀ (l : List ByteArray) (r : control_Parse.R), LeO (control_Parse.l1 k l r) (control_Parse.l1 (k + 1) l r)
  | [], r => LeO.refl _
  | d :: l, r => LeO.bind (control_Rule_say.mono _ _ _ _ _ _ _ _ k) (fun r' => control_Parse.mono1 k l r')
theorem control_Parse.mono0 (k : Nat) : ∀ (l : List ByteArray) (r : control_Parse.R), LeO (control_Parse.l0 k l r) (control_Parse.l0 (k + 1) l r)
  | [], r => LeO.refl _
  | v :: l, r => LeO.bind (control_directives.mono _ k) (fun ds => LeO.bind (control_Parse.mono1 k ds r) (fun r' => control_Parse.mono0 k l r'))
theorem control_Parse.mono : ∀ a0 k, LeO (control_Parse.f k a0) (control_Parse.f (k + 1) a0) := fun a0 k => control_Parse.mono0 k a0 _
def control_Parse.Is (w0 w : World) (g : Nat) (r : control_Parse.R) : Prop := IsS27 w0 w g r.1 r.2.1 r.2.2.1 r.2.2.2.1 r.2.2.2.2.1 r.2.2.2.2.2.1 r.2.2.2.2.2.2
def control_Parse.zs : Array Value := #[.int .i64 0, .int .i64 0, .int .i64 0, .int .i64 0, .bool false, .bool false, .bool false]
set_option maxHeartbeats 8000000 in
set_option maxRecDepth 100000 in
theorem control_Parse.calls (k : Nat) (A0 : Option Addr) (c0 : Nat) (l0 : List ByteArray) (q0 q1 q2 q3 : Int) (q4 q5 q6 : Bool) (w : World) (hG : Glob w) (hr0 : Kd.C Kd.string w A0 l0.length l0) (hc0 : l0.length ≤ c0) (h : control_Parse.f k l0 = some (q0, q1, q2, q3, q4, q5, q6)) :
    Calls Tryd.prog 14 #[.slice A0 l0.length c0] w fun e w' => e = .returned (.agg #[.int .i64 q0, .int .i64 q1, .int .i64 q2, .int .i64 q3, .bool q4, .bool q5, .bool q6]) ∧ Below w.heap.size w w' := by
  have hu27 := Tryd.underlying27
  have HG := Aside0.mk hG
  have HR := Aside0.mk hr0
  have HF := Aside0.mk (show control_Parse.l0 k l0 (-1, -1, -1, -1, false, false, false) = some (q0, q1, q2, q3, q4, q5, q6) from h)
  have hlen : (l0.length : Int) ≤ 9223372036854775807 := by have := hr0.2.1; omega
  have hl0 : (0 : Int) ≤ (l0.length : Int) := by omega
  clear hG hr0 h hc0
  go_enter Tryd.func14, Tryd.ntmps14
  go_wp2
  go_loopw [11] (fun v11 w' => ∃ (j : Nat) (r : control_Parse.R), v11 = .int .i64 j ∧ j ≤ l0.length ∧ Aside0 (control_Parse.l0 k (l0.drop j) r = some (q0, q1, q2, q3, q4, q5, q6)) ∧ Aside0 (control_Parse.Is w w' (w.heap.size + 1) r) ∧ Aside0 (w'.heap[w.heap.size]? = some (.cells control_Parse.zs 27 (0, 0))) ∧ Aside0 (Below w.heap.size w w')) (fun v11 _ => l0.length - (intOf v11).toNat)
  case atStart => exact ⟨0, _, rfl, Nat.zero_le _, ⟨HF.out⟩, ⟨⟨by simp [World.alloc, -World.alloc_eq, Array.getElem?_push, Array.getElem_push], by omega⟩⟩, ⟨by simp [World.alloc, -World.alloc_eq, Array.getElem?_push, Array.getElem_push, control_Parse.zs]; try omega⟩, ⟨below_alloc (below_alloc (Below.refl _ _) _) _⟩⟩
  case round =>
    clear HF
    obtain ⟨j, r, rfl, hj, HF, HI, HZ, HB⟩ := hrel
    by_cases hlt : j < l0.length
    · have H := HF.out
      clear HF
      rw [List.drop_eq_getElem_cons hlt, control_Parse.l0] at H
      obtain ⟨ad, e, hx⟩ := Kd.at_string HR.out (j : Int) (by omega) (by omega)
      cases e
      replace hx := (HB.out.cell (World.block_lt_of_cell? _ _ hx)).trans hx
      rw [show rdOf ByteArray.empty l0 (j : Int) = l0[j] by simp [rdOf, List.getD, hlt], Int.toNat_natCast] at hx
      generalize l0[j] = v at hx H
      have hlt' : ((j : Int) < (l0.length : Int)) := by omega
      have hj0 : (0 : Int) ≤ (j : Int) := by omega
      obtain ⟨ds, hds, H⟩ := Option.bind_eq_some_iff.mp H
      obtain ⟨r', hl1, H⟩ := Option.bind_eq_some_iff.mp H
      have HDS := Aside0.mk hds
      have HL1 := Aside0.mk hl1
      have HF := Aside0.mk H
      clear hds hl1 H
      go_wp2_with (go_at_call 26; (with_reducible refine (control_directives.calls k v ds _ HDS.out).mono ?_); rintro e wd ⟨vd, rfl, ho, hb⟩; obtain ⟨Ad, cd, ed, hd1, hd2⟩ := Kd.R_reads ho; subst ed; have HI1 := Aside0.mk (IsS27.below HI.out hb); have HZ1 := Aside0.mk ((hb.block _ (blk_lt HZ.out)).trans HZ.out); have HB1 := Aside0.mk (below_step HB.out hb); have HD := Aside0.mk (Kd.R_mono (ok' := fun k => k ≠ w.heap.size + 1) (Kd.R_bound ho) (fun kk hk => by have h1 := hk.2.1; have h2 := IsS27.lt HI.out; omega)); clear ho hb hd1 hd2 hx)
      have hdl : (ds.length : Int) ≤ 9223372036854775807 := by have := (Kd.R_reads' HD.out).2.2.2.1; omega
      have hd0 : (0 : Int) ≤ (ds.length : Int) := by omega
      go_loopw [18] (fun v18 w' => ∃ (i : Nat) (r1 : control_Parse.R), v18 = .int .i64 i ∧ i ≤ ds.length ∧ Aside0 (control_Parse.l1 k (ds.drop i) r1 = some r') ∧ Aside0 (control_Parse.Is w w' (w.heap.size + 1) r1) ∧ Aside0 (w'.heap[w.heap.size]? = some (.cells control_Parse.zs 27 (0, 0))) ∧ Aside0 (Below w.heap.size w w') ∧ Aside0 (Kd.R Kd.string 9 w' wr.heap.size (fun k => k ≠ w.heap.size + 1) (.slice Ad ds.length cd) ds)) (fun v18 _ => ds.length - (intOf v18).toNat)
      case atStart => exact ⟨0, _, rfl, Nat.zero_le _, ⟨HL1.out⟩, HI1, HZ1, HB1, HD⟩
      case round =>
        clear HI1 HZ1 HB1 HD HL1 HI HZ HB
        obtain ⟨i, r1, rfl, hi, HL1, HI, HZ, HB, HD⟩ := hrel
        by_cases hil : i < ds.length
        · have H := HL1.out
          clear HL1
          rw [List.drop_eq_getElem_cons hil, control_Parse.l1] at H
          obtain ⟨ad2, e2, hx2⟩ := Kd.at_string (Kd.R_reads' HD.out).2.2 (i : Int) (by omega) (by omega)
          cases e2
          rw [show rdOf ByteArray.empty ds (i : Int) = ds[i] by simp [rdOf, List.getD, hil], Int.toNat_natCast] at hx2
          generalize ds[i] = d at hx2 H
          have hil' : ((i : Int) < (ds.length : Int)) := by omega
          have hi0 : (0 : Int) ≤ (i : Int) := by omega
          obtain ⟨⟨p0, p1, p2, p3, p4, p5, p6⟩, hsay, H⟩ := Option.bind_eq_some_iff.mp H
          have HS := Aside0.mk hsay
          have HL1 := Aside0.mk H
          clear hsay H
          go_wp2_with (go_at_call 27; refine (control_Rule_say.calls k (w.heap.size + 1) _ _ _ _ _ _ _ d p0 p1 p2 p3 p4 p5 p6 w _ (Glob.below HG.out HB.out) HI.out HB.out HS.out).mono ?_; rintro e ws ⟨rfl, hi', hb', hk⟩; have HI2 := Aside0.mk hi'; have HB2 := Aside0.mk hb'; have HZ2 := Aside0.mk ((hk.2 _ (blk_lt HZ.out) (by omega) (by simp)).trans HZ.out); have HK := Aside0.mk hk; clear hi' hb' hk)
          exact ⟨⟨i + 1, (p0, p1, p2, p3, p4, p5, p6), by go_num, by omega, HL1, HI2, HZ2, HB2, ⟨Kd.R_step HD.out (fun kk hok hlt2 => HK.out.2 kk hlt2 hok (by simp))⟩⟩, by simp [intOf]; omega⟩
        · have hi' : i = ds.length := by omega
          have hil' : ¬ ((i : Int) < (ds.length : Int)) := by omega
          have H := HL1.out
          rw [hi', List.drop_of_length_le (Nat.le_refl _), control_Parse.l1] at H
          obtain rfl := Option.some.inj H
          clear H HL1 hi'
          go_wp2
          exact ⟨⟨j + 1, r1, by go_num, by omega, HF, HI, HZ, HB⟩, by simp [intOf]; omega⟩
    · have hj' : j = l0.length := by omega
      have hlt' : ¬ ((j : Int) < (l0.length : Int)) := by omega
      have H := HF.out
      rw [hj', List.drop_of_length_le (Nat.le_refl _), control_Parse.l0] at H
      obtain rfl := Option.some.inj H
      clear H HF hj'
      have hz := HZ.out
      have hz' : wr.heap[w.heap.size]? = some (.cells #[.int .i64 0, .int .i64 0, .int .i64 0, .int .i64 0, .bool false, .bool false, .bool false] 27 (0, 0)) := hz
      have z0 : wr.cell? ⟨w.heap.size, 0, none⟩ = some (.int .i64 0) := blk_cell hz' 0
      have z1 : wr.cell? ⟨w.heap.size, 1, none⟩ = some (.int .i64 0) := blk_cell hz' 1
      have z2 : wr.cell? ⟨w.heap.size, 2, none⟩ = some (.int .i64 0) := blk_cell hz' 2
      have z3 : wr.cell? ⟨w.heap.size, 3, none⟩ = some (.int .i64 0) := blk_cell hz' 3
      have z4 : wr.cell? ⟨w.heap.size, 4, none⟩ = some (.bool false) := blk_cell hz' 4
      have z5 : wr.cell? ⟨w.heap.size, 5, none⟩ = some (.bool false) := blk_cell hz' 5
      have z6 : wr.cell? ⟨w.heap.size, 6, none⟩ = some (.bool false) := blk_cell hz' 6
      have hI := HI.out
      obtain ⟨hib, hig⟩ := hI
      have y0 : wr.cell? ⟨w.heap.size + 1, 0, none⟩ = some (.int .i64 q0) := blk_cell hib 0
      have y1 : wr.cell? ⟨w.heap.size + 1, 1, none⟩ = some (.int .i64 q1) := blk_cell hib 1
      have y2 : wr.cell? ⟨w.heap.size + 1, 2, none⟩ = some (.int .i64 q2) := blk_cell hib 2
      have y3 : wr.cell? ⟨w.heap.size + 1, 3, none⟩ = some (.int .i64 q3) := blk_cell hib 3
      have y4 : wr.cell? ⟨w.heap.size + 1, 4, none⟩ = some (.bool q4) := blk_cell hib 4
      have y5 : wr.cell? ⟨w.heap.size + 1, 5, none⟩ = some (.bool q5) := blk_cell hib 5
      have y6 : wr.cell? ⟨w.heap.size + 1, 6, none⟩ = some (.bool q6) := blk_cell hib 6
      have f0 : wr.frozen? ⟨w.heap.size, 0, none⟩ = false := blk_frozen hz' 0
      have f1 : wr.frozen? ⟨w.heap.size, 1, none⟩ = false := blk_frozen hz' 1
      have f2 : wr.frozen? ⟨w.heap.size, 2, none⟩ = false := blk_frozen hz' 2
      have f3 : wr.frozen? ⟨w.heap.size, 3, none⟩ = false := blk_frozen hz' 3
      have f4 : wr.frozen? ⟨w.heap.size, 4, none⟩ = false := blk_frozen hz' 4
      have f5 : wr.frozen? ⟨w.heap.size, 5, none⟩ = false := blk_frozen hz' 5
      have f6 : wr.frozen? ⟨w.heap.size, 6, none⟩ = false := blk_frozen hz' 6
      have HZB := Aside0.mk hz'
      clear hz hz' hib hig HZ
      go_wp2
      refine bodyPost_ret (results_cell_row rfl _ _ w.heap.size 27 #[.int .i64 q0, .int .i64 q1, .int .i64 q2, .int .i64 q3, .bool q4, .bool q5, .bool q6] (0, 0) _ rfl (by exact (blk_put (cs' := #[.int .i64 q0, .int .i64 q1, .int .i64 q2, .int .i64 q3, .bool q4, .bool q5, .bool q6]) (blk_put (cs' := #[.int .i64 q0, .int .i64 q1, .int .i64 q2, .int .i64 q3, .bool q4, .bool q5, .bool false]) (blk_put (cs' := #[.int .i64 q0, .int .i64 q1, .int .i64 q2, .int .i64 q3, .bool q4, .bool false, .bool false]) (blk_put (cs' := #[.int .i64 q0, .int .i64 q1, .int .i64 q2, .int .i64 q3, .bool false, .bool false, .bool false]) (blk_put (cs' := #[.int .i64 q0, .int .i64 q1, .int .i64 q2, .int .i64 0, .bool false, .bool false, .bool false]) (blk_put (cs' := #[.int .i64 q0, .int .i64 q1, .int .i64 0, .int .i64 0, .bool false, .bool false, .bool false]) (blk_put (cs' := #[.int .i64 q0, .int .i64 0, .int .i64 0, .int .i64 0, .bool false, .bool false, .bool false]) HZB.out 0 _ rfl) 1 _ rfl) 2 _ rfl) 3 _ rfl) 4 _ rfl) 5 _ rfl) 6 _ rfl)) Tryd.underlying27 rfl (by kernel_rfl)) rfl ?_
      exact ⟨rfl, (below_set (below_set (below_set (below_set (below_set (below_set (below_set HB.out (Nat.le_refl _)) (Nat.le_refl _)) (Nat.le_refl _)) (Nat.le_refl _)) (Nat.le_refl _)) (Nat.le_refl _)) (Nat.le_refl _))⟩


/-! ### strconv_FormatInt: function 30 -/
def strconv_FormatInt.f (a0 : Int) (a1 : Int) : Option (ByteArray) := if a1 = 10 ∧ -9223372036854775808 ≤ a0 ∧ a0 ≤ 9223372036854775807 then some ⟨(Lib.itoa a0).toArray⟩ else none
theorem strconv_FormatInt.calls (a0 : Int) (a1 : Int) (r : ByteArray) (w : World) (hG : Glob w) (h : strconv_FormatInt.f a0 a1 = some r) :
    Calls Tryd.prog 30 #[.int .i64 a0, .int .i64 a1] w fun e w' => e = .returned (.string r) ∧ Below w.heap.size w w' := by
  unfold strconv_FormatInt.f at h
  split at h
  · rename_i hc
    obtain ⟨rfl, h1, h2⟩ := hc
    obtain rfl := Option.some.inj h
    exact (Tryd.strconv_FormatInt_10 a0 h1 h2 w hG.pow10).mono fun e w' ⟨he, k, os, hw⟩ => ⟨he, hw ▸ Lib.below_grow _ _ (Nat.le_refl _) k os⟩
  · exact absurd h (by simp)

/-! ### strings_Join: function 31 -/
/-! The builder's two writing methods, at this translation (its copy check refuses where the library's contract has a panic). -/
theorem Bld.below {w w' : World} {B b : Nat} {p : Value} {bs : List Value} (h : Lib.BuilderAt 80 5 B b p bs w) (hb : Below w.heap.size w w') : Lib.BuilderAt 80 5 B b p bs w' := by
  obtain ⟨h1, v, h2, h3, h4⟩ := h
  exact ⟨h1, v, (hb.block b (blk_lt h2)).trans h2, own_move h3 (fun k hk => hb.block k (own_lt h3 k hk)), h4⟩
theorem Bld.is {w w' : World} {B b : Nat} {bs : List Value} (h : Lib.IsBuilder 80 5 B b bs w) (hb : Below w.heap.size w w') : Lib.IsBuilder 80 5 B b bs w' := h.imp (fun h => Bld.below h hb) (fun h => Bld.below h hb)
set_option maxHeartbeats 1000000 in
set_option maxRecDepth 100000 in
theorem Bld.check (B b : Nat) (bs : List Value) (w : World) (h : Lib.IsBuilder 80 5 B b bs w) :
    Calls Tryd.prog 62 #[.pointer (some ⟨b, 0, none⟩)] w fun e w' => e = .returned (.tuple #[]) ∧ Lib.BuilderAt 80 5 B b (.pointer (some ⟨b, 0, none⟩)) bs w' ∧ Below B w w' := by
  obtain ⟨j, hj, hjs⟩ := Option.map_eq_some_iff.1 (show (Tryd.prog.info? 80).map (·.size) = some 2 by kernel_rfl)
  rcases h with h | h
  · have h0 := h.cell0
    have hsh := h.shape
    have hfz := h.frozen0
    have HX := Aside0.mk h
    clear h
    go_enter Tryd.func62, Tryd.ntmps62
    go_wp2
    rw [Lib.run_to_unsafe w ⟨b, 0, none⟩ Tryd.underlying77 Tryd.underlying116 hj (by rw [hjs]; decide) hsh (Nat.zero_lt_succ 1)]
    simp only [Result.andThen]
    rw [Oper.upon_value]
    go_wp2
    rw [run_callFunc_extern Tryd.func74 (by kernel_rfl) (by kernel_rfl) (by kernel_rfl) (e := Extern.AbiNoEscape.same) (by kernel_rfl)]
    rw [Lib.run_noEscape]
    simp only [Result.andThen]
    rw [Oper.upon_value]
    go_wp2
    rw [Lib.run_from_unsafe w ⟨b, 0, none⟩ Tryd.underlying116 Tryd.underlying77 hj hsh (by kernel_rfl)]
    simp only [Result.andThen]
    rw [Oper.upon_value]
    go_wp2
    go_end0
    exact ⟨rfl, HX.out.used _, (Below.refl B w).setCell (p := ⟨b, 0, none⟩) HX.out.1 _⟩
  · have h0 := h.cell0
    have HX := Aside0.mk h
    clear h
    go_enter Tryd.func62, Tryd.ntmps62
    go_wp2
    rw [Lib.run_neq_ptr_same w _ Tryd.underlying77 hj]
    go_wp2
    go_end0
    exact ⟨rfl, HX.out, Below.refl B _⟩
set_option maxHeartbeats 1000000 in
set_option maxRecDepth 100000 in
theorem Bld.write (B b : Nat) (l : List UInt8) (s : ByteArray) (w : World) (h : Lib.IsBuilder 80 5 B b (Lib.byteCells l) w) (hlen : l.length + s.size ≤ 140737488351232) (hBw : B ≤ w.heap.size) :
    Calls Tryd.prog 47 #[.pointer (some ⟨b, 0, none⟩), .string s] w fun e w' => (∃ v, e = .returned v) ∧ Lib.IsBuilder 80 5 B b (Lib.byteCells (l ++ s.data.toList)) w' ∧ Below B w w' := by
  obtain ⟨i0, hi, hz0, hz1, hz2⟩ := info_parts (show (Tryd.prog.info? 5).map (fun i => (i.zero, i.size, i.bytes)) = some (some (.int .u8 0), 1, 1) by kernel_rfl)
  have HH := Aside0.mk h
  have HL := Aside0.mk hlen
  have HBW := Aside0.mk hBw
  have HI := Aside0.mk hi
  have HZ := Aside0.mk (And.intro hz0 (And.intro hz1 hz2))
  clear h hlen hBw hi hz0 hz1 hz2
  go_enter Tryd.func47, Tryd.ntmps47
  go_wp2_with (go_at_call 62; refine (Bld.check B b (Lib.byteCells l) _ HH.out).mono ?_)
  rintro e w1 ⟨rfl, h1, hb1⟩
  obtain ⟨hB, v, hbk, hown, hne⟩ := h1
  have hcl : (Lib.byteCells l).length = l.length := by simp [Lib.byteCells]
  have c0 : w1.cell? ⟨b, 0, none⟩ = some (.pointer (some ⟨b, 0, none⟩)) := blk_cell hbk 0
  have c1 : w1.cell? ⟨b, 1, none⟩ = some v := blk_cell hbk 1
  have HBK := Aside0.mk hbk
  have HOWN := Aside0.mk hown
  have HNE := Aside0.mk hne
  have HB1 := Aside0.mk hb1
  have HCL := Aside0.mk hcl
  clear hbk hown hne hb1 hcl
  go_wp2_with (at_builtin; refine Lib.wpList_append_own_string _ rfl _ _ 78 9 rfl B 5 i0 Tryd.underlying78 Tryd.underlying9 HI.out HZ.out.1 HZ.out.2.1 HZ.out.2.2 _ _ _ rfl HOWN.out s rfl ?c3 ?c4 ?c5 ?_)
  case c3 => unfold maxLen; have := HL.out; have := HCL.out; omega
  case c4 => have := HL.out; have := HCL.out; omega
  case c5 => have := HB1.out.size; have := HBW.out; omega
  intro v' w2 hown' hgrow _
  have hb2 := (hgrow.block b (blk_lt HBK.out) (fun e => HNE.out e.symm)).trans HBK.out
  have d0 : w2.cell? ⟨b, 0, none⟩ = some (.pointer (some ⟨b, 0, none⟩)) := blk_cell hb2 0
  have d1 : w2.cell? ⟨b, 1, none⟩ = some v := blk_cell hb2 1
  have f1 : w2.frozen? ⟨b, 1, none⟩ = false := blk_frozen hb2 1
  obtain ⟨ao, n', cap, rfl⟩ : ∃ ao n' cap, v' = .slice ao n' cap := by
    rcases hown'.2 with ⟨hv, _⟩ | ⟨g, cap, cur, hv, _⟩
    · exact ⟨_, _, _, hv⟩
    · exact ⟨_, _, _, hv⟩
  have HO2 := Aside0.mk hown'
  have HG2 := Aside0.mk hgrow
  have HB2 := Aside0.mk hb2
  clear hown' hgrow hb2
  go_wp2
  go_ret2
  refine ⟨⟨_, rfl⟩, ?_, ?_⟩
  · refine .inr (Lib.BuilderAt.put (T := 80) (e := 5) hB HB2.out (bs' := Lib.byteCells (l ++ s.data.toList)) ?_ (by decide))
    have := HO2.out
    rw [Lib.strCells_eq] at this
    have e1 : Lib.byteCells (l ++ s.data.toList) = Lib.byteCells l ++ Lib.byteCells s.data.toList := by simp [Lib.byteCells]
    rw [e1]
    simpa [Lib.byteCells] using this
  · exact (HB1.out.grown HG2.out (by have := HB1.out.size; have := HBW.out; omega) (fun k hk => (HOWN.out.lt k hk).1)).setCell (p := ⟨b, 1, none⟩) hB _

def strings_Join.sum (l : List ByteArray) : Nat := (l.map fun x => x.size).sum
def strings_Join.f (l0 : List ByteArray) (a1 : ByteArray) : Option (ByteArray) := if l0.length ≤ 1000 ∧ a1.size = 2 ∧ strings_Join.sum l0 ≤ 1000000 then some ⟨(Lib.join (l0.map (·.data.toList)) a1.data.toList).toArray⟩ else none
/-- What is written behind the first. -/
def strings_Join.tl (sep : List UInt8) (l : List ByteArray) : List UInt8 := (l.map fun x => sep ++ x.data.toList).flatten
theorem strings_Join.tl_take (sep : List UInt8) (l : List ByteArray) (j : Nat) (x : ByteArray) (h : l[j]? = some x) : strings_Join.tl sep (l.take (j + 1)) = strings_Join.tl sep (l.take j) ++ sep ++ x.data.toList := by
  rw [List.take_add_one, h]
  simp [strings_Join.tl]
theorem strings_Join.tl_len (sep : List UInt8) : ∀ l : List ByteArray, (strings_Join.tl sep l).length = l.length * sep.length + strings_Join.sum l
  | [] => by simp [strings_Join.tl, strings_Join.sum]
  | x :: r => by
    have ih := strings_Join.tl_len sep r
    have e1 : strings_Join.tl sep (x :: r) = sep ++ x.data.toList ++ strings_Join.tl sep r := by simp [strings_Join.tl]
    have e2 : strings_Join.sum (x :: r) = x.size + strings_Join.sum r := by simp [strings_Join.sum]
    have e3 : x.data.toList.length = x.size := by rw [Array.length_toList]; rfl
    rw [e1, e2, List.length_append, List.length_append, ih, List.length_cons, e3, Nat.succ_mul]
    omega
theorem strings_Join.sum_take (l : List ByteArray) (j : Nat) : strings_Join.sum (l.take j) + strings_Join.sum (l.drop j) = strings_Join.sum l := by
  unfold strings_Join.sum
  rw [← List.sum_append, ← List.map_append, List.take_append_drop]
theorem strings_Join.sum_drop (l : List ByteArray) (j : Nat) (x : ByteArray) (h : l[j]? = some x) : strings_Join.sum (l.drop j) = x.size + strings_Join.sum (l.drop (j + 1)) := by
  obtain ⟨hj, rfl⟩ := List.getElem?_eq_some_iff.1 h
  unfold strings_Join.sum
  rw [List.drop_eq_getElem_cons hj, List.map_cons, List.sum_cons]
theorem strings_Join.whole (l0 : List ByteArray) (x0 a1 : ByteArray) (h : l0[0]? = some x0) : Lib.join (l0.map (·.data.toList)) a1.data.toList = x0.data.toList ++ strings_Join.tl a1.data.toList (l0.drop 1) := by
  cases l0 with
  | nil => simp at h
  | cons y r =>
    have e : y = x0 := by simpa using h
    subst e
    rw [List.map_cons, Lib.join_cons, Lib.joinTail, List.map_map]
    rfl
set_option maxHeartbeats 8000000 in
set_option maxRecDepth 100000 in
theorem strings_Join.many (bk o c0 : Nat) (l0 : List ByteArray) (a1 : ByteArray) (w : World) (hcell : ∀ (j : Nat) (x : ByteArray), l0[j]? = some x → w.cell? ⟨bk, o + j, none⟩ = some (.string x)) (hbk : bk < w.heap.size) (hc0 : l0.length ≤ c0) (h2 : 2 ≤ l0.length) (hl : l0.length ≤ 1000) (hs : a1.size = 2) (ht : strings_Join.sum l0 ≤ 1000000) :
    Calls Tryd.prog 31 #[.slice (some ⟨bk, o, none⟩) l0.length c0, .string a1] w fun e w' => e = .returned (.string ⟨(Lib.join (l0.map (·.data.toList)) a1.data.toList).toArray⟩) ∧ Below w.heap.size w w' := by
  have HC := Aside0.mk hcell
  have HT := Aside0.mk ht
  clear hcell ht
  have hs' : (a1.size : Int) = 2 := by omega
  have n0 : ¬ ((l0.length : Int) = 0) := by omega
  have n1 : ¬ ((l0.length : Int) = 1) := by omega
  have d0 : decide ((l0.length : Int) = 0) = false := decide_eq_false n0
  have d1 : decide ((l0.length : Int) = 1) = false := decide_eq_false n1
  go_enter Tryd.func31, Tryd.ntmps31
  go_upto_if 22 with (fail)
  go_cut [5] (fun v5 wc => v5 = .int .i64 (2 * ((l0.length : Int) - 1)) ∧ w = wc)
  case first =>
    have hm : ¬ ((l0.length : Int) - 1 = 0) := by omega
    have hq : decide (9223372036854775807 / ((l0.length : Int) - 1) ≤ 2) = false := by
      refine decide_eq_false ?_
      have h3 : (3 : Int) ≤ 9223372036854775807 / ((l0.length : Int) - 1) := (Int.le_ediv_iff_mul_le (by omega)).2 (by omega)
      omega
    go_wp2
    go_meet
    case rel => exact ⟨by first | rfl | (congr 1; omega), rfl⟩
  case rest =>
    obtain ⟨rfl, rfl⟩ := hcut
    have hl0 : (0 : Int) ≤ (l0.length : Int) := by omega
    have hl9 : (l0.length : Int) ≤ 9223372036854775807 := by omega
    go_wp2
    go_loopw [5, 41] (fun v5 v41 w' => ∃ j n : Nat, v5 = .int .i64 (n : Int) ∧ v41 = .int .i64 (j : Int) ∧ j ≤ l0.length ∧ Aside0 (n + strings_Join.sum (l0.drop j) ≤ 2000000) ∧ w = w') (fun _ v41 _ => l0.length - (intOf v41).toNat)
    case atStart => exact ⟨0, 2 * (l0.length - 1), by first | rfl | (congr 1; omega), rfl, Nat.zero_le _, ⟨by have := HT.out; rw [List.drop_zero]; omega⟩, rfl⟩
    case round =>
      obtain ⟨j, n, rfl, rfl, hj, HN, rfl⟩ := hrel
      by_cases hlt : j < l0.length
      · obtain ⟨x, hx⟩ : ∃ x, l0[j]? = some x := ⟨_, List.getElem?_eq_getElem hlt⟩
        have hc := HC.out j x hx
        have hsd := strings_Join.sum_drop l0 j x hx
        have hn := HN.out
        have hlt' : ((j : Int) < (l0.length : Int)) := by omega
        have hj0 : (0 : Int) ≤ (j : Int) := by omega
        have hn0 : (n : Int) ≤ 2000000 := by omega
        have hxs : (x.size : Int) ≤ 2000000 := by omega
        have hng : ¬ ((9223372036854775807 : Int) - (n : Int) < (x.size : Int)) := by omega
        have hxj : decide ((9223372036854775807 : Int) - (n : Int) < (x.size : Int)) = false := decide_eq_false hng
        have HN2 : Aside0 (n + x.size + strings_Join.sum (l0.drop (j + 1)) ≤ 2000000) := ⟨by omega⟩
        clear HN hn hsd hx
        go_wp2
        exact ⟨⟨j + 1, n + x.size, by go_num, by go_num, by omega, HN2, by first | rfl | trivial⟩, by simp [intOf]; omega⟩
      · have hj' : j = l0.length := by omega
        have hlt' : ¬ ((j : Int) < (l0.length : Int)) := by omega
        have hn0 : n ≤ 2000000 := by have := HN.out; omega
        obtain ⟨x0, hx0⟩ : ∃ x, l0[0]? = some x := ⟨_, List.getElem?_eq_getElem (by omega)⟩
        have h00 : (0 : Int) < (l0.length : Int) := by omega
        have h10 : (1 : Int) ≤ (l0.length : Int) := by omega
        have hcc : (l0.length : Int) ≤ (c0 : Int) := by omega
        have HX0 := Aside0.mk hx0
        clear hx0 HN
        go_wp2_with (first | (go_at_call 46; refine (Tryd.Builder_Grow_fresh w.heap.size w.heap.size n _ (Nat.le_refl _) (blk_new _ _) (by simp) (by omega)).mono ?_; rintro e w1 ⟨rfl, hba, hb⟩; have HB1 := Aside0.mk ((below_alloc (Below.refl w.heap.size w) _).trans hb); have HO1 := Aside0.mk (show Lib.IsBuilder 80 5 w.heap.size w.heap.size (Lib.byteCells []) w1 from .inr hba); have hc := (HB1.out.cell (p := ⟨bk, o + 0, none⟩) hbk).trans (HC.out 0 x0 HX0.out); rw [Nat.add_zero] at hc; clear hba hb) | (go_at_call 47; refine (Bld.write w.heap.size w.heap.size [] x0 _ HO1.out (by have := HT.out; have := strings_Join.sum_drop l0 0 x0 HX0.out; rw [List.drop_zero] at this; simp; omega) HB1.out.size).mono ?_; rintro e w2 ⟨⟨vv, rfl⟩, ho, hb⟩; have HO2 := Aside0.mk ho; have HB2 := Aside0.mk (HB1.out.trans hb); clear ho hb hc))
        have hdl : (l0.drop 1).length = l0.length - 1 := List.length_drop
        have hsum := strings_Join.sum_drop l0 0 x0 HX0.out
        rw [List.drop_zero] at hsum
        have hbound : ∀ j, (x0.data.toList ++ strings_Join.tl a1.data.toList ((l0.drop 1).take j)).length ≤ 2003000 := by
          intro j
          have e1 : x0.data.toList.length = x0.size := by rw [Array.length_toList]; rfl
          have e2 : a1.data.toList.length = 2 := by rw [Array.length_toList]; exact hs
          have e3 := strings_Join.sum_take (l0.drop 1) j
          have e4 : ((l0.drop 1).take j).length ≤ (l0.drop 1).length := by rw [List.length_take]; omega
          have e5 : strings_Join.sum (l0.drop (0 + 1)) = strings_Join.sum (l0.drop 1) := rfl
          have e6 := HT.out
          rw [List.length_append, strings_Join.tl_len, e1, e2]
          omega
        have HBD := Aside0.mk hbound
        clear hbound hsum
        have HDL := Aside0.mk hdl
        clear hdl
        go_loopw [65] (fun v65 w' => ∃ j : Nat, v65 = .int .i64 (j : Int) ∧ j ≤ l0.length - 1 ∧ Aside0 (Lib.IsBuilder 80 5 w.heap.size w.heap.size (Lib.byteCells (x0.data.toList ++ strings_Join.tl a1.data.toList ((l0.drop 1).take j))) w') ∧ Aside0 (Below w.heap.size w w')) (fun v65 _ => l0.length - (intOf v65).toNat)
        case atStart => exact ⟨0, rfl, Nat.zero_le _, ⟨by have := HO2.out; simpa [strings_Join.tl] using this⟩, HB2⟩
        case round =>
          clear HO1 HO2 HB1 HB2
          obtain ⟨j, rfl, hj, HO, HB⟩ := hrel
          by_cases hlt : j < l0.length - 1
          · obtain ⟨x, hx⟩ : ∃ x, l0[j + 1]? = some x := ⟨_, List.getElem?_eq_getElem (by omega)⟩
            have hx1 : (l0.drop 1)[j]? = some x := by rw [List.getElem?_drop, Nat.add_comm 1 j]; exact hx
            have hc := HC.out (j + 1) x hx
            rw [show o + (j + 1) = o + 1 + j by omega] at hc
            replace hc := (HB.out.cell (p := ⟨bk, o + 1 + j, none⟩) hbk).trans hc
            have htk := strings_Join.tl_take a1.data.toList (l0.drop 1) j x hx1
            have hb1 := HBD.out j
            have hb2 := HBD.out (j + 1)
            rw [htk, ← List.append_assoc, ← List.append_assoc] at hb2
            have HTK := Aside0.mk htk
            have HB1' := Aside0.mk hb1
            have HB2' := Aside0.mk hb2
            have hlt' : ((j : Int) < (l0.length : Int) - 1) := by omega
            have hj0 : (0 : Int) ≤ (j : Int) := by omega
            clear htk hb1 hb2 hx hx1
            go_wp2_with (first | (go_at_call 47; refine (Bld.write w.heap.size w.heap.size _ a1 _ HO.out (by have := HB1'.out; omega) HB.out.size).mono ?_; rintro e wx ⟨⟨vv, rfl⟩, ho, hb⟩; have HO3 := Aside0.mk ho; have HB3 := Aside0.mk (HB.out.trans hb); clear ho hb HO hc) | (go_at_call 47; refine (Bld.write w.heap.size w.heap.size _ x _ HO3.out (by have := HB2'.out; simp only [List.length_append] at this ⊢; have e1 : x.data.toList.length = x.size := Array.length_toList; omega) HB3.out.size).mono ?_; rintro e wy ⟨⟨vv, rfl⟩, ho, hb⟩; have HO4 := Aside0.mk ho; have HB4 := Aside0.mk (HB3.out.trans hb); clear ho hb))
            exact ⟨⟨j + 1, by go_num, by omega, ⟨by rw [HTK.out, ← List.append_assoc, ← List.append_assoc]; exact HO4.out⟩, HB4⟩, by simp [intOf]; omega⟩
          · have hj' : j = l0.length - 1 := by omega
            have hlt' : ¬ ((j : Int) < (l0.length : Int) - 1) := by omega
            have he : (l0.drop 1).take j = l0.drop 1 := List.take_of_length_le (by rw [HDL.out]; omega)
            have HE := Aside0.mk he
            clear he
            go_wp2_with (go_at_call 48; refine (Tryd.Builder_String_any w.heap.size w.heap.size _ _ HO.out HB.out.size).mono ?_; rintro e wz ⟨rfl, hb⟩; have HB5 := Aside0.mk (HB.out.trans hb); clear hb)
            go_ret
            refine ⟨?_, HB5.out⟩
            have he : List.take (l0.length - 1) l0.tail = l0.drop 1 := by rw [List.take_of_length_le (by simp), List.drop_one]
            show Ending.returned (.string ⟨(x0.data.toList ++ strings_Join.tl a1.data.toList (List.take (l0.length - 1) l0.tail)).toArray⟩) = _
            rw [he]
            rw [strings_Join.whole l0 x0 a1 HX0.out]
theorem strings_Join.calls (A0 : Option Addr) (c0 : Nat) (l0 : List ByteArray) (a1 : ByteArray) (r : ByteArray) (w : World) (hr0 : Kd.C Kd.string w A0 l0.length l0) (hc0 : l0.length ≤ c0) (h : strings_Join.f l0 a1 = some r) :
    Calls Tryd.prog 31 #[.slice A0 l0.length c0, .string a1] w fun e w' => e = .returned (.string r) ∧ Below w.heap.size w w' := by
  unfold strings_Join.f at h
  split at h
  · rename_i hc
    obtain rfl := Option.some.inj h
    clear h
    match l0, hr0, hc0, hc with
    | [], hr0, hc0, hc =>
      go_enter Tryd.func31, Tryd.ntmps31
      go_wp2
      go_ret
      exact ⟨rfl, Below.refl _ _⟩
    | [x], hr0, hc0, hc =>
      obtain ⟨bk, o, rfl, hcell⟩ := Strs.cells hr0 (by simp)
      have h0 := hcell 0 x rfl
      rw [Nat.add_zero] at h0
      have hc1 : (1 : Int) ≤ (c0 : Int) := by have : [x].length = 1 := rfl; omega
      go_enter Tryd.func31, Tryd.ntmps31
      go_wp2
      go_ret
      exact ⟨by simp [Lib.join_one], Below.refl _ _⟩
    | x :: y :: l, hr0, hc0, hc =>
      obtain ⟨bk, o, rfl, hcell⟩ := Strs.cells hr0 (by simp)
      exact strings_Join.many bk o c0 (x :: y :: l) a1 w hcell (Strs.lt hcell (by simp)) hc0 (by simp) hc.1 hc.2.1 hc.2.2
  · exact absurd h (by simp)


end Go.Proofs.YtmapdckelbobiaaDoor.X
