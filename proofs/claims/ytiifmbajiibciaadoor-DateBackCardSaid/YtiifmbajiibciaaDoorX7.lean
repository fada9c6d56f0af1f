-- Printed by a program of this session (pp.py: the kit's print.py, run with contracts of its own) out of the translation. Not trusted: Lean checks it.
import Derived.Test.YtiifmbajiibciaaDoorX0
import Derived.Test.YtiifmbajiibciaaDoorX5
import Derived.Test.YtiifmbajiibciaaDoorX6
namespace Go.Proofs.YtiifmbajiibciaaDoor.X
open Go.RowKit Go.Proofs.YtiifmbajiibciaaDoorW.PrintWords Go.Proofs.YtiifmbajiibciaaDoorW.PrintLast Go.Proofs.YtiifmbajiibciaaDoorW.PrintMore
attribute [local go_sem] max2_int min2_int max_two min_two max_three min_three max_four min_four   -- for this text's walks alone
set_option linter.unusedVariables false
set_option linter.unusedSimpArgs false

/-! ### date_Parse: function 18 -/
/-! date.Parse: the library's iterators at []string (slices.Chunk, slices.Collect), the twelve words, the closures, and Parse itself. -/
def date_Parse.MS : ByteArray := ⟨#[74, 97, 110, 70, 101, 98, 77, 97, 114, 65, 112, 114, 77, 97, 121, 74, 117, 110, 74, 117, 108, 65, 117, 103, 83, 101, 112, 79, 99, 116, 78, 111, 118, 68, 101, 99]⟩
section
attribute [local go_sem] Oper.semAt_some
/-- A chunk of three of the 36, as yield is handed it. -/
def date_Parse.enc (b : Nat) (i : Nat) : Array Value := #[.slice (some ⟨b, 3 * i, none⟩) 3 3]
set_option maxRecDepth 100000 in
set_option maxHeartbeats 4000000 in
/-- slices.Chunk(all, 3)'s closure, at 36 elements: twelve chunks. -/
theorem date_Parse.chunk1 (n : Nat) (hn : 1 ≤ n) (l Bs Bn n₀ b : Nat) (hs : Bs < n₀) (hnn : Bn < n₀) (J Jx : List Nat → World → Prop) (hA : ∀ s W, J s W → J s W.drew)
    (hY : ∀ pre x W, J pre W → pre.length < 12 → YieldAt Fence.wide (n - 1) Tryd.prog l (date_Parse.enc b x) W fun e W' =>
      (e = .returned (.bool true) ∧ J (pre ++ [x]) W' ∧ Below n₀ W W') ∨ (e = .returned (.bool false) ∧ Jx (pre ++ [x]) W'))
    (W : World) (hBs : W.cell? ⟨Bs, 0, none⟩ = some (.slice (some ⟨b, 0, none⟩) 36 36)) (hBn : W.cell? ⟨Bn, 0, none⟩ = some (.int .i64 3)) (h0 : J [] W) :
    CallsIn Fence.wide n Tryd.prog 52 #[.func (.yield l) #[] #[], .pointer (some ⟨Bs, 0, none⟩), .pointer (some ⟨Bn, 0, none⟩)] W fun e W' => (∃ v, e = .returned v) ∧
      ((∃ ys, ys = List.range 12 ∧ J ys W') ∨ (∃ pre, True ∧ Jx pre W')) := by
  have mixed : Tryd.prog.follows .mixedOrders = true := by kernel_rfl
  refine callsIn_of_wp Tryd.func52 rfl trivial ?_ rfl
  simp only [Tryd.ntmps52, List.size_toArray, List.length_cons, List.length_nil, Nat.reduceAdd, Nat.reduceSub, Array.replicate_succ, Array.replicate_zero, List.push_toArray, List.append_toArray, List.nil_append, List.cons_append]
  gi_wp2
  gi_loopw [4] (fun i wr => ∃ k : Nat, k ≤ 12 ∧ i = .int .i64 (3 * (k : Int)) ∧ J (List.range k) wr ∧ Below n₀ W wr)
    (fun i _ => 36 - (intOf i).toNat)
  case atStart => exact ⟨0, Nat.zero_le _, rfl, h0, Below.refl _ _⟩
  case round =>
    obtain ⟨k, hk, rfl, hJs, hnx⟩ := hrel
    have c1 : wr.cell? ⟨Bs, 0, none⟩ = some (.slice (some ⟨b, 0, none⟩) 36 36) := (hnx.cell (p := ⟨Bs, 0, none⟩) hs).trans hBs
    have c2 : wr.cell? ⟨Bn, 0, none⟩ = some (.int .i64 3) := (hnx.cell (p := ⟨Bn, 0, none⟩) hnn).trans hBn
    by_cases hlt : k < 12
    · obtain ⟨fn, tmps, assign, body, hy, hR⟩ := hY _ k wr.drew (hA _ _ hJs) (by simpa using hlt)
      have hy' : Sem.run Tryd.prog (Instr.yield l #[Value.slice (some ⟨b, 3 * k, none⟩) 3 3]) wr.drew = Result.ok (Next.round l fn tmps assign body) wr.drew := hy
      clear hy
      have hlt3 : 3 * (k : Int) < 36 := by omega
      have hlt0 : (0 : Int) ≤ 3 * (k : Int) := by omega
      gi_wp2
      gi_region
      gi_wp2
      refine hR.mono ?_
      rintro e W3 (⟨rfl, hJ3, hk3⟩ | ⟨rfl, hJx3⟩)
      · have d1 : W3.cell? ⟨Bn, 0, none⟩ = some (.int .i64 3) := (hk3.cell (p := ⟨Bn, 0, none⟩) hnn).trans c2
        gi_wp2
        go_roundw
        case rel => exact ⟨k + 1, by omega, by go_num, by rw [List.range_succ]; exact hJ3, (below_drew1 hnx).trans hk3⟩
        case measure => simp [intOf]; omega
      · gi_wp2
        refine bodyPost_ret (results_none rfl _ _ _) rfl ?_
        exact ⟨⟨_, rfl⟩, .inr ⟨_, trivial, hJx3⟩⟩
    · obtain rfl : k = 12 := by omega
      gi_wp2
      go_end0
      exact ⟨⟨_, rfl⟩, .inl ⟨_, rfl, hJs⟩⟩
theorem date_Parse.chunk_stops (n : Nat) (hn : 1 ≤ n) (Bs Bn n₀ b : Nat) (w : World) (hs : Bs < n₀) (hnn : Bn < n₀) (hn₀ : n₀ ≤ w.heap.size)
    (hBs : w.cell? ⟨Bs, 0, none⟩ = some (.slice (some ⟨b, 0, none⟩) 36 36)) (hBn : w.cell? ⟨Bn, 0, none⟩ = some (.int .i64 3)) :
    SeqStopsK Fence.wide n Tryd.prog 52 #[.pointer (some ⟨Bs, 0, none⟩), .pointer (some ⟨Bn, 0, none⟩)] (date_Parse.enc b) (Below n₀) (fun ys => ys = List.range 12) (fun _ => True) 12 w := fun l J Jx W hW hJ _ hY h0 => by
  refine date_Parse.chunk1 n hn l Bs Bn n₀ b hs hnn J Jx (fun s W1 h => ?_) hY W ((hW.cell (p := ⟨Bs, 0, none⟩) (by show Bs < _; omega)).trans hBs) ((hW.cell (p := ⟨Bn, 0, none⟩) (by show Bn < _; omega)).trans hBn) h0
  exact hJ s W1 W1.drew none h ⟨rfl, rfl, rfl, Nat.le_refl _, fun _ _ _ => rfl⟩ (fun r e => by cases e)
/-- slices.Chunk(all, 3). -/
theorem date_Parse.chunk (A : Option Addr) (w : World) :
    Calls Tryd.prog 40 #[.slice A 36 36, .int .i64 3] w fun e w' => e = .returned (.func (.func 52) #[] #[.pointer (some ⟨w.heap.size, 0, none⟩), .pointer (some ⟨w.heap.size + 1, 0, none⟩)]) ∧ w' = (w.alloc (.cells #[.slice A 36 36] 49)).alloc (.cells #[.int .i64 3] 3) := by
  go_enter Tryd.func40, Tryd.ntmps40
  go_wp2
  go_ret
  exact ⟨rfl, rfl⟩
def date_Parse.val (b : Nat) (i : Nat) : Value := .slice (some ⟨b, 3 * i, none⟩) 3 3
set_option maxRecDepth 100000 in
set_option maxHeartbeats 4000000 in
/-- slices.AppendSeq(nil, slices.Chunk(all, 3)): the twelve chunks, in a block of the call's own. -/
theorem date_Parse.appendSeq (n : Nat) (hn : 3 ≤ n) (Bs Bn b : Nat) (w : World) (hs : Bs < w.heap.size) (hnn : Bn < w.heap.size)
    (hBs : w.cell? ⟨Bs, 0, none⟩ = some (.slice (some ⟨b, 0, none⟩) 36 36)) (hBn : w.cell? ⟨Bn, 0, none⟩ = some (.int .i64 3)) :
    CallsIn Fence.wide n Tryd.prog 51 #[.slice none 0 0, .func (.func 52) #[] #[.pointer (some ⟨Bs, 0, none⟩), .pointer (some ⟨Bn, 0, none⟩)]] w fun e W' =>
      ∃ v, e = .returned v ∧ W'.ownsRow w.heap.size 49 1 v 12 ((List.range 12).map (date_Parse.val b)) ∧ Below w.heap.size w W' := by
  have h1 : 1 ≤ n := by omega
  obtain ⟨i0, hi, hz0, hz1, hz2⟩ := info_parts (show (Tryd.prog.info? 49).map (fun i => (i.zero, i.size, i.bytes)) = some (some (.slice none 0 0), 1, 24) by kernel_rfl)
  refine callsIn_of_wp_marks Tryd.func51 rfl trivial ?_ rfl
  simp only [Tryd.ntmps51, List.size_toArray, List.length_cons, List.length_nil, Nat.reduceAdd, Nat.reduceSub, Array.replicate_succ, Array.replicate_zero, List.push_toArray, List.append_toArray, List.nil_append, List.cons_append]
  gi_wp2
  have bO := Boxed.new w 58 (.slice none 0 0)
  have hB0 : Below w.heap.size w (w.alloc (.cells #[.slice none 0 0] 58)) := (Below.refl _ w).alloc (Nat.le_refl _) _
  refine wpIn_rangeFunc_ownG rfl h1 (gf := 52) (lb := #[.pointer (some ⟨Bs, 0, none⟩), .pointer (some ⟨Bn, 0, none⟩)]) rfl trivial (enters_of Tryd.func52 (by kernel_rfl) rfl)
    (date_Parse.chunk_stops (n - 1) (by omega) Bs Bn w.heap.size b _ hs hnn (by simp) ((hB0.cell (p := ⟨Bs, 0, none⟩) hs).trans hBs) ((hB0.cell (p := ⟨Bn, 0, none⟩) hnn).trans hBn)) belowK_t (belowK_b (by simp)) (Below.refl _ _) (fun _ => rfl)
    (fun pre W => (∃ v, Boxed W w.heap.size 58 v ∧ W.ownsRow w.heap.size 49 1 v pre.length (pre.map (date_Parse.val b)) ∧ True) ∧ Below w.heap.size w W)
    (fun _ _ _ => False)
    (OwnFrom.and (Own.from (holdsRow_own w.heap.size w.heap.size 58 49 1 (fun pre : List Nat => pre.length) (fun pre => pre.map (date_Parse.val b)) (fun _ _ => True)) _) (ownFrom_below (Nat.le_refl _) (by simp)))
    (fun _ _ _ _ _ hs _ _ => hs)
    ⟨⟨_, bO, World.ownsRow_nil _ _ _ _, trivial⟩, hB0⟩
    (fun x => { tmps := #[.slice none 0 0, .func (.func 52) #[] #[.pointer (some ⟨Bs, 0, none⟩), .pointer (some ⟨Bn, 0, none⟩)], .pointer (some ⟨w.heap.size, 0, none⟩), undef, .slice none 0 0, .slice (some ⟨b, 3 * x, none⟩) 3 3, .func (.func 52) #[] #[.pointer (some ⟨Bs, 0, none⟩), .pointer (some ⟨Bn, 0, none⟩)], .slice (some ⟨b, 3 * x, none⟩) 3 3, undef, undef, undef, undef, undef], defers := [] }) ?assign ?body ?done ?stop
  case assign =>
    intro l x W K hK
    unfold date_Parse.enc
    gi_wp2
    exact hK
  case body =>
    rintro l pre x W ⟨⟨v, hv, hrow, _⟩, hB⟩ hlt
    have hc := hv.cell
    gi_wp2_with (gi_at_builtin; refine wpListIn_append_own _ rfl _ _ 58 rfl w.heap.size 49 i0 (.slice none 0 0) 1 24 Tryd.underlying58 hi hz0 hz1 hz2 rfl (by decide) _ _ _ rfl (hrow.alloc _) ⟨W.heap.size, 0, none⟩ 1 1 [.slice (some ⟨b, 3 * x, none⟩) 3 3] rfl rfl (cell_one_new _ _ _) (by simp [Value.oneCell']) (by unfold maxLen; omega) (by omega) (by have := hB.size; simp; omega) ?_; intro v' w1 hown' hgrow _; obtain ⟨g', cap', rfl⟩ := ownsRow_succ hown'; obtain ⟨hv1, hv2, hr2, hk2, hb2⟩ := hv.appended (by decide) hrow hB.size (Nat.le_refl _) hown' hgrow; have hc1 := hv1.cell; have hf1 := hv1.frozen)
    exact ⟨hk2.from _, hb2, ⟨_, hv2, by simpa [date_Parse.val] using hr2, trivial⟩, hB.trans hb2⟩
  case done =>
    rintro D ys W hD rfl ⟨⟨v, hv, hrow, _⟩, hB⟩ hK
    have hc := hv.cell
    gi_wp2
    refine ⟨by simp, .inl ⟨_, _, rfl, run_takeDeferred hK, ?_⟩⟩
    exact ⟨_, results_tmp rfl _ _ _, v, rfl, by simpa using ownsRow_putObj hrow _ hK rfl, hB.trans (belowK_b (w := w) (Nat.le_refl _) W D _ _ (by simp at hD; omega) hK rfl rfl)⟩
  case stop =>
    rintro D c pre W _ _ h _
    exact h.elim
end
/-- slices.Collect(slices.Chunk(all, 3)). -/
theorem date_Parse.collect (Bs Bn b : Nat) (w : World) (hs : Bs < w.heap.size) (hnn : Bn < w.heap.size)
    (hBs : w.cell? ⟨Bs, 0, none⟩ = some (.slice (some ⟨b, 0, none⟩) 36 36)) (hBn : w.cell? ⟨Bn, 0, none⟩ = some (.int .i64 3)) :
    Calls Tryd.prog 39 #[.func (.func 52) #[] #[.pointer (some ⟨Bs, 0, none⟩), .pointer (some ⟨Bn, 0, none⟩)]] w fun e W' =>
      ∃ g cap, e = .returned (.slice (some ⟨g, 0, none⟩) 12 cap) ∧ 12 ≤ cap ∧ (∀ i, i < 12 → W'.cell? ⟨g, i, none⟩ = some (date_Parse.val b i)) ∧ w.heap.size ≤ g ∧ Below w.heap.size w W' := by
  have HK := Aside0.mk (callsIn_wide.1 (date_Parse.appendSeq 5 (by omega) Bs Bn b w hs hnn hBs hBn))
  clear hs hnn hBs hBn
  go_enter Tryd.func39, Tryd.ntmps39
  go_wp2_with (go_at_call 51; refine HK.out.mono ?_; rintro e w1 ⟨v, rfl, hrow, hb⟩; have HR := Aside0.mk hrow; have HB := Aside0.mk hb; clear hrow hb)
  obtain ⟨g, cap, rfl⟩ := ownsRow_succ HR.out
  go_ret
  rcases HR.out.2 with ⟨_, h0⟩ | ⟨g', cap', cur, he, hbg, hgb, hle, _, hsz, htk⟩
  · omega
  · cases he
    refine ⟨g, cap, rfl, hle, fun i hi => ?_, hbg, HB.out⟩
    have hcur : cur[i]? = some (date_Parse.val b i) := by
      have h2 := congrArg (fun l => l[i]?) htk
      simpa [List.getElem?_take, hi, List.getElem?_map, List.getElem?_range] using h2
    simp [World.cell?, hgb, hcur]

/-- The closure 'number': what strconv.Atoi says of a part of the text; -1: nothing. -/
def date_Parse.num (s : ByteArray) (f t : Nat) : Int := (Lib.atoi (s.extract f t).data.toList).getD (-1)
set_option maxRecDepth 100000 in
theorem date_Parse.number_12_16 (s : ByteArray) (b0 : Nat) (w : World) (hG : Glob w) (hs : s.size = 29) (hc : w.cell? ⟨b0, 0, none⟩ = some (.string s)) :
    Calls Tryd.prog 35 #[.int .i64 12, .int .i64 16, .pointer (some ⟨b0, 0, none⟩)] w fun e w' => e = .returned (.int .i64 (date_Parse.num s 12 16)) ∧ Below w.heap.size w w' := by
  obtain ⟨e1, h1, h2⟩ := hG.errSyntax
  have hsz : (s.extract 12 16).size ≤ 18 := by rw [ByteArray.size_extract]; omega
  have hs' : (s.size : Int) = 29 := by omega
  unfold date_Parse.num
  cases ha : Lib.atoi (s.extract 12 16).data.toList with
  | some v =>
    have HK := Aside0.mk (Tryd.strconv_Atoi (s.extract 12 16) v hsz ha w)
    clear hG h1 h2 ha hsz
    go_enter Tryd.func35, Tryd.ntmps35
    go_wp2_with (go_at_call 36; refine HK.out.mono ?_; rintro e w' ⟨rfl, tt, rfl⟩)
    go_ret
    exact ⟨rfl, Lib.bytesWorld_below _ _ _⟩
  | none =>
    have HK := Aside0.mk (Tryd.strconv_Atoi_err (s.extract 12 16) hsz ha e1 w h1 h2)
    clear hG h1 h2 ha hsz
    go_enter Tryd.func35, Tryd.ntmps35
    go_wp2_with (go_at_call 36; refine HK.out.mono ?_; rintro e w' ⟨N, rfl, _, _, hb⟩; have HB := Aside0.mk hb; clear hb)
    go_ret
    exact ⟨rfl, HB.out⟩
set_option maxRecDepth 100000 in
theorem date_Parse.number_5_7 (s : ByteArray) (b0 : Nat) (w : World) (hG : Glob w) (hs : s.size = 29) (hc : w.cell? ⟨b0, 0, none⟩ = some (.string s)) :
    Calls Tryd.prog 35 #[.int .i64 5, .int .i64 7, .pointer (some ⟨b0, 0, none⟩)] w fun e w' => e = .returned (.int .i64 (date_Parse.num s 5 7)) ∧ Below w.heap.size w w' := by
  obtain ⟨e1, h1, h2⟩ := hG.errSyntax
  have hsz : (s.extract 5 7).size ≤ 18 := by rw [ByteArray.size_extract]; omega
  have hs' : (s.size : Int) = 29 := by omega
  unfold date_Parse.num
  cases ha : Lib.atoi (s.extract 5 7).data.toList with
  | some v =>
    have HK := Aside0.mk (Tryd.strconv_Atoi (s.extract 5 7) v hsz ha w)
    clear hG h1 h2 ha hsz
    go_enter Tryd.func35, Tryd.ntmps35
    go_wp2_with (go_at_call 36; refine HK.out.mono ?_; rintro e w' ⟨rfl, tt, rfl⟩)
    go_ret
    exact ⟨rfl, Lib.bytesWorld_below _ _ _⟩
  | none =>
    have HK := Aside0.mk (Tryd.strconv_Atoi_err (s.extract 5 7) hsz ha e1 w h1 h2)
    clear hG h1 h2 ha hsz
    go_enter Tryd.func35, Tryd.ntmps35
    go_wp2_with (go_at_call 36; refine HK.out.mono ?_; rintro e w' ⟨N, rfl, _, _, hb⟩; have HB := Aside0.mk hb; clear hb)
    go_ret
    exact ⟨rfl, HB.out⟩
set_option maxRecDepth 100000 in
theorem date_Parse.number_17_19 (s : ByteArray) (b0 : Nat) (w : World) (hG : Glob w) (hs : s.size = 29) (hc : w.cell? ⟨b0, 0, none⟩ = some (.string s)) :
    Calls Tryd.prog 35 #[.int .i64 17, .int .i64 19, .pointer (some ⟨b0, 0, none⟩)] w fun e w' => e = .returned (.int .i64 (date_Parse.num s 17 19)) ∧ Below w.heap.size w w' := by
  obtain ⟨e1, h1, h2⟩ := hG.errSyntax
  have hsz : (s.extract 17 19).size ≤ 18 := by rw [ByteArray.size_extract]; omega
  have hs' : (s.size : Int) = 29 := by omega
  unfold date_Parse.num
  cases ha : Lib.atoi (s.extract 17 19).data.toList with
  | some v =>
    have HK := Aside0.mk (Tryd.strconv_Atoi (s.extract 17 19) v hsz ha w)
    clear hG h1 h2 ha hsz
    go_enter Tryd.func35, Tryd.ntmps35
    go_wp2_with (go_at_call 36; refine HK.out.mono ?_; rintro e w' ⟨rfl, tt, rfl⟩)
    go_ret
    exact ⟨rfl, Lib.bytesWorld_below _ _ _⟩
  | none =>
    have HK := Aside0.mk (Tryd.strconv_Atoi_err (s.extract 17 19) hsz ha e1 w h1 h2)
    clear hG h1 h2 ha hsz
    go_enter Tryd.func35, Tryd.ntmps35
    go_wp2_with (go_at_call 36; refine HK.out.mono ?_; rintro e w' ⟨N, rfl, _, _, hb⟩; have HB := Aside0.mk hb; clear hb)
    go_ret
    exact ⟨rfl, HB.out⟩
set_option maxRecDepth 100000 in
theorem date_Parse.number_20_22 (s : ByteArray) (b0 : Nat) (w : World) (hG : Glob w) (hs : s.size = 29) (hc : w.cell? ⟨b0, 0, none⟩ = some (.string s)) :
    Calls Tryd.prog 35 #[.int .i64 20, .int .i64 22, .pointer (some ⟨b0, 0, none⟩)] w fun e w' => e = .returned (.int .i64 (date_Parse.num s 20 22)) ∧ Below w.heap.size w w' := by
  obtain ⟨e1, h1, h2⟩ := hG.errSyntax
  have hsz : (s.extract 20 22).size ≤ 18 := by rw [ByteArray.size_extract]; omega
  have hs' : (s.size : Int) = 29 := by omega
  unfold date_Parse.num
  cases ha : Lib.atoi (s.extract 20 22).data.toList with
  | some v =>
    have HK := Aside0.mk (Tryd.strconv_Atoi (s.extract 20 22) v hsz ha w)
    clear hG h1 h2 ha hsz
    go_enter Tryd.func35, Tryd.ntmps35
    go_wp2_with (go_at_call 36; refine HK.out.mono ?_; rintro e w' ⟨rfl, tt, rfl⟩)
    go_ret
    exact ⟨rfl, Lib.bytesWorld_below _ _ _⟩
  | none =>
    have HK := Aside0.mk (Tryd.strconv_Atoi_err (s.extract 20 22) hsz ha e1 w h1 h2)
    clear hG h1 h2 ha hsz
    go_enter Tryd.func35, Tryd.ntmps35
    go_wp2_with (go_at_call 36; refine HK.out.mono ?_; rintro e w' ⟨N, rfl, _, _, hb⟩; have HB := Aside0.mk hb; clear hb)
    go_ret
    exact ⟨rfl, HB.out⟩
set_option maxRecDepth 100000 in
theorem date_Parse.number_23_25 (s : ByteArray) (b0 : Nat) (w : World) (hG : Glob w) (hs : s.size = 29) (hc : w.cell? ⟨b0, 0, none⟩ = some (.string s)) :
    Calls Tryd.prog 35 #[.int .i64 23, .int .i64 25, .pointer (some ⟨b0, 0, none⟩)] w fun e w' => e = .returned (.int .i64 (date_Parse.num s 23 25)) ∧ Below w.heap.size w w' := by
  obtain ⟨e1, h1, h2⟩ := hG.errSyntax
  have hsz : (s.extract 23 25).size ≤ 18 := by rw [ByteArray.size_extract]; omega
  have hs' : (s.size : Int) = 29 := by omega
  unfold date_Parse.num
  cases ha : Lib.atoi (s.extract 23 25).data.toList with
  | some v =>
    have HK := Aside0.mk (Tryd.strconv_Atoi (s.extract 23 25) v hsz ha w)
    clear hG h1 h2 ha hsz
    go_enter Tryd.func35, Tryd.ntmps35
    go_wp2_with (go_at_call 36; refine HK.out.mono ?_; rintro e w' ⟨rfl, tt, rfl⟩)
    go_ret
    exact ⟨rfl, Lib.bytesWorld_below _ _ _⟩
  | none =>
    have HK := Aside0.mk (Tryd.strconv_Atoi_err (s.extract 23 25) hsz ha e1 w h1 h2)
    clear hG h1 h2 ha hsz
    go_enter Tryd.func35, Tryd.ntmps35
    go_wp2_with (go_at_call 36; refine HK.out.mono ?_; rintro e w' ⟨N, rfl, _, _, hb⟩; have HB := Aside0.mk hb; clear hb)
    go_ret
    exact ⟨rfl, HB.out⟩
/-- A month's word. -/
def date_Parse.word (i : Nat) : ByteArray := date_Parse.MS.extract (3 * i) (3 * i + 3)
theorem date_Parse.join3 : ∀ i, i < 12 → (⟨(Lib.join (([date_Parse.MS.extract (3 * i) (3 * i + 1), date_Parse.MS.extract (3 * i + 1) (3 * i + 2), date_Parse.MS.extract (3 * i + 2) (3 * i + 3)] : List ByteArray).map (·.data.toList)) []).toArray⟩ : ByteArray) = date_Parse.word i := by decide +kernel
theorem date_Parse.join3_len : ∀ i, i < 12 → (Lib.join (([date_Parse.MS.extract (3 * i) (3 * i + 1), date_Parse.MS.extract (3 * i + 1) (3 * i + 2), date_Parse.MS.extract (3 * i + 2) (3 * i + 3)] : List ByteArray).map (·.data.toList)) []).length ≤ 140737488355328 := by decide +kernel
set_option maxRecDepth 100000 in
set_option maxHeartbeats 1000000 in
/-- The closure that looks for a month. -/
theorem date_Parse.pred (s : ByteArray) (i b b0 : Nat) (w : World) (hi : i < 12) (hs : s.size = 29) (hc : w.cell? ⟨b0, 0, none⟩ = some (.string s)) (hcell : ∀ j, j < 36 → w.cell? ⟨b, j, none⟩ = some (.string (date_Parse.MS.extract j (j + 1)))) :
    Calls Tryd.prog 41 #[.slice (some ⟨b, 3 * i, none⟩) 3 3, .pointer (some ⟨b0, 0, none⟩)] w fun e w' => e = .returned (.bool ((date_Parse.word i).toList == (s.extract 8 11).toList)) ∧ Below w.heap.size w w' := by
  have hb : b < w.heap.size := World.block_lt_of_cell? w _ (hcell 0 (by omega))
  have HK : Aside0 (∀ w1 : World, w1.heap = w.heap → Calls Tryd.prog 28 #[.slice (some ⟨b, 3 * i, none⟩) 3 3, .string ⟨#[]⟩] w1 fun e w' => e = .returned (.string (date_Parse.word i)) ∧ Below w1.heap.size w1 w') := ⟨fun w1 hw1 => by
    have := Tryd.strings_Join b (3 * i) 3 [date_Parse.MS.extract (3 * i) (3 * i + 1), date_Parse.MS.extract (3 * i + 1) (3 * i + 2), date_Parse.MS.extract (3 * i + 2) (3 * i + 3)] ⟨#[]⟩ w1 (by
      intro j x hx
      have hcell' : ∀ j, j < 36 → w1.cell? ⟨b, j, none⟩ = some (.string (date_Parse.MS.extract j (j + 1))) := fun j hj => by
        rw [show w1.cell? ⟨b, j, none⟩ = w.cell? ⟨b, j, none⟩ from World.cell?_of_block (by rw [hw1])]
        exact hcell j hj
      match j, hx with
      | 0, hx => cases hx; exact hcell' (3 * i) (by omega)
      | 1, hx => cases hx; exact hcell' (3 * i + 1) (by omega)
      | 2, hx => cases hx; exact hcell' (3 * i + 2) (by omega)) (by rw [hw1]; exact hb) (by simp) (by simp) (date_Parse.join3_len i hi)
    rw [show (⟨#[]⟩ : ByteArray).data.toList = [] from rfl, date_Parse.join3 i hi] at this
    exact this⟩
  have hs' : (s.size : Int) = 29 := by omega
  clear hcell
  go_enter Tryd.func41, Tryd.ntmps41
  go_wp2
  have hcd : w.drew.cell? ⟨b0, 0, none⟩ = some (.string s) := hc
  have hb0 := World.block_lt_of_cell? w.drew _ hcd
  go_region_with (go_at_call 28; refine (HK.out w.drew rfl).mono ?_; rintro e w' ⟨rfl, hb⟩; have hcx := (hb.cell hb0).trans hcd; have HB := Aside0.mk hb; clear hb)
  all_goals (go_wp2; go_ret; exact ⟨rfl, (below_drew1 (Below.refl w.heap.size w)).trans HB.out⟩)
def date_Parse.find (t : ByteArray) : Nat → Nat → Int
  | 0, _ => -1
  | n + 1, i => if (date_Parse.word i).toList = t.toList then (i : Int) else date_Parse.find t n (i + 1)
set_option maxRecDepth 100000 in
set_option maxHeartbeats 2000000 in
/-- slices.IndexFunc over the twelve chunks. -/
theorem date_Parse.index (s : ByteArray) (b b0 g cap : Nat) (r : Int) (w : World) (hs : s.size = 29) (hc : w.cell? ⟨b0, 0, none⟩ = some (.string s)) (hcell : ∀ j, j < 36 → w.cell? ⟨b, j, none⟩ = some (.string (date_Parse.MS.extract j (j + 1))))
    (hg : ∀ i, i < 12 → w.cell? ⟨g, i, none⟩ = some (date_Parse.val b i)) (hcap : 12 ≤ cap) (hr : date_Parse.find (s.extract 8 11) 12 0 = r) :
    Calls Tryd.prog 38 #[.slice (some ⟨g, 0, none⟩) 12 cap, .func (.func 41) #[] #[.pointer (some ⟨b0, 0, none⟩)]] w fun e w' => e = .returned (.int .i64 r) ∧ Below w.heap.size w w' := by
  have HC := Aside0.mk hc
  have HS := Aside0.mk hs
  have HCE := Aside0.mk hcell
  have HGE := Aside0.mk hg
  have HF := Aside0.mk hr
  clear hc hcell hg hr hs
  go_enter Tryd.func38, Tryd.ntmps38
  go_wp2
  go_loopw [8] (fun v8 w' => ∃ j : Nat, v8 = .int .i64 j ∧ j ≤ 12 ∧ Aside0 (date_Parse.find (s.extract 8 11) (12 - j) j = r) ∧ Aside0 (Below w.heap.size w w')) (fun v8 _ => 12 - (intOf v8).toNat)
  case atStart => exact ⟨0, rfl, Nat.zero_le _, HF, ⟨Below.refl _ _⟩⟩
  case round =>
    clear HF
    obtain ⟨j, rfl, hj, HF, HB⟩ := hrel
    by_cases hlt : j < 12
    · have h1 := HF.out
      rw [show 12 - j = (12 - (j + 1)) + 1 by omega, date_Parse.find] at h1
      have hx := HGE.out j hlt
      unfold date_Parse.val at hx
      replace hx := (HB.out.cell (World.block_lt_of_cell? w _ hx)).trans hx
      have hlt' : ((j : Int) < 12) := by omega
      have hj0 : (0 : Int) ≤ (j : Int) := by omega
      have HP := Aside0.mk (fun (w1 : World) (hb : Below w.heap.size w w1) => date_Parse.pred s j b b0 w1 hlt HS.out ((hb.cell (World.block_lt_of_cell? w _ HC.out)).trans HC.out) (fun i hi => (hb.cell (World.block_lt_of_cell? w _ (HCE.out i hi))).trans (HCE.out i hi)))
      clear HF
      by_cases hw : (date_Parse.word j).toList = (s.extract 8 11).toList
      · rw [if_pos hw] at h1
        subst h1
        have hwb : ((date_Parse.word j).toList == (s.extract 8 11).toList) = true := beq_iff_eq.mpr hw
        rw [hwb] at HP
        clear hw hwb
        go_wp2_with (go_at_call 41; refine (HP.out _ HB.out).mono ?_; rintro e w1 ⟨rfl, hb⟩)
        go_ret
        exact ⟨rfl, below_then HB.out HB.out.size hb⟩
      · rw [if_neg hw] at h1
        have hwb : ((date_Parse.word j).toList == (s.extract 8 11).toList) = false := beq_eq_false_iff_ne.mpr hw
        rw [hwb] at HP
        clear hw hwb
        have HF := Aside0.mk h1
        clear h1
        go_wp2_with (go_at_call 41; refine (HP.out _ HB.out).mono ?_; rintro e w1 ⟨rfl, hb⟩)
        go_roundw
        case rel => exact ⟨j + 1, by go_num, by omega, HF, ⟨below_then HB.out HB.out.size hb⟩⟩
        case measure => simp [intOf]; omega
    · obtain rfl : j = 12 := by omega
      have h1 := HF.out
      rw [show 12 - 12 = 0 from rfl, date_Parse.find] at h1
      subst h1
      go_wp2
      go_ret
      exact ⟨rfl, HB.out⟩
theorem date_Parse.ascii : ∀ (j : Nat) (b : UInt8), date_Parse.MS.data.toList[j]? = some b → b.toNat < 128 := by
  intro j b h
  have h1 : date_Parse.MS.data.toList.all (fun b => decide (b.toNat < 128)) = true := by decide +kernel
  simpa using List.all_eq_true.1 h1 b (List.mem_of_getElem? h)
/-- strings.Split(months, ""): a piece a byte. -/
theorem date_Parse.split (w : World) :
    Calls Tryd.prog 37 #[.string date_Parse.MS, .string ⟨#[]⟩] w fun e w' => ∃ b, e = .returned (.slice (some ⟨b, 0, none⟩) 36 36) ∧ w.heap.size ≤ b ∧ (∀ j, j < 36 → w'.cell? ⟨b, j, none⟩ = some (.string (date_Parse.MS.extract j (j + 1)))) ∧ Below w.heap.size w w' := by
  refine (Tryd.strings_Split_chars date_Parse.MS ⟨#[]⟩ w rfl (by decide) date_Parse.ascii).mono ?_
  rintro e w' ⟨rfl, rfl⟩
  refine ⟨_, rfl, by show w.heap.size ≤ (w.alloc _).heap.size; simp, fun j hj => ?_, below_alloc (below_alloc (Below.refl _ _) _) _⟩
  have hl : (Lib.charsB date_Parse.MS).length = 36 := Lib.charsUpTo_length _ _
  have hx : ((Lib.charsB date_Parse.MS).map Value.string).toArray[j]? = some (.string (date_Parse.MS.extract j (j + 1))) := by
    rw [List.getElem?_toArray, List.getElem?_map]
    unfold Lib.charsB Lib.charsUpTo
    rw [List.getElem?_map, List.getElem?_range (by exact hj)]
    rfl
  have h0 := World.alloc_heap_new (w.iter date_Parse.MS date_Parse.MS.size) (.cells ((Lib.charsB date_Parse.MS).map Value.string).toArray 9)
  simp only [World.cell?, h0]
  simpa using hx
theorem date_Parse.splitL (w : World) :
    Calls Tryd.prog 37 #[.string ⟨#[74, 97, 110, 70, 101, 98, 77, 97, 114, 65, 112, 114, 77, 97, 121, 74, 117, 110, 74, 117, 108, 65, 117, 103, 83, 101, 112, 79, 99, 116, 78, 111, 118, 68, 101, 99]⟩, .string ⟨#[]⟩] w fun e w' => ∃ b, e = .returned (.slice (some ⟨b, 0, none⟩) 36 36) ∧ w.heap.size ≤ b ∧ (∀ j, j < 36 → w'.cell? ⟨b, j, none⟩ = some (.string (date_Parse.MS.extract j (j + 1)))) ∧ Below w.heap.size w w' := date_Parse.split w
theorem date_Parse.box0 (w : World) (t1 t2 : TypeId) (v u : Value) : ((w.alloc (.cells #[v] t1)).alloc (.cells #[u] t2)).cell? ⟨w.heap.size, 0, none⟩ = some v := ((Boxed.new w t1 v).alloc _).cell
theorem date_Parse.box1 (w : World) (t1 t2 : TypeId) (v u : Value) : ((w.alloc (.cells #[v] t1)).alloc (.cells #[u] t2)).cell? ⟨w.heap.size + 1, 0, none⟩ = some u := by
  have h := Boxed.new (w.alloc (.cells #[v] t1)) t2 u
  rw [World.size_alloc] at h
  exact h.cell
def date_Parse.sec (s : ByteArray) : Int := wrap64 (wrap64 (wrap64 (date_Parse.num s 17 19 * 3600) + wrap64 (date_Parse.num s 20 22 * 60)) + date_Parse.num s 23 25)
def date_Parse.f (k : Nat) (a0 : ByteArray) : Option (Int × Int) :=
  if a0.size = 29 then (date_Tick.f k (date_Parse.num a0 12 16) (wrap64 (date_Parse.find (a0.extract 8 11) 12 0 + 1)) (date_Parse.num a0 5 7) 0 (date_Parse.sec a0)).bind fun t =>
    if t.2 = 0 then (date_Text.f k t.1).bind fun x => if x.1.toList = a0.toList then some (t.1, 0) else some (0, 2) else some (0, 2)
  else some (0, 2)
theorem date_Parse.mono : ∀ a0 k, LeO (date_Parse.f k a0) (date_Parse.f (k + 1) a0) := by
  intro a0 k
  unfold date_Parse.f
  exact LeO.ite (LeO.bind (date_Tick.mono _ _ _ _ _ k) (fun _ => LeO.ite (LeO.bind (date_Text.mono _ k) (fun _ => LeO.refl _)) (LeO.refl _))) (LeO.refl _)
set_option maxRecDepth 100000 in
set_option maxHeartbeats 4000000 in
theorem date_Parse.calls (k : Nat) (a0 : ByteArray) (r1 : Int) (r2 : Int) (w : World) (hG : Glob w) (h : date_Parse.f k a0 = some (r1, r2)) :
    Calls Tryd.prog 18 #[.string a0] w fun e w' => e = .returned (.tuple #[.int .i64 r1, .int .i64 r2]) ∧ Below w.heap.size w w' := by
  have HG := Aside0.mk hG
  unfold date_Parse.f at h
  by_cases hs : a0.size = 29
  · rw [if_pos hs] at h
    have hs' : (a0.size : Int) = 29 := by omega
    obtain ⟨⟨t, e1⟩, ht, h⟩ := Option.bind_eq_some_iff.mp h
    have HT := Aside0.mk ht
    have HS := Aside0.mk hs
    have HN1 := fun w1 b0 (hg : Glob w1) hc => date_Parse.number_12_16 a0 b0 w1 hg hs hc
    have HN2 := fun w1 b0 (hg : Glob w1) hc => date_Parse.number_5_7 a0 b0 w1 hg hs hc
    have HN3 := fun w1 b0 (hg : Glob w1) hc => date_Parse.number_17_19 a0 b0 w1 hg hs hc
    have HN4 := fun w1 b0 (hg : Glob w1) hc => date_Parse.number_20_22 a0 b0 w1 hg hs hc
    have HN5 := fun w1 b0 (hg : Glob w1) hc => date_Parse.number_23_25 a0 b0 w1 hg hs hc
    unfold date_Parse.sec at HT
    clear ht hG hs
    generalize date_Parse.num a0 12 16 = n1 at HT HN1
    generalize date_Parse.num a0 5 7 = n2 at HT HN2
    generalize date_Parse.num a0 17 19 = n3 at HT HN3
    generalize date_Parse.num a0 20 22 = n4 at HT HN4
    generalize date_Parse.num a0 23 25 = n5 at HT HN5
    generalize hm : date_Parse.find (a0.extract 8 11) 12 0 = m at HT
    have HM := Aside0.mk hm
    have N1 := Aside0.mk HN1
    have N2 := Aside0.mk HN2
    have N3 := Aside0.mk HN3
    have N4 := Aside0.mk HN4
    have N5 := Aside0.mk HN5
    clear hm HN1 HN2 HN3 HN4 HN5
    have HB := Aside0.mk (below_alloc (Below.refl w.heap.size w) (.cells #[.string a0] 9))
    have HC0 := Aside0.mk (show (w.alloc (.cells #[.string a0] 9)).cell? ⟨w.heap.size, 0, none⟩ = some (.string a0) by simp)
    have h' : (if e1 = 0 then (date_Text.f k t).bind fun x => if x.1.toList = a0.toList then some (t, 0) else some (0, 2) else some (0, 2)) = some (r1, r2) := h
    clear h
    by_cases c1 : e1 = 0
    · rw [if_pos c1] at h'
      obtain ⟨⟨x, e2⟩, hx, h'⟩ := Option.bind_eq_some_iff.mp h'
      have HX := Aside0.mk hx
      have h'' : (if x.toList = a0.toList then some (t, (0 : Int)) else some (0, 2)) = some (r1, r2) := h'
      clear hx h'
      have c1b : (e1 != 0) = false := bne_eq_false_iff_eq.mpr c1
      clear c1
      by_cases c2 : x.toList = a0.toList
      · rw [if_pos c2] at h''
        have c2b : (x.toList != a0.toList) = false := bne_eq_false_iff_eq.mpr c2
        have c2c : (x.toList == a0.toList) = true := beq_iff_eq.mpr c2
        obtain ⟨rfl, rfl⟩ := Prod.mk.inj (Option.some.inj h'')
        clear c2 h''
        go_enter Tryd.func18, Tryd.ntmps18
        go_wp2_with (first | (go_at_call 37; (with_reducible refine (date_Parse.splitL _).mono ?_); rintro e ws ⟨b, rfl, hbb, hce, hb⟩; have HCE := Aside0.mk hce; have HBB := Aside0.mk hbb; clear hce hbb; have n0_ := Aside0.mk (below_step HB.out hb); have n1_ := Aside0.mk ((hb.cell (World.block_lt_of_cell? _ _ HC0.out)).trans HC0.out); clear HB HC0; have HB := n0_; have HC0 := n1_; clear n0_ n1_ hb) | (go_at_call 40; (with_reducible refine (date_Parse.chunk _ _).mono ?_); rintro e wt ⟨rfl, rfl⟩) | (go_at_call 39; (with_reducible refine (date_Parse.collect ws.heap.size (ws.heap.size + 1) b _ (by rw [World.size_alloc, World.size_alloc]; omega) (by rw [World.size_alloc, World.size_alloc]; omega) (date_Parse.box0 _ _ _ _ _) (date_Parse.box1 _ _ _ _ _)).mono ?_); rintro e wc ⟨g, cap, rfl, hcap, hgc, hgb, hb⟩; have HGC := Aside0.mk hgc; have n0_ := Aside0.mk (below_step (below_alloc (below_alloc HB.out _) _) hb); have n1_ := Aside0.mk ((hb.cell (p := ⟨w.heap.size, 0, none⟩) (by have := World.block_lt_of_cell? _ _ HC0.out; simp at this ⊢; omega)).trans ((below_alloc (below_alloc (Below.refl ws.heap.size ws) _) _).cell (p := ⟨w.heap.size, 0, none⟩) (World.block_lt_of_cell? _ _ HC0.out) |>.trans HC0.out)); have n2_ := Aside0.mk (fun j (hj : j < 36) => (hb.cell (p := ⟨b, j, none⟩) (by have := World.block_lt_of_cell? _ _ (HCE.out j hj); simp at this ⊢; omega)).trans ((below_alloc (below_alloc (Below.refl ws.heap.size ws) _) _).cell (p := ⟨b, j, none⟩) (World.block_lt_of_cell? _ _ (HCE.out j hj)) |>.trans (HCE.out j hj))); clear HB HC0 HCE; have HB := n0_; have HC0 := n1_; have HCE := n2_; clear n0_ n1_ n2_ hb hgc hgb) | (go_at_call 38; (with_reducible refine (date_Parse.index a0 b w.heap.size g cap m _ HS.out HC0.out HCE.out HGC.out hcap HM.out).mono ?_); rintro e wi ⟨rfl, hb⟩; clear HCE HGC; have n0_ := Aside0.mk (below_step HB.out hb); have n1_ := Aside0.mk ((hb.cell (World.block_lt_of_cell? _ _ HC0.out)).trans HC0.out); clear HB HC0; have HB := n0_; have HC0 := n1_; clear n0_ n1_ hb) | (go_at_call 35; (with_reducible refine (N1.out _ w.heap.size (Glob.below HG.out HB.out) HC0.out).mono ?_); rintro e wn1 ⟨rfl, hb⟩; have n0_ := Aside0.mk (below_step HB.out hb); have n1_ := Aside0.mk ((hb.cell (World.block_lt_of_cell? _ _ HC0.out)).trans HC0.out); clear HB HC0; have HB := n0_; have HC0 := n1_; clear n0_ n1_ hb) | (go_at_call 35; (with_reducible refine (N2.out _ w.heap.size (Glob.below HG.out HB.out) HC0.out).mono ?_); rintro e wn2 ⟨rfl, hb⟩; have n0_ := Aside0.mk (below_step HB.out hb); have n1_ := Aside0.mk ((hb.cell (World.block_lt_of_cell? _ _ HC0.out)).trans HC0.out); clear HB HC0; have HB := n0_; have HC0 := n1_; clear n0_ n1_ hb) | (go_at_call 35; (with_reducible refine (N3.out _ w.heap.size (Glob.below HG.out HB.out) HC0.out).mono ?_); rintro e wn3 ⟨rfl, hb⟩; have n0_ := Aside0.mk (below_step HB.out hb); have n1_ := Aside0.mk ((hb.cell (World.block_lt_of_cell? _ _ HC0.out)).trans HC0.out); clear HB HC0; have HB := n0_; have HC0 := n1_; clear n0_ n1_ hb) | (go_at_call 35; (with_reducible refine (N4.out _ w.heap.size (Glob.below HG.out HB.out) HC0.out).mono ?_); rintro e wn4 ⟨rfl, hb⟩; have n0_ := Aside0.mk (below_step HB.out hb); have n1_ := Aside0.mk ((hb.cell (World.block_lt_of_cell? _ _ HC0.out)).trans HC0.out); clear HB HC0; have HB := n0_; have HC0 := n1_; clear n0_ n1_ hb) | (go_at_call 35; (with_reducible refine (N5.out _ w.heap.size (Glob.below HG.out HB.out) HC0.out).mono ?_); rintro e wn5 ⟨rfl, hb⟩; have n0_ := Aside0.mk (below_step HB.out hb); have n1_ := Aside0.mk ((hb.cell (World.block_lt_of_cell? _ _ HC0.out)).trans HC0.out); clear HB HC0; have HB := n0_; have HC0 := n1_; clear n0_ n1_ hb) | (go_at_call 14; (with_reducible refine (date_Tick.calls k _ _ _ _ _ _ _ _ HT.out).mono ?_); rintro e wk ⟨rfl, hb⟩; have n0_ := Aside0.mk (below_step HB.out hb); have n1_ := Aside0.mk ((hb.cell (World.block_lt_of_cell? _ _ HC0.out)).trans HC0.out); clear HB HC0; have HB := n0_; have HC0 := n1_; clear n0_ n1_ hb) | (go_at_call 16; (with_reducible refine (date_Text.calls k _ _ _ _ (Glob.below HG.out HB.out) HX.out).mono ?_); rintro e wx ⟨rfl, hb⟩; have n0_ := Aside0.mk (below_step HB.out hb); have n1_ := Aside0.mk ((hb.cell (World.block_lt_of_cell? _ _ HC0.out)).trans HC0.out); clear HB HC0; have HB := n0_; have HC0 := n1_; clear n0_ n1_ hb; have hcz := HC0.out))
        go_ret2
        exact ⟨by first | rfl | simp, HB.out⟩
      · rw [if_neg c2] at h''
        have c2b : (x.toList != a0.toList) = true := bne_iff_ne.mpr c2
        have c2c : (x.toList == a0.toList) = false := beq_eq_false_iff_ne.mpr c2
        obtain ⟨rfl, rfl⟩ := Prod.mk.inj (Option.some.inj h'')
        clear c2 h''
        go_enter Tryd.func18, Tryd.ntmps18
        go_wp2_with (first | (go_at_call 37; (with_reducible refine (date_Parse.splitL _).mono ?_); rintro e ws ⟨b, rfl, hbb, hce, hb⟩; have HCE := Aside0.mk hce; have HBB := Aside0.mk hbb; clear hce hbb; have n0_ := Aside0.mk (below_step HB.out hb); have n1_ := Aside0.mk ((hb.cell (World.block_lt_of_cell? _ _ HC0.out)).trans HC0.out); clear HB HC0; have HB := n0_; have HC0 := n1_; clear n0_ n1_ hb) | (go_at_call 40; (with_reducible refine (date_Parse.chunk _ _).mono ?_); rintro e wt ⟨rfl, rfl⟩) | (go_at_call 39; (with_reducible refine (date_Parse.collect ws.heap.size (ws.heap.size + 1) b _ (by rw [World.size_alloc, World.size_alloc]; omega) (by rw [World.size_alloc, World.size_alloc]; omega) (date_Parse.box0 _ _ _ _ _) (date_Parse.box1 _ _ _ _ _)).mono ?_); rintro e wc ⟨g, cap, rfl, hcap, hgc, hgb, hb⟩; have HGC := Aside0.mk hgc; have n0_ := Aside0.mk (below_step (below_alloc (below_alloc HB.out _) _) hb); have n1_ := Aside0.mk ((hb.cell (p := ⟨w.heap.size, 0, none⟩) (by have := World.block_lt_of_cell? _ _ HC0.out; simp at this ⊢; omega)).trans ((below_alloc (below_alloc (Below.refl ws.heap.size ws) _) _).cell (p := ⟨w.heap.size, 0, none⟩) (World.block_lt_of_cell? _ _ HC0.out) |>.trans HC0.out)); have n2_ := Aside0.mk (fun j (hj : j < 36) => (hb.cell (p := ⟨b, j, none⟩) (by have := World.block_lt_of_cell? _ _ (HCE.out j hj); simp at this ⊢; omega)).trans ((below_alloc (below_alloc (Below.refl ws.heap.size ws) _) _).cell (p := ⟨b, j, none⟩) (World.block_lt_of_cell? _ _ (HCE.out j hj)) |>.trans (HCE.out j hj))); clear HB HC0 HCE; have HB := n0_; have HC0 := n1_; have HCE := n2_; clear n0_ n1_ n2_ hb hgc hgb) | (go_at_call 38; (with_reducible refine (date_Parse.index a0 b w.heap.size g cap m _ HS.out HC0.out HCE.out HGC.out hcap HM.out).mono ?_); rintro e wi ⟨rfl, hb⟩; clear HCE HGC; have n0_ := Aside0.mk (below_step HB.out hb); have n1_ := Aside0.mk ((hb.cell (World.block_lt_of_cell? _ _ HC0.out)).trans HC0.out); clear HB HC0; have HB := n0_; have HC0 := n1_; clear n0_ n1_ hb) | (go_at_call 35; (with_reducible refine (N1.out _ w.heap.size (Glob.below HG.out HB.out) HC0.out).mono ?_); rintro e wn1 ⟨rfl, hb⟩; have n0_ := Aside0.mk (below_step HB.out hb); have n1_ := Aside0.mk ((hb.cell (World.block_lt_of_cell? _ _ HC0.out)).trans HC0.out); clear HB HC0; have HB := n0_; have HC0 := n1_; clear n0_ n1_ hb) | (go_at_call 35; (with_reducible refine (N2.out _ w.heap.size (Glob.below HG.out HB.out) HC0.out).mono ?_); rintro e wn2 ⟨rfl, hb⟩; have n0_ := Aside0.mk (below_step HB.out hb); have n1_ := Aside0.mk ((hb.cell (World.block_lt_of_cell? _ _ HC0.out)).trans HC0.out); clear HB HC0; have HB := n0_; have HC0 := n1_; clear n0_ n1_ hb) | (go_at_call 35; (with_reducible refine (N3.out _ w.heap.size (Glob.below HG.out HB.out) HC0.out).mono ?_); rintro e wn3 ⟨rfl, hb⟩; have n0_ := Aside0.mk (below_step HB.out hb); have n1_ := Aside0.mk ((hb.cell (World.block_lt_of_cell? _ _ HC0.out)).trans HC0.out); clear HB HC0; have HB := n0_; have HC0 := n1_; clear n0_ n1_ hb) | (go_at_call 35; (with_reducible refine (N4.out _ w.heap.size (Glob.below HG.out HB.out) HC0.out).mono ?_); rintro e wn4 ⟨rfl, hb⟩; have n0_ := Aside0.mk (below_step HB.out hb); have n1_ := Aside0.mk ((hb.cell (World.block_lt_of_cell? _ _ HC0.out)).trans HC0.out); clear HB HC0; have HB := n0_; have HC0 := n1_; clear n0_ n1_ hb) | (go_at_call 35; (with_reducible refine (N5.out _ w.heap.size (Glob.below HG.out HB.out) HC0.out).mono ?_); rintro e wn5 ⟨rfl, hb⟩; have n0_ := Aside0.mk (below_step HB.out hb); have n1_ := Aside0.mk ((hb.cell (World.block_lt_of_cell? _ _ HC0.out)).trans HC0.out); clear HB HC0; have HB := n0_; have HC0 := n1_; clear n0_ n1_ hb) | (go_at_call 14; (with_reducible refine (date_Tick.calls k _ _ _ _ _ _ _ _ HT.out).mono ?_); rintro e wk ⟨rfl, hb⟩; have n0_ := Aside0.mk (below_step HB.out hb); have n1_ := Aside0.mk ((hb.cell (World.block_lt_of_cell? _ _ HC0.out)).trans HC0.out); clear HB HC0; have HB := n0_; have HC0 := n1_; clear n0_ n1_ hb) | (go_at_call 16; (with_reducible refine (date_Text.calls k _ _ _ _ (Glob.below HG.out HB.out) HX.out).mono ?_); rintro e wx ⟨rfl, hb⟩; have n0_ := Aside0.mk (below_step HB.out hb); have n1_ := Aside0.mk ((hb.cell (World.block_lt_of_cell? _ _ HC0.out)).trans HC0.out); clear HB HC0; have HB := n0_; have HC0 := n1_; clear n0_ n1_ hb; have hcz := HC0.out))
        go_ret2
        exact ⟨by first | rfl | simp, HB.out⟩
    · rw [if_neg c1] at h'
      have c1b : (e1 != 0) = true := bne_iff_ne.mpr c1
      obtain ⟨rfl, rfl⟩ := Prod.mk.inj (Option.some.inj h')
      clear c1 h'
      go_enter Tryd.func18, Tryd.ntmps18
      go_wp2_with (first | (go_at_call 37; (with_reducible refine (date_Parse.splitL _).mono ?_); rintro e ws ⟨b, rfl, hbb, hce, hb⟩; have HCE := Aside0.mk hce; have HBB := Aside0.mk hbb; clear hce hbb; have n0_ := Aside0.mk (below_step HB.out hb); have n1_ := Aside0.mk ((hb.cell (World.block_lt_of_cell? _ _ HC0.out)).trans HC0.out); clear HB HC0; have HB := n0_; have HC0 := n1_; clear n0_ n1_ hb) | (go_at_call 40; (with_reducible refine (date_Parse.chunk _ _).mono ?_); rintro e wt ⟨rfl, rfl⟩) | (go_at_call 39; (with_reducible refine (date_Parse.collect ws.heap.size (ws.heap.size + 1) b _ (by rw [World.size_alloc, World.size_alloc]; omega) (by rw [World.size_alloc, World.size_alloc]; omega) (date_Parse.box0 _ _ _ _ _) (date_Parse.box1 _ _ _ _ _)).mono ?_); rintro e wc ⟨g, cap, rfl, hcap, hgc, hgb, hb⟩; have HGC := Aside0.mk hgc; have n0_ := Aside0.mk (below_step (below_alloc (below_alloc HB.out _) _) hb); have n1_ := Aside0.mk ((hb.cell (p := ⟨w.heap.size, 0, none⟩) (by have := World.block_lt_of_cell? _ _ HC0.out; simp at this ⊢; omega)).trans ((below_alloc (below_alloc (Below.refl ws.heap.size ws) _) _).cell (p := ⟨w.heap.size, 0, none⟩) (World.block_lt_of_cell? _ _ HC0.out) |>.trans HC0.out)); have n2_ := Aside0.mk (fun j (hj : j < 36) => (hb.cell (p := ⟨b, j, none⟩) (by have := World.block_lt_of_cell? _ _ (HCE.out j hj); simp at this ⊢; omega)).trans ((below_alloc (below_alloc (Below.refl ws.heap.size ws) _) _).cell (p := ⟨b, j, none⟩) (World.block_lt_of_cell? _ _ (HCE.out j hj)) |>.trans (HCE.out j hj))); clear HB HC0 HCE; have HB := n0_; have HC0 := n1_; have HCE := n2_; clear n0_ n1_ n2_ hb hgc hgb) | (go_at_call 38; (with_reducible refine (date_Parse.index a0 b w.heap.size g cap m _ HS.out HC0.out HCE.out HGC.out hcap HM.out).mono ?_); rintro e wi ⟨rfl, hb⟩; clear HCE HGC; have n0_ := Aside0.mk (below_step HB.out hb); have n1_ := Aside0.mk ((hb.cell (World.block_lt_of_cell? _ _ HC0.out)).trans HC0.out); clear HB HC0; have HB := n0_; have HC0 := n1_; clear n0_ n1_ hb) | (go_at_call 35; (with_reducible refine (N1.out _ w.heap.size (Glob.below HG.out HB.out) HC0.out).mono ?_); rintro e wn1 ⟨rfl, hb⟩; have n0_ := Aside0.mk (below_step HB.out hb); have n1_ := Aside0.mk ((hb.cell (World.block_lt_of_cell? _ _ HC0.out)).trans HC0.out); clear HB HC0; have HB := n0_; have HC0 := n1_; clear n0_ n1_ hb) | (go_at_call 35; (with_reducible refine (N2.out _ w.heap.size (Glob.below HG.out HB.out) HC0.out).mono ?_); rintro e wn2 ⟨rfl, hb⟩; have n0_ := Aside0.mk (below_step HB.out hb); have n1_ := Aside0.mk ((hb.cell (World.block_lt_of_cell? _ _ HC0.out)).trans HC0.out); clear HB HC0; have HB := n0_; have HC0 := n1_; clear n0_ n1_ hb) | (go_at_call 35; (with_reducible refine (N3.out _ w.heap.size (Glob.below HG.out HB.out) HC0.out).mono ?_); rintro e wn3 ⟨rfl, hb⟩; have n0_ := Aside0.mk (below_step HB.out hb); have n1_ := Aside0.mk ((hb.cell (World.block_lt_of_cell? _ _ HC0.out)).trans HC0.out); clear HB HC0; have HB := n0_; have HC0 := n1_; clear n0_ n1_ hb) | (go_at_call 35; (with_reducible refine (N4.out _ w.heap.size (Glob.below HG.out HB.out) HC0.out).mono ?_); rintro e wn4 ⟨rfl, hb⟩; have n0_ := Aside0.mk (below_step HB.out hb); have n1_ := Aside0.mk ((hb.cell (World.block_lt_of_cell? _ _ HC0.out)).trans HC0.out); clear HB HC0; have HB := n0_; have HC0 := n1_; clear n0_ n1_ hb) | (go_at_call 35; (with_reducible refine (N5.out _ w.heap.size (Glob.below HG.out HB.out) HC0.out).mono ?_); rintro e wn5 ⟨rfl, hb⟩; have n0_ := Aside0.mk (below_step HB.out hb); have n1_ := Aside0.mk ((hb.cell (World.block_lt_of_cell? _ _ HC0.out)).trans HC0.out); clear HB HC0; have HB := n0_; have HC0 := n1_; clear n0_ n1_ hb) | (go_at_call 14; (with_reducible refine (date_Tick.calls k _ _ _ _ _ _ _ _ HT.out).mono ?_); rintro e wk ⟨rfl, hb⟩; have n0_ := Aside0.mk (below_step HB.out hb); have n1_ := Aside0.mk ((hb.cell (World.block_lt_of_cell? _ _ HC0.out)).trans HC0.out); clear HB HC0; have HB := n0_; have HC0 := n1_; clear n0_ n1_ hb) | (go_at_call 16; (with_reducible refine (date_Text.calls k _ _ _ _ (Glob.below HG.out HB.out) HX.out).mono ?_); rintro e wx ⟨rfl, hb⟩; have n0_ := Aside0.mk (below_step HB.out hb); have n1_ := Aside0.mk ((hb.cell (World.block_lt_of_cell? _ _ HC0.out)).trans HC0.out); clear HB HC0; have HB := n0_; have HC0 := n1_; clear n0_ n1_ hb; have hcz := HC0.out))
      go_ret2
      exact ⟨by first | rfl | simp, HB.out⟩
  · rw [if_neg hs] at h
    obtain ⟨rfl, rfl⟩ := Prod.mk.inj (Option.some.inj h)
    have hs' : ¬ ((a0.size : Int) = 29) := by omega
    clear h hG hs
    go_enter Tryd.func18, Tryd.ntmps18
    go_wp2
    go_ret2
    exact ⟨by simp, below_alloc (Below.refl _ _) _⟩


end Go.Proofs.YtiifmbajiibciaaDoor.X
