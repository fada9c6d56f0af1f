-- Printed by a program of this session (pp.py: the kit's print.py, run with contracts of its own) out of the translation. Not trusted: Lean checks it.
import Derived.Test.YtcdjeofhhhffcaaDoorX0
namespace Go.Proofs.YtcdjeofhhhffcaaDoor.X
open Go.RowKit Go.Proofs.YtcdjeofhhhffcaaDoorW.PrintWords Go.Proofs.YtcdjeofhhhffcaaDoorW.PrintLast Go.Proofs.YtcdjeofhhhffcaaDoorW.PrintMore
attribute [local go_sem] max2_int min2_int max_two min_two max_three min_three max_four min_four   -- for this text's walks alone
set_option linter.unusedVariables false
set_option linter.unusedSimpArgs false

/-! ### mandolineref07_Token: function 41 -/
def mandolineref07_Token.signs : List Int := [33, 35, 36, 37, 38, 39, 42, 43, 45, 46, 94, 95, 96, 124, 126]
def mandolineref07_Token.al (c : Int) : Bool := decide (48 ≤ c ∧ c ≤ 57 ∨ 65 ≤ c ∧ c ≤ 90 ∨ 97 ≤ c ∧ c ≤ 122)
def mandolineref07_Token.acc (c : Int) (m : Nat) : Bool := mandolineref07_Token.al c || (mandolineref07_Token.signs.take m).any (fun x => c == x)
def mandolineref07_Token.ok (c : Int) : Bool := mandolineref07_Token.al c || mandolineref07_Token.signs.any (fun x => c == x)
theorem mandolineref07_Token.acc_succ (c : Int) (m : Nat) (h : m < mandolineref07_Token.signs.length) : mandolineref07_Token.acc c (m + 1) = (mandolineref07_Token.acc c m || (c == mandolineref07_Token.signs[m])) := by
  unfold mandolineref07_Token.acc
  rw [List.take_succ_eq_append_getElem h, List.any_append, Bool.or_assoc]
  simp
def mandolineref07_Token.f (k : Nat) (a0 : ByteArray) : Option (Bool) := if a0.size ≤ 140737488351232 then some (a0.data.toList.all (fun b => mandolineref07_Token.ok (b.toNat : Int)) && decide ((a0.size : Int) > 0)) else none
theorem mandolineref07_Token.mono : ∀ a0 k, LeO (mandolineref07_Token.f k a0) (mandolineref07_Token.f (k + 1) a0) := fun _ _ => LeO.refl _
theorem mandolineref07_Token.all_take (l : List UInt8) (j : Nat) (hj : j < l.length) (p : UInt8 → Bool) : (l.take (j + 1)).all p = ((l.take j).all p && p l[j]) := by
  rw [List.take_succ_eq_append_getElem hj, List.all_append]; simp
theorem mandolineref07_Token.all_false (l : List UInt8) (j : Nat) (hj : j < l.length) (p : UInt8 → Bool) (h : p l[j] = false) : l.all p = false := by
  rw [List.all_eq_false]; exact ⟨l[j], List.getElem_mem hj, by rw [h]; decide⟩
set_option maxHeartbeats 4000000 in
set_option maxRecDepth 100000 in
theorem mandolineref07_Token.calls (k : Nat) (a0 : ByteArray) (r : Bool) (w : World) (h : mandolineref07_Token.f k a0 = some r) :
    Calls Tryd.prog 41 #[.string a0] w fun e w' => e = .returned (.bool r) ∧ Below w.heap.size w w' := by
  unfold mandolineref07_Token.f at h
  split at h
  rotate_left
  · exact absurd h (by simp)
  rename_i hs0
  have HR := Aside0.mk (Option.some.inj h)
  clear h
  have hs : (a0.size : Int) ≤ 140737488351232 := by omega
  have hs1 : (0 : Int) ≤ (a0.size : Int) := by omega
  have HLEN := Aside0.mk (show a0.data.toList.length = a0.size by simp)
  clear hs0
  go_enter Tryd.func41, Tryd.ntmps41
  go_wp2
  go_loopw [3] (fun v3 w' => ∃ j : Nat, v3 = .int .i64 j ∧ j ≤ a0.size ∧ Aside0 ((a0.data.toList.take j).all (fun b => mandolineref07_Token.ok (b.toNat : Int)) = true) ∧ Aside0 (Below w.heap.size w w')) (fun v3 _ => a0.size - (intOf v3).toNat)
  case atStart => exact ⟨0, rfl, Nat.zero_le _, ⟨by simp⟩, ⟨Below.refl _ _⟩⟩
  case round =>
    obtain ⟨j, rfl, hj, HA, HB⟩ := hrel
    by_cases hlt : j < a0.size
    · have hjl : j < a0.data.toList.length := by have := HLEN.out; omega
      have hlt' : ((j : Int) < (a0.size : Int)) := by omega
      have hj0 : (0 : Int) ≤ (j : Int) := by omega
      obtain ⟨c, hx, hc⟩ : ∃ c : Int, (∀ h : j < a0.size, ((a0[j]'h).toNat : Int) = c) ∧ c = (a0.data.toList[j].toNat : Int) := ⟨_, fun h => rfl, rfl⟩
      have HC := Aside0.mk hc
      clear hc
      go_upto_region 5 with (fail)
      go_cut [4, 5] (fun v4 v5 wc => v4 = .int .u8 c ∧ v5 = .bool (mandolineref07_Token.al c) ∧ wr = wc)
      case first =>
        go_wp2
        all_goals
          go_meet
          case rel =>
            refine ⟨rfl, ?_, rfl⟩
            unfold mandolineref07_Token.al
            congr 1
            rw [Bool.eq_iff_iff]
            simp only [Bool.or_eq_true, decide_eq_true_eq, Bool.false_eq_true, true_iff, false_iff]
            omega
      case rest =>
        clear hx
        obtain ⟨rfl, rfl, rfl⟩ := hcut
        have hq0 : mandolineref07_Token.acc c 0 = mandolineref07_Token.al c := by simp [mandolineref07_Token.acc]
        have HQ := Aside0.mk hq0
        clear hq0
        obtain ⟨q, hq⟩ : ∃ q, q = mandolineref07_Token.al c := ⟨_, rfl⟩
        rw [← hq]
        rw [← hq] at HQ
        clear hq
        have hconv := Go.Joins.run_convert_bytes_const_at (P := Tryd.prog) wr 64 5 #[.int .u8 33, .int .u8 35, .int .u8 36, .int .u8 37, .int .u8 38, .int .u8 39, .int .u8 42, .int .u8 43, .int .u8 45, .int .u8 46, .int .u8 94, .int .u8 95, .int .u8 96, .int .u8 124, .int .u8 126] 15 15 wr.heap.size rfl Tryd.underlying64 Tryd.underlying5
        go_wp2
        have hrow : ∀ (m : Nat) (h : m < mandolineref07_Token.signs.length), (wr.alloc (.cells #[.int .u8 33, .int .u8 35, .int .u8 36, .int .u8 37, .int .u8 38, .int .u8 39, .int .u8 42, .int .u8 43, .int .u8 45, .int .u8 46, .int .u8 94, .int .u8 95, .int .u8 96, .int .u8 124, .int .u8 126] 5 (15, 16))).cell? ⟨wr.heap.size, m, none⟩ = some (.int .u8 (mandolineref07_Token.signs[m])) := by
          intro m h
          rw [World.cell?_alloc_mark]
          have h15 : m < 15 := h
          match m, h15 with
          | 0, _ | 1, _ | 2, _ | 3, _ | 4, _ | 5, _ | 6, _ | 7, _ | 8, _ | 9, _ | 10, _ | 11, _ | 12, _ | 13, _ | 14, _ => rfl
        have HB1 := Aside0.mk (below_alloc HB.out (.cells #[.int .u8 33, .int .u8 35, .int .u8 36, .int .u8 37, .int .u8 38, .int .u8 39, .int .u8 42, .int .u8 43, .int .u8 45, .int .u8 46, .int .u8 94, .int .u8 95, .int .u8 96, .int .u8 124, .int .u8 126] 5 (15, 16)))
        have HROW := Aside0.mk hrow
        clear hrow hconv HB
        generalize wr.alloc (.cells #[.int .u8 33, .int .u8 35, .int .u8 36, .int .u8 37, .int .u8 38, .int .u8 39, .int .u8 42, .int .u8 43, .int .u8 45, .int .u8 46, .int .u8 94, .int .u8 95, .int .u8 96, .int .u8 124, .int .u8 126] 5 (15, 16)) = w1 at HROW HB1 ⊢
        generalize wr.heap.size = g at HROW ⊢
        go_loop [5, 42] (fun v5 v42 => ∃ m : Nat, v42 = .int .i64 m ∧ m ≤ 15 ∧ v5 = .bool (mandolineref07_Token.acc c m)) (fun _ v42 => 15 - (intOf v42).toNat)
        case atStart => exact ⟨0, rfl, Nat.zero_le _, by rw [HQ.out]⟩
        case round =>
          obtain ⟨m, rfl, hm, rfl⟩ := hrel
          by_cases hm' : m < 15
          · have hx := HROW.out m hm'
            have hs := mandolineref07_Token.acc_succ c m hm'
            have HS := Aside0.mk hs
            clear hs
            generalize mandolineref07_Token.signs[m]'hm' = x at hx HS
            have hmi : ((m : Int) < 15) := by omega
            have hm0 : (0 : Int) ≤ (m : Int) := by omega
            generalize mandolineref07_Token.acc c m = p at HS
            cases p with
            | true =>
              go_wp2
              go_round
              case rel => exact ⟨m + 1, by go_num, by omega, by rw [HS.out]; rfl⟩
              case measure => simp [intOf]; omega
            | false =>
              go_wp2
              go_round
              case rel => exact ⟨m + 1, by go_num, by omega, by rw [HS.out]; rfl⟩
              case measure => simp [intOf]; omega
          · have hmi : ¬ ((m : Int) < 15) := by omega
            have h15 : m = 15 := by omega
            have ho : mandolineref07_Token.acc c m = mandolineref07_Token.ok c := by rw [h15]; rfl
            have HO := Aside0.mk ho
            clear ho h15
            generalize mandolineref07_Token.acc c m = p at HO
            cases p with
            | true =>
              go_wp2
              refine ⟨⟨j + 1, by go_num, by omega, ⟨?_⟩, HB1⟩, by simp [intOf]; omega⟩
              rw [mandolineref07_Token.all_take _ j hjl, HA.out, ← HC.out, ← HO.out]
              rfl
            | false =>
              have hr : r = false := by rw [← HR.out, mandolineref07_Token.all_false _ j hjl _ (by rw [← HC.out, ← HO.out])]; rfl
              subst hr
              go_wp2
              go_ret
              exact ⟨rfl, HB1.out⟩
    · have hj' : j = a0.size := by omega
      have hlt' : ¬ ((j : Int) < (a0.size : Int)) := by omega
      have hr : r = decide ((a0.size : Int) > 0) := by
        rw [← HR.out]
        have := HA.out
        rw [List.take_of_length_le (by have := HLEN.out; omega)] at this
        rw [this]
        rfl
      subst hr
      clear hj' HR
      go_wp2
      go_ret
      exact ⟨rfl, HB.out⟩


end Go.Proofs.YtcdjeofhhhffcaaDoor.X
