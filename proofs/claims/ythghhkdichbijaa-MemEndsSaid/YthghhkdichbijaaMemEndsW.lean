/- MemEnds, by hand: a cell is used as often as there are generations, and never again. -/
import Derived.Test.YthghhkdichbijaaMem5
namespace Go.Proofs.Ythghhkdichbijaa.Mem
open Go.RowKit Go.Proofs.YthghhkdichbijaaW.PrintWords Go.Proofs.Ythghhkdichbijaa.Tags
set_option linter.unusedVariables false
set_option linter.unusedSimpArgs false
section
def one (v : Value) (g c l s : Int) : M := ⟨[⟨v, g, 0, false⟩], c, l, s⟩
theorem one_alloc (n g c s : Int) (h0 : 0 ≤ g) (h1 : g ≤ 16383) : (one .nilIface g c 0 s).alloc (number n) = (one (number n) g (wrap64 (c + 1)) 1 s, g * 65536 + 1, 0) := by
  have e : Cl.may ⟨.nilIface, g, 0, false⟩ = true := by simp [Cl.may, Cl.free, h1]
  have er : (one .nilIface g c 0 s).tick.room = some 0 := by simp [M.room, one, M.tick, e]
  have eh : hOf 0 g = g * 65536 + 1 := by unfold hOf; rw [if_pos ⟨h0, h1⟩]; simp
  unfold M.alloc M.putv
  rw [er]
  show ((⟨[⟨number n, g, 0, false⟩], wrap64 (c + 1), wrap64 (0 + 1), s⟩ : M), hOf 0 g, (0 : Int)) = _
  rw [eh, show wrap64 (0 + 1) = 1 from by unfold wrap64; omega]
  rfl
theorem one_full (n g c s : Int) (h1 : 16383 < g) : (one .nilIface g c 0 s).alloc (number n) = (one .nilIface g (wrap64 (c + 1)) 0 s, 0, 3) := by
  have e : Cl.may ⟨.nilIface, g, 0, false⟩ = false := by simp [Cl.may, Cl.free]; omega
  have er : (one .nilIface g c 0 s).tick.room = none := by simp [M.room, one, M.tick, e]
  unfold M.alloc M.putv
  rw [er]
  rfl
theorem one_free (n g c s : Int) (h0 : 0 ≤ g) (h1 : g ≤ 16383) : (one (number n) g c 1 s).free (g * 65536 + 1) = (one .nilIface (g + 1) (wrap64 (c + 1)) 0 s, 0) := by
  have hr1 : hr (g * 65536 + 1) = true := (hr_iff _).2 (by omega)
  have hm : (g * 65536 + 1) % 65536 - 1 = 0 := by omega
  have hd : g = (g * 65536 + 1) / 65536 := by omega
  have hf : (one (number n) g c 1 s).find (g * 65536 + 1) = some 0 := by
    unfold M.find
    rw [hm]
    exact if_pos ⟨hr1, by simp [one], rfl, hd⟩
  unfold M.free
  rw [hf]
  show ((M.freed (M.tick (one (number n) g c 1 s)) 0), (0 : Int)) = _
  have e : wrap64 (g + 1) = g + 1 := by unfold wrap64; omega
  unfold M.freed
  show ((⟨[⟨.nilIface, wrap64 (g + 1), 0, false⟩], wrap64 (c + 1), wrap64 (1 - 1), s⟩ : M), (0 : Int)) = _
  rw [e, show wrap64 (1 - 1) = 0 from by unfold wrap64; omega]
  rfl
set_option maxHeartbeats 1600000 in
theorem MemEnds_walk (a : Int) (h0 : 0 ≤ a) (h1 : a < 256) (w : World) : Calls Try.prog 3 #[.int .u8 a] w fun e w' => e = .returned (.bool true) ∧ Below w.heap.size w w' := by
  go_enter Try.func3, Try.ntmps3
  go_wp2_with fail
  refine (awake_calls w).mono ?_
  rintro e w1 ⟨rfl, hB1⟩
  go_wp2_with fail
  refine (New_calls 1 w1 (by omega) (by omega)).mono ?_
  rintro e w2 ⟨rfl, hA2, hB2⟩
  have hM : w.heap.size ≤ w1.heap.size := hB1.size
  obtain ⟨mb, hmb⟩ : ∃ b, b = w1.heap.size + 1 := ⟨_, rfl⟩
  obtain ⟨cb, hcb⟩ : ∃ b, b = w1.heap.size := ⟨_, rfl⟩
  rw [← hmb, ← hcb] at hA2
  rw [← hmb]
  have hB3 : Below w.heap.size w w2 := below_then hB1 hM hB2
  have hmb' : w.heap.size ≤ mb := by omega
  have hcb' : w.heap.size ≤ cb := by omega
  have hs2 : w.heap.size ≤ w2.heap.size := hB3.size
  clear hB1 hB2 hmb hcb hM
  go_wp2
  go_loopw [5] (fun i wr => ∃ (k : Nat) (c : Int), k ≤ 16384 ∧ i = .int .i64 k ∧ At wr mb cb (one .nilIface k c 0 0) ∧ Below w.heap.size w wr) (fun i _ => 16384 - (intOf i).toNat)
  case atStart => exact ⟨0, 0, by omega, rfl, hA2, hB3⟩
  case round =>
    obtain ⟨k, c, hk, rfl, hA, hB⟩ := hrel
    have hs := hB.size
    by_cases hlt : k < 16384
    · have g1 : decide ((k : Int) < 16384) = true := decide_eq_true (by omega)
      have g2 : ((k : Int) * 65536 + 1 != (k : Int) * 65536 + 1) = false := by simp
      go_wp2_with fail
      refine (AllocWord_calls hA k).mono ?_
      rw [one_alloc k k c 0 (by omega) (by omega)]
      rintro e w3 ⟨rfl, hA3, hF3⟩
      go_wp2_with fail
      refine (Free_calls hA3 (k * 65536 + 1)).mono ?_
      rw [one_free k k _ 0 (by omega) (by omega)]
      rintro e w4 ⟨rfl, hA4, hF4⟩
      have hB4 := (hF3.trans hF4).over hB hs hmb' hcb'
      go_wp2
      go_roundw
      case rel => exact ⟨k + 1, _, by omega, by go_num, hA4, hB4⟩
      case measure => simp [intOf]; omega
    · have g1 : decide ((k : Int) < 16384) = false := decide_eq_false (by omega)
      go_wp2
      go_loopw [8] (fun i wr => ∃ (j : Nat) (c : Int), j ≤ 1 + a.toNat ∧ i = .int .i64 j ∧ At wr mb cb (one .nilIface k c 0 0) ∧ Below w.heap.size w wr) (fun i _ => 1 + a.toNat - (intOf i).toNat)
      case atStart => exact ⟨0, c, by omega, rfl, hA, hB⟩
      case round =>
        obtain ⟨j, c, hj, rfl, hA, hB⟩ := hrel
        have hs := hB.size
        by_cases hlt : (j : Int) < 1 + a
        · have g1 : decide ((j : Int) < 1 + a) = true := decide_eq_true (by omega)
          go_wp2_with fail
          refine (AllocWord_calls hA j).mono ?_
          rw [one_full j k c 0 (by omega)]
          rintro e w3 ⟨rfl, hA3, hF3⟩
          have hB3 := hF3.over hB hs hmb' hcb'
          go_wp2
          go_roundw
          case rel => exact ⟨j + 1, _, by omega, by go_num, hA3, hB3⟩
          case measure => simp [intOf]; omega
        · have g1 : decide ((j : Int) < 1 + a) = false := decide_eq_false (by omega)
          go_wp2_with fail
          refine (live_calls hA).mono ?_
          rintro e w3 ⟨rfl, rfl⟩
          go_wp2
          go_ret
          exact ⟨rfl, hB⟩
theorem u8_of {a : Int} (h : (Lit.int .u8 a).wf = true) : 0 ≤ a ∧ a < 256 := by
  have h' : 0 ≤ a ∧ a ≤ 255 := by simpa [Lit.wf, IntKind.min, IntKind.max, IntKind.signed, IntKind.bits] using h
  omega
end
end Go.Proofs.Ythghhkdichbijaa.Mem
