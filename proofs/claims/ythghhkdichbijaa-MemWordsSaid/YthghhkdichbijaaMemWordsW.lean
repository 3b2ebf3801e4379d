/- MemWords, by hand: a cell's word is the one that was stored last, or swapped for what it held then. -/
import Derived.Test.YthghhkdichbijaaMem6
namespace Go.Proofs.Ythghhkdichbijaa.Mem
open Go.RowKit Go.Proofs.YthghhkdichbijaaW.PrintWords Go.Proofs.Ythghhkdichbijaa.Tags
set_option linter.unusedVariables false
set_option linter.unusedSimpArgs false
section
def two (a b c l : Int) : M := ⟨[⟨number a, 0, 0, false⟩, ⟨number b, 0, 0, false⟩], c, l, 0⟩
def half (a c : Int) : M := ⟨[⟨number a, 0, 0, false⟩, c0], c, 1, 0⟩
theorem w01 : wrap64 (0 + 1) = 1 := by unfold wrap64; omega
theorem w11 : wrap64 (1 + 1) = 2 := by unfold wrap64; omega
theorem may0 : Cl.may c0 = true := by simp [Cl.may, Cl.free, c0]
theorem may1 (n g s : Int) (r : Bool) : Cl.may ⟨number n, g, s, r⟩ = false := by simp [Cl.may, Cl.free]
theorem two_first (n : Int) : (M.new 2).alloc (number n) = (half n 1, 1, 0) := by
  have er : (M.new 2).tick.room = some 0 := by simp [M.room, M.new, M.tick, List.replicate, List.findIdx?_cons, may0]
  unfold M.alloc M.putv
  rw [er]
  show ((⟨[⟨number n, 0, 0, false⟩, c0], wrap64 (0 + 1), wrap64 (0 + 1), 0⟩ : M), hOf 0 0, (0 : Int)) = _
  rw [w01]
  rfl
theorem two_second (a n : Int) : (half a 1).alloc (number n) = (two a n 2 2, 2, 0) := by
  have er : (half a 1).tick.room = some 1 := by
    unfold M.room
    show List.findIdx? Cl.may [⟨number a, 0, 0, false⟩, c0] = some 1
    simp [List.findIdx?_cons, may0, may1]
  unfold M.alloc M.putv
  rw [er]
  show ((⟨[⟨number a, 0, 0, false⟩, ⟨number n, 0, 0, false⟩], wrap64 (1 + 1), wrap64 (1 + 1), 0⟩ : M), hOf 1 0, (0 : Int)) = _
  rw [w11]
  rfl
theorem two_find1 (a b c l : Int) : (two a b c l).find 1 = some 0 := by
  unfold M.find
  exact if_pos ⟨by simp [hr], by simp [two], rfl, rfl⟩
theorem two_find2 (a b c l : Int) : (two a b c l).find 2 = some 1 := by
  unfold M.find
  exact if_pos ⟨by simp [hr], by simp [two], rfl, rfl⟩
theorem two_store1 (a b c l n : Int) : (two a b c l).store 1 n = (two n b (wrap64 (c + 1)) l, 0) := by
  unfold M.store
  rw [two_find1]
  rfl
theorem two_store2 (a b c l n : Int) : (two a b c l).store 2 n = (two a n (wrap64 (c + 1)) l, 0) := by
  unfold M.store
  rw [two_find2]
  rfl
theorem two_swap1 (a b c l o n : Int) : (two a b c l).swap 1 o n = if a = o then (two n b (wrap64 (c + 1)) l, true, 0) else (two a b (wrap64 (c + 1)) l, false, 0) := by
  unfold M.swap
  rw [two_find1]
  rfl
theorem two_swap2 (a b c l o n : Int) : (two a b c l).swap 2 o n = if b = o then (two a n (wrap64 (c + 1)) l, true, 0) else (two a b (wrap64 (c + 1)) l, false, 0) := by
  unfold M.swap
  rw [two_find2]
  rfl
theorem two_word1 (a b c l : Int) : (two a b c l).word 1 = (two a b (wrap64 (c + 1)) l, a, 0) := by
  unfold M.word
  rw [two_find1]
  rfl
set_option maxHeartbeats 1600000 in
set_option maxRecDepth 100000 in
theorem MemWords_long (a b : Int) (A : Option Addr) (cap : Nat) (l : List Act) (hl : 200 < l.length) (w : World) :
    Calls Try.prog 4 #[.int .i64 a, .int .i64 b, .slice A l.length cap] w fun e w' => e = .returned (.bool true) ∧ Below w.heap.size w w' := by
  have g1 : decide (200 < l.length) = true := decide_eq_true hl
  go_enter Try.func4, Try.ntmps4
  go_wp2_with fail
  refine (awake_calls w).mono ?_
  rintro e w1 ⟨rfl, hB1⟩
  go_wp2_with fail
  refine (awake_calls w1).mono ?_
  rintro e w2 ⟨rfl, hB2⟩
  go_wp2
  go_ret
  exact ⟨rfl, below_then hB1 hB1.size hB2⟩
set_option maxHeartbeats 6400000 in
set_option maxRecDepth 100000 in
theorem MemWords_main (a b : Int) (A : Option Addr) (cap : Nat) (l : List Act) (hl : l.length ≤ 200) (w : World) (hr0 : actKd.C w A l.length l) (hok : ∀ x ∈ l, x.ok) :
    Calls Try.prog 4 #[.int .i64 a, .int .i64 b, .slice A l.length cap] w fun e w' => e = .returned (.bool true) ∧ Below w.heap.size w w' := by
  have g1 : decide (200 < l.length) = false := decide_eq_false (by omega)
  have HR := Lib.hid hr0
  have HO := Lib.hid hok
  clear hr0 hok
  go_enter Try.func4, Try.ntmps4
  go_wp2_with fail
  refine (awake_calls w).mono ?_
  rintro e w1 ⟨rfl, hB1⟩
  go_wp2_with fail
  refine (New_calls 2 w1 (by omega) (by omega)).mono ?_
  rintro e w2 ⟨rfl, hA2, hB2⟩
  have hM : w.heap.size ≤ w1.heap.size := hB1.size
  obtain ⟨mb, hmb⟩ : ∃ b, b = w1.heap.size + 1 := ⟨_, rfl⟩
  obtain ⟨cb, hcb⟩ : ∃ b, b = w1.heap.size := ⟨_, rfl⟩
  rw [← hmb, ← hcb] at hA2
  rw [← hmb]
  have hB3 : Below w.heap.size w w2 := below_then hB1 hM hB2
  have hmb' : w.heap.size ≤ mb := by omega
  have hcb' : w.heap.size ≤ cb := by omega
  have hs2 : w.heap.size ≤ w2.heap.size := hB3.size
  clear hB1 hB2 hmb hcb hM
  go_wp2_with fail
  refine (AllocWord_calls hA2 a).mono ?_
  rw [two_first]
  rintro e w3 ⟨rfl, hA3, hF3⟩
  go_wp2_with fail
  refine (AllocWord_calls hA3 b).mono ?_
  rw [two_second]
  rintro e w4 ⟨rfl, hA4, hF4⟩
  have hB4 := (hF3.trans hF4).over hB3 hs2 hmb' hcb'
  clear hA2 hA3 hF3 hF4 hB3 hs2
  go_wp2
  go_loopw [13, 14] (fun now i wr => ∃ (k : Nat) (n b c : Int), k ≤ l.length ∧ i = .int .i64 k ∧ now = .int .i64 n ∧ At wr mb cb (two n b c 2) ∧ Below w.heap.size w wr) (fun _ i _ => l.length - (intOf i).toNat)
  case atStart => exact ⟨0, a, b, 2, by omega, rfl, rfl, hA4, hB4⟩
  case round =>
    obtain ⟨k, n, b, c, hk, rfl, rfl, hA, hB⟩ := hrel
    have hs := hB.size
    by_cases hlt : k < l.length
    · obtain ⟨ad, eA, x0, x1, x2, x3, x4⟩ := act_cells (actC_below hB HR.out) k hlt
      have hxo := HO.out (l.getD k act0) (by rw [List.getD_eq_getElem?_getD, List.getElem?_eq_getElem hlt]; exact List.getElem_mem hlt)
      generalize l.getD k act0 = x at *
      obtain ⟨xd, xp, xn, xm, xr⟩ := x
      simp only at x0 x1 x2 x3 x4
      subst eA
      obtain ⟨d0, d1⟩ := u8_of hxo.1
      have n1 : wr.heap.size ≠ mb := by have := hA.lt_mb; omega
      have n2 : wr.heap.size ≠ cb := by have := hA.lt_cb; omega
      have hx := fun r => blk_new wr (.cells #[.int .u8 xd, .int .i64 xp, .int .i64 xn, .int .i64 xm, .bool r] 34 (0, 0))
      have hAx := fun r => hA.alloc (.cells #[.int .u8 xd, .int .i64 xp, .int .i64 xn, .int .i64 xm, .bool r] 34 (0, 0))
      have hBx := fun r => hB.alloc hs (.cells #[.int .u8 xd, .int .i64 xp, .int .i64 xn, .int .i64 xm, .bool r] 34 (0, 0))
      have HX := Lib.hid hx
      have HAX := Lib.hid hAx
      have HBX := Lib.hid hBx
      clear hx hAx hBx hxo
      cases xr with
      | true =>
        go_wp2_with fail
        refine (Store_calls (HAX.out true) 2 xn).mono ?_
        rw [two_store2]
        rintro e w5 ⟨rfl, hA5, hF5⟩
        have hx5 := hF5.at_ (HX.out true) n1 n2
        have c2 := (blk_cell hx5 2).trans rfl
        have c3 := (blk_cell hx5 3).trans rfl
        have hB5 := hF5.over (HBX.out true) (by simp; omega) hmb' hcb'
        go_wp2_with fail
        refine (Swap_calls hA5 2 xn xm).mono ?_
        obtain ⟨b', c', ok', e'⟩ : ∃ b' c' ok', (two n xn (wrap64 (c + 1)) 2).swap 2 xn xm = (two n b' c' 2, ok', 0) := by
          rw [two_swap2]
          split
          · exact ⟨_, _, _, rfl⟩
          · exact ⟨_, _, _, rfl⟩
        rw [e']
        rintro e w6 ⟨rfl, hA6, hF6⟩
        have hB6 := hF6.over hB5 hB5.size hmb' hcb'
        clear e' hx5 c2 c3
        go_wp2_with fail
        refine (Word_calls hA6 1).mono ?_
        rw [two_word1]
        rintro e w7 ⟨rfl, hA7, hF7⟩
        have hB7 := hF7.over hB6 hB6.size hmb' hcb'
        have q1 : (n != n) = false := by simp
        go_wp2
        go_roundw
        case rel => exact ⟨k + 1, n, b', _, by omega, by go_num, rfl, hA7, hB7⟩
        case measure => simp [intOf]; omega
      | false =>
        have HX0 := HX.out false
        have HB0 := HBX.out false
        have y0 := (blk_cell HX0 0).trans rfl
        by_cases hd : xd.tmod 2 = 0
        · have q0 : (xd.tmod 2 == 0) = true := by simp [hd]
          go_wp2_with fail
          refine (Store_calls (HAX.out false) 1 xn).mono ?_
          rw [two_store1]
          rintro e w5 ⟨rfl, hA5, hF5⟩
          have hx5 := hF5.at_ (HX.out false) n1 n2
          have c2 := (blk_cell hx5 2).trans rfl
          have hB5 := hF5.over (HBX.out false) (by simp; omega) hmb' hcb'
          go_wp2_with fail
          refine (Word_calls hA5 1).mono ?_
          rw [two_word1]
          rintro e w7 ⟨rfl, hA7, hF7⟩
          have hB7 := hF7.over hB5 hB5.size hmb' hcb'
          have q1 : (xn != xn) = false := by simp
          go_wp2
          go_roundw
          case rel => exact ⟨k + 1, xn, b, _, by omega, by go_num, rfl, hA7, hB7⟩
          case measure => simp [intOf]; omega
        · have q0 : (xd.tmod 2 == 0) = false := by simp [hd]
          by_cases hn : n = xn
          · subst hn
            have q1 : (n == n) = true := by simp
            go_wp2_with fail
            refine (Swap_calls (HAX.out false) 1 n xm).mono ?_
            rw [two_swap1, if_pos rfl]
            rintro e w5 ⟨rfl, hA5, hF5⟩
            have hx5 := hF5.at_ (HX.out false) n1 n2
            have c2 := (blk_cell hx5 2).trans rfl
            have c3 := (blk_cell hx5 3).trans rfl
            have hB5 := hF5.over (HBX.out false) (by simp; omega) hmb' hcb'
            go_wp2_with fail
            refine (Word_calls hA5 1).mono ?_
            rw [two_word1]
            rintro e w7 ⟨rfl, hA7, hF7⟩
            have hB7 := hF7.over hB5 hB5.size hmb' hcb'
            have q1 : (xm != xm) = false := by simp
            go_wp2
            go_roundw
            case rel => exact ⟨k + 1, xm, b, _, by omega, by go_num, rfl, hA7, hB7⟩
            case measure => simp [intOf]; omega
          · have q1 : (n == xn) = false := by simp [hn]
            go_wp2_with fail
            refine (Swap_calls (HAX.out false) 1 xn xm).mono ?_
            rw [two_swap1, if_neg hn]
            rintro e w5 ⟨rfl, hA5, hF5⟩
            have hx5 := hF5.at_ (HX.out false) n1 n2
            have c2 := (blk_cell hx5 2).trans rfl
            have hB5 := hF5.over (HBX.out false) (by simp; omega) hmb' hcb'
            go_wp2_with fail
            refine (Word_calls hA5 1).mono ?_
            rw [two_word1]
            rintro e w7 ⟨rfl, hA7, hF7⟩
            have hB7 := hF7.over hB5 hB5.size hmb' hcb'
            have q2 : (n != n) = false := by simp
            go_wp2
            go_roundw
            case rel => exact ⟨k + 1, n, b, _, by omega, by go_num, rfl, hA7, hB7⟩
            case measure => simp [intOf]; omega
    · go_wp2
      go_ret
      exact ⟨rfl, hB⟩
theorem MemWords_walk (a b : Int) (A : Option Addr) (cap : Nat) (l : List Act) (w : World) (hr0 : actKd.C w A l.length l) (hok : ∀ x ∈ l, x.ok) :
    Calls Try.prog 4 #[.int .i64 a, .int .i64 b, .slice A l.length cap] w fun e w' => e = .returned (.bool true) ∧ Below w.heap.size w w' := by
  by_cases h : l.length ≤ 200
  · exact MemWords_main a b A cap l h w hr0 hok
  · exact MemWords_long a b A cap l (by omega) w
end
end Go.Proofs.Ythghhkdichbijaa.Mem
