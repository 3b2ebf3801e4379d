/- MemReaps, by hand: of what is retired just that is reaped whose stamp is less; it is held till then. -/
import Derived.Test.YthghhkdichbijaaMem7
namespace Go.Proofs.Ythghhkdichbijaa.Mem
open Go.RowKit Go.Proofs.YthghhkdichbijaaW.PrintWords Go.Proofs.Ythghhkdichbijaa.Tags
set_option linter.unusedVariables false
set_option linter.unusedSimpArgs false
section
def kept (l : List Int) (i : Nat) : Cl := ⟨number i, 0, l.getD i 0, true⟩
def Filled (l : List Int) (k : Nat) (m : M) : Prop := m.cells.length = 41 ∧ ∀ i, i < 41 → m.at i = if i < k then kept l i else c0
theorem filled_new (l : List Int) : Filled l 0 (M.new 41) := ⟨by simp [M.new], fun i _ => by rw [M.new_at]; simp⟩
theorem fill_round {l : List Int} {k : Nat} {m : M} (h : Filled l k m) (hk : k < 40) : ∃ m1 m2, m.alloc (number k) = (m1, (k : Int) + 1, 0) ∧ m1.retire ((k : Int) + 1) (l.getD k 0) = (m2, 0) ∧ Filled l (k + 1) m2 := by
  obtain ⟨h1, h2⟩ := h
  have hkl : k < m.cells.length := by omega
  have hk0 : m.at k = c0 := by rw [h2 k (by omega), if_neg (by omega)]
  have ha := alloc_at (m := m) (number k) hkl (by rw [hk0]; rfl) (fun j hj => by rw [h2 j (by omega), if_pos hj]; rfl)
  have eh : hOf k (m.at k).gen = (k : Int) + 1 := by rw [hk0]; simp [hOf, c0]
  rw [eh] at ha
  have et : (m.tick.taken k (number k)).at k = ⟨number k, 0, 0, false⟩ := by
    rw [M.taken_at (m := m.tick) hkl, M.tick_at, hk0]
    rfl
  have hf : (m.tick.taken k (number k)).find ((k : Int) + 1) = some k := by
    have := find_at (m := m.tick.taken k (number k)) (i := k) (g := 0) (by rw [M.taken_len]; exact hkl) (by rw [M.taken_len]; show m.cells.length ≤ _; omega) (by omega) (by omega) (by rw [et]) (by rw [et]; rfl)
    rw [show (0 : Int) * 65536 + k + 1 = (k : Int) + 1 from by omega] at this
    exact this
  have hkl2 : k < (m.tick.taken k (number k)).tick.cells.length := by show k < (m.tick.taken k (number k)).cells.length; rw [M.taken_len]; exact hkl
  refine ⟨_, _, ha, by unfold M.retire; rw [hf], ?_, fun i hi => ?_⟩
  · rw [M.put_len]
    show (m.tick.taken k (number k)).cells.length = 41
    rw [M.taken_len]
    exact h1
  · by_cases e : i = k
    · subst e
      rw [M.at_put hkl2, et, if_pos (by omega)]
      simp [Cl.retire, kept]
    · rw [at_put_ne (Ne.symm e), M.tick_at, M.taken_ne (Ne.symm e), M.tick_at, h2 i hi]
      by_cases c : i < k
      · rw [if_pos c, if_pos (by omega)]
      · rw [if_neg c, if_neg (by omega)]
def Reaped (l : List Int) (b : Int) (j : Nat) (m : M) : Prop := m.cells.length = 41 ∧ ∀ i, i < 41 → m.at i = if i < l.length then (if i < j ∧ l.getD i 0 < b then ⟨.nilIface, 1, 0, false⟩ else kept l i) else c0
theorem reaped_start {l : List Int} {b : Int} {m : M} (h : Filled l l.length m) : Reaped l b 0 m := ⟨h.1, fun i hi => by rw [h.2 i hi]; simp⟩
theorem reaped_tick {l : List Int} {b : Int} {j : Nat} {m : M} (h : Reaped l b j m) : Reaped l b j m.tick := h
theorem reaped_gone {l : List Int} {b : Int} {j : Nat} {m : M} (h : Reaped l b j m) : Reaped l b j m.gone := h
theorem reap_word {l : List Int} {b : Int} {j : Nat} {m : M} (h : Reaped l b j m) (hj : j < l.length) (hl : l.length ≤ 40) : m.word ((j : Int) + 1) = (m.tick, (j : Int), 0) := by
  have e : m.at j = kept l j := by rw [h.2 j (by omega), if_pos hj, if_neg (by omega)]
  have hf : m.find ((j : Int) + 1) = some j := by
    have := find_at (m := m) (i := j) (g := 0) (by rw [h.1]; omega) (by rw [h.1]; omega) (by omega) (by omega) (by rw [e]; rfl) (by rw [e]; rfl)
    rw [show (0 : Int) * 65536 + j + 1 = (j : Int) + 1 from by omega] at this
    exact this
  exact M.word_hit hf (by rw [e]; rfl)
theorem reap_less {l : List Int} {b : Int} {j : Nat} {m : M} (h : Reaped l b j m) (hj : j < l.length) (hl : l.length ≤ 40) (hb : l.getD j 0 < b) : ∃ m1 m2, m.reap j b = (m1, true, 0) ∧ m1.word ((j : Int) + 1) = (m2, 0, 5) ∧ Reaped l b (j + 1) m2 := by
  have e : m.at j = kept l j := by rw [h.2 j (by omega), if_pos hj, if_neg (by omega)]
  have hjl : j < m.cells.length := by rw [h.1]; omega
  have h1 : m.reap j b = (m.tick.freed j, true, 0) := by
    unfold M.reap
    rw [if_neg (by omega), Int.toNat_natCast, e, if_neg]
    rintro (c | c | c)
    · cases c
    · cases c
    · have c' : b ≤ l.getD j 0 := c
      omega
  have e1 : (m.tick.freed j).at j = ⟨.nilIface, 1, 0, false⟩ := by
    rw [M.freed_at (m := m.tick) hjl, M.tick_at, e, show wrap64 ((kept l j).gen + 1) = 1 from by simp [kept]; unfold wrap64; omega]
  have hf : (m.tick.freed j).find ((j : Int) + 1) = none := by
    have := find_not (m := m.tick.freed j) (i := j) (g := 0) (by omega) (by omega) (by omega) (Or.inl (by rw [e1]; rfl))
    rw [show (0 : Int) * 65536 + j + 1 = (j : Int) + 1 from by omega] at this
    exact this
  refine ⟨_, _, h1, M.word_miss hf, ?_, fun i hi => ?_⟩
  · show (m.tick.freed j).cells.length = 41
    rw [M.freed_len]
    exact h.1
  · show (m.tick.freed j).at i = _
    by_cases c : i = j
    · subst c
      rw [e1, if_pos hj, if_pos ⟨by omega, hb⟩]
    · rw [M.freed_ne (Ne.symm c), M.tick_at, h.2 i hi]
      by_cases c1 : i < l.length
      · rw [if_pos c1, if_pos c1]
        by_cases c2 : i < j ∧ l.getD i 0 < b
        · rw [if_pos c2, if_pos ⟨by omega, c2.2⟩]
        · rw [if_neg c2, if_neg (fun k => c2 ⟨by omega, k.2⟩)]
      · rw [if_neg c1, if_neg c1]
theorem reap_more {l : List Int} {b : Int} {j : Nat} {m : M} (h : Reaped l b j m) (hj : j < l.length) (hl : l.length ≤ 40) (hb : ¬ l.getD j 0 < b) : ∃ m1 m2, m.reap j b = (m1, false, 0) ∧ m1.word ((j : Int) + 1) = (m2, (j : Int), 0) ∧ Reaped l b (j + 1) m2 := by
  have e : m.at j = kept l j := by rw [h.2 j (by omega), if_pos hj, if_neg (by omega)]
  have h1 : m.reap j b = (m.tick, false, 0) := by
    unfold M.reap
    rw [if_neg (by rw [h.1]; omega), Int.toNat_natCast, e]
    exact if_pos (Or.inr (Or.inr (show b ≤ l.getD j 0 by omega)))
  refine ⟨_, _, h1, reap_word (reaped_tick h) hj hl, h.1, fun i hi => ?_⟩
  show m.at i = _
  rw [h.2 i hi]
  by_cases c1 : i < l.length
  · rw [if_pos c1, if_pos c1]
    by_cases c2 : i < j ∧ l.getD i 0 < b
    · rw [if_pos c2, if_pos ⟨by omega, c2.2⟩]
    · rw [if_neg c2, if_neg (fun k => by
        rcases Nat.lt_succ_iff_lt_or_eq.1 k.1 with c | c
        · exact c2 ⟨c, k.2⟩
        · subst c; exact hb k.2)]
  · rw [if_neg c1, if_neg c1]
theorem reap_last {l : List Int} {b : Int} {j : Nat} {m : M} (h : Reaped l b j m) (hl : l.length ≤ 40) : m.reap 40 b = (m.tick, false, 0) := by
  have e : m.at 40 = c0 := by rw [h.2 40 (by omega), if_neg (by omega)]
  unfold M.reap
  rw [if_neg (by rw [h.1]; omega), show ((40 : Int)).toNat = 40 from rfl, e]
  exact if_pos (Or.inl rfl)
/-- The handles that are told. -/
def upTo (k : Nat) : List Int := (List.range k).map fun (i : Nat) => (i : Int) + 1
theorem upTo_len (k : Nat) : (upTo k).length = k := by simp [upTo]
theorem upTo_succ (k : Nat) : upTo (k + 1) = upTo k ++ [(k : Int) + 1] := by simp [upTo, List.range_succ]
theorem upTo_get (k j : Nat) (h : j < k) : (upTo k).getD j 0 = (j : Int) + 1 := by simp [upTo, List.getD_eq_getElem?_getD, h]
set_option maxHeartbeats 1600000 in
theorem MemReaps_long (b : Int) (A : Option Addr) (cap : Nat) (l : List Int) (hl : 40 < l.length) (w : World) :
    Calls Try.prog 6 #[.slice A l.length cap, .int .i64 b] w fun e w' => e = .returned (.bool true) ∧ Below w.heap.size w w' := by
  have g1 : decide (40 < l.length) = true := decide_eq_true hl
  go_enter Try.func6, Try.ntmps6
  go_wp2_with fail
  refine (awake_calls w).mono ?_
  rintro e w1 ⟨rfl, hB1⟩
  go_wp2_with fail
  refine (awake_calls w1).mono ?_
  rintro e w2 ⟨rfl, hB2⟩
  go_wp2
  go_ret
  exact ⟨rfl, below_then hB1 hB1.size hB2⟩
set_option maxHeartbeats 6400000 in
set_option maxRecDepth 100000 in
theorem MemReaps_main (b : Int) (A : Option Addr) (cap : Nat) (l : List Int) (hl : l.length ≤ 40) (w : World) (hr0 : (Kd.int .i64).C w A l.length l) :
    Calls Try.prog 6 #[.slice A l.length cap, .int .i64 b] w fun e w' => e = .returned (.bool true) ∧ Below w.heap.size w w' := by
  have g1 : decide (40 < l.length) = false := decide_eq_false (by omega)
  have HR := Lib.hid hr0
  obtain ⟨i0, hi, hz0, hz1, hz2⟩ := info_parts int_info
  clear hr0
  go_enter Try.func6, Try.ntmps6
  go_wp2_with fail
  refine (awake_calls w).mono ?_
  rintro e w1 ⟨rfl, hB1⟩
  go_wp2_with fail
  refine (New_calls 41 w1 (by omega) (by omega)).mono ?_
  rintro e w2 ⟨rfl, hA2, hB2⟩
  have hM : w.heap.size ≤ w1.heap.size := hB1.size
  obtain ⟨mb, hmb⟩ : ∃ b, b = w1.heap.size + 1 := ⟨_, rfl⟩
  obtain ⟨cb, hcb⟩ : ∃ b, b = w1.heap.size := ⟨_, rfl⟩
  rw [← hmb, ← hcb] at hA2
  rw [← hmb]
  have hB3 : Below w.heap.size w w2 := below_then hB1 hM hB2
  have hmb' : w.heap.size ≤ mb := by omega
  have hcb' : w.heap.size ≤ cb := by omega
  clear hB1 hB2 hmb hcb hM
  go_wp2
  go_loopw [7, 8] (fun v i wr => ∃ (k : Nat) (m : M), k ≤ l.length ∧ i = .int .i64 k ∧ OwnI wr w.heap.size v (upTo k) ∧ Filled l k m ∧ At wr mb cb m ∧ Below w.heap.size w wr) (fun _ i _ => l.length - (intOf i).toNat)
  case atStart => exact ⟨0, M.new 41, by omega, rfl, OwnI.nil _ _, filled_new l, hA2, hB3⟩
  case round =>
    obtain ⟨k, m, hk, rfl, hO, hm, hA, hB⟩ := hrel
    have hs := hB.size
    by_cases hlt : k < l.length
    · obtain ⟨m1, m2, p1, p2, hm2⟩ := fill_round hm (by omega)
      have P2 := Lib.hid p2
      have P1 := Lib.hid p1
      clear p1 p2
      obtain ⟨ad, eA, hc⟩ := Kd.at_int HR.out (k : Int) (by omega) (by omega)
      rw [Int.toNat_natCast] at hc
      have ex : rd l (k : Int) = l.getD k 0 := by simp [rd]
      rw [ex] at hc
      clear ex
      generalize l.getD k 0 = x at *
      subst eA
      go_wp2_with fail
      refine (AllocWord_calls hA k).mono ?_
      rw [P1.out]
      rintro e w5 ⟨rfl, hA5, hF5⟩
      have hO5 := hO.fr hA hF5
      have hB5 := hF5.over hB hs hmb' hcb'
      have hc5 := (hB5.cell (World.block_lt_of_cell? _ _ hc)).trans hc
      go_wp2_with fail
      refine (Retire_calls hA5 ((k : Int) + 1) x).mono ?_
      rw [P2.out]
      rintro e w6 ⟨rfl, hA6, hF6⟩
      have hO6 := hO5.fr hA5 hF6
      have hB6 := hF6.over hB5 hB5.size hmb' hcb'
      have hul : (upTo k).length = k := upTo_len k
      have HUL := Lib.hid hul
      have hul2 : (upTo k).length ≤ 40 := by omega
      clear hO hO5 hB5 hA5 hF5 hF6 hc5 hul
      go_wp2_with (at_builtin; refine wpList_append_own _ rfl _ _ 39 rfl w.heap.size 3 i0 (.int .i64 0) 1 8 Try.underlying39 hi hz0 hz1 hz2 rfl (by decide) _ _ _ rfl (hO6.alloc _) ⟨w6.heap.size, 0, none⟩ 1 1 [.int .i64 ((k : Int) + 1)] rfl rfl ?c1 ?c2 ?c3 ?c4 ?c5 ?_)
      case c1 =>
        intro j u hj
        match j, hj with
        | 0, hj => simp at hj; subst hj; simp [Addr.add]
      case c2 => intro u hu; simp at hu; subst hu; rfl
      case c3 => unfold maxLen; omega
      case c4 => omega
      case c5 => have := hB6.size; simp; omega
      · intro v' w7 hown' hgrow _
        have hO7 := OwnI.add hown'
        have hA7 := (hA6.alloc (.cells #[.int .i64 ((k : Int) + 1)] 3 (0, 0))).grown (hO6.alloc _) hgrow
        have hB7 := (hB6.alloc hB6.size (.cells #[.int .i64 ((k : Int) + 1)] 3 (0, 0))).grown hgrow (by simp; have := hB6.size; omega) (hO6.base_ (Nat.le_refl _))
        have hU := upTo_succ k
        rw [← hU] at hO7
        clear hown' hgrow hU
        go_wp2
        go_roundw
        case rel => exact ⟨k + 1, m2, by omega, by go_num, hO7, hm2, hA7, hB7⟩
        case measure => simp [intOf]; omega
    · obtain rfl : k = l.length := by omega
      obtain ⟨A', cap', rfl⟩ := hO.slice
      have hul : (upTo l.length).length = l.length := upTo_len _
      rw [hul] at hO ⊢
      have HM := Lib.hid (reaped_start (b := b) hm)
      clear hm
      go_wp2
      go_loopw [11] (fun i wr => ∃ (j : Nat) (m : M), j ≤ l.length ∧ i = .int .i64 j ∧ OwnI wr w.heap.size (.slice A' l.length cap') (upTo l.length) ∧ Reaped l b j m ∧ At wr mb cb m ∧ Below w.heap.size w wr) (fun i _ => l.length - (intOf i).toNat)
      case atStart => exact ⟨0, m, by omega, rfl, hO, HM.out, hA, hB⟩
      case round =>
        obtain ⟨j, m, hj, rfl, hO, hm, hA, hB⟩ := hrel
        have hs := hB.size
        by_cases hlt : j < l.length
        · have hO' : OwnI wr w.heap.size (.slice A' (upTo l.length).length cap') (upTo l.length) := by rw [hul]; exact hO
          obtain ⟨g, eA, hcl⟩ := hO'.cell j (by omega)
          rw [upTo_get _ _ hlt] at hcl
          obtain ⟨ad, eA2, hc⟩ := Kd.at_int HR.out (j : Int) (by omega) (by omega)
          rw [Int.toNat_natCast] at hc
          have ex : rd l (j : Int) = l.getD j 0 := by simp [rd]
          rw [ex] at hc
          subst eA eA2
          have p1 := reap_word hm hlt hl
          have P1 := Lib.hid p1
          have HUL := Lib.hid hul
          have q1 : ((j : Int) != (j : Int)) = false := by simp
          clear p1 ex hul hO'
          by_cases hb : l.getD j 0 < b
          · obtain ⟨m1, m2, p2, p3, hm2⟩ := reap_less (reaped_tick hm) hlt hl hb
            have P2 := Lib.hid p2
            have P3 := Lib.hid p3
            clear p2 p3
            generalize l.getD j 0 = x at *
            have q2 : decide (x < b) = true := decide_eq_true hb
            go_wp2_with fail
            refine (Word_calls hA ((j : Int) + 1)).mono ?_
            rw [P1.out]
            rintro e w5 ⟨rfl, hA5, hF5⟩
            have hO5 := hO.fr hA hF5
            have hB5 := hF5.over hB hs hmb' hcb'
            go_wp2_with fail
            refine (Reap_calls hA5 j b).mono ?_
            rw [P2.out]
            rintro e w6 ⟨rfl, hA6, hF6⟩
            have hO6 := hO5.fr hA5 hF6
            have hB6 := hF6.over hB5 hB5.size hmb' hcb'
            have hO6' : OwnI w6 w.heap.size (.slice (some ⟨g, 0, none⟩) (upTo l.length).length cap') (upTo l.length) := by rw [HUL.out]; exact hO6
            obtain ⟨g', eg, hcl6⟩ := hO6'.cell j (by rw [HUL.out]; exact hlt)
            rw [upTo_get _ _ hlt] at hcl6
            injection eg with eg
            injection eg with eg
            subst eg
            go_wp2_with fail
            refine (Word_calls hA6 ((j : Int) + 1)).mono ?_
            rw [P3.out]
            rintro e w7 ⟨rfl, hA7, hF7⟩
            have hO7 := hO6.fr hA6 hF7
            have hB7 := hF7.over hB6 hB6.size hmb' hcb'
            have hc7 := (hB7.cell (World.block_lt_of_cell? _ _ hc)).trans hc
            go_wp2
            go_roundw
            case rel => exact ⟨j + 1, m2, by omega, by go_num, hO7, hm2, hA7, hB7⟩
            case measure => simp [intOf]; omega
          · obtain ⟨m1, m2, p2, p3, hm2⟩ := reap_more (reaped_tick hm) hlt hl hb
            have P2 := Lib.hid p2
            have P3 := Lib.hid p3
            clear p2 p3
            generalize l.getD j 0 = x at *
            have q2 : decide (x < b) = false := decide_eq_false hb
            go_wp2_with fail
            refine (Word_calls hA ((j : Int) + 1)).mono ?_
            rw [P1.out]
            rintro e w5 ⟨rfl, hA5, hF5⟩
            have hO5 := hO.fr hA hF5
            have hB5 := hF5.over hB hs hmb' hcb'
            go_wp2_with fail
            refine (Reap_calls hA5 j b).mono ?_
            rw [P2.out]
            rintro e w6 ⟨rfl, hA6, hF6⟩
            have hO6 := hO5.fr hA5 hF6
            have hB6 := hF6.over hB5 hB5.size hmb' hcb'
            have hO6' : OwnI w6 w.heap.size (.slice (some ⟨g, 0, none⟩) (upTo l.length).length cap') (upTo l.length) := by rw [HUL.out]; exact hO6
            obtain ⟨g', eg, hcl6⟩ := hO6'.cell j (by rw [HUL.out]; exact hlt)
            rw [upTo_get _ _ hlt] at hcl6
            injection eg with eg
            injection eg with eg
            subst eg
            go_wp2_with fail
            refine (Word_calls hA6 ((j : Int) + 1)).mono ?_
            rw [P3.out]
            rintro e w7 ⟨rfl, hA7, hF7⟩
            have hO7 := hO6.fr hA6 hF7
            have hB7 := hF7.over hB6 hB6.size hmb' hcb'
            have hc7 := (hB7.cell (World.block_lt_of_cell? _ _ hc)).trans hc
            go_wp2
            go_roundw
            case rel => exact ⟨j + 1, m2, by omega, by go_num, hO7, hm2, hA7, hB7⟩
            case measure => simp [intOf]; omega
        · go_wp2_with fail
          refine (Reap_calls hA 40 b).mono ?_
          rw [reap_last hm hl]
          rintro e w5 ⟨rfl, hA5, hF5⟩
          have hB5 := hF5.over hB hs hmb' hcb'
          go_wp2
          go_ret
          exact ⟨rfl, hB5⟩
theorem MemReaps_walk (b : Int) (A : Option Addr) (cap : Nat) (l : List Int) (w : World) (hr0 : (Kd.int .i64).C w A l.length l) :
    Calls Try.prog 6 #[.slice A l.length cap, .int .i64 b] w fun e w' => e = .returned (.bool true) ∧ Below w.heap.size w w' := by
  by_cases h : l.length ≤ 40
  · exact MemReaps_main b A cap l h w hr0
  · exact MemReaps_long b A cap l (by omega) w
end
end Go.Proofs.Ythghhkdichbijaa.Mem
