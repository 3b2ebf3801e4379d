/- MemStale, by hand: whatever is asked of memory, a handle of what was freed is stale for ever; no two that are told are the same. -/
import Derived.Test.YthghhkdichbijaaMem7
import Derived.Deep.DeepCutAuto
namespace Go.Proofs.Ythghhkdichbijaa.Mem
open Go.RowKit Go.Proofs.YthghhkdichbijaaW.PrintWords Go.Proofs.Ythghhkdichbijaa.Tags
set_option linter.unusedVariables false
set_option linter.unusedSimpArgs false
section
/-- What is known of memory, of the handles that were told, and of those that were freed. -/
structure Inv (m : M) (ts gs : List Int) : Prop where
  len : m.cells.length ≤ 40
  gen : ∀ i, i < m.cells.length → 0 ≤ (m.at i).gen ∧ (m.at i).gen ≤ 16384 ∧ ((m.at i).free = false → (m.at i).gen ≤ 16383)
  told : ∀ h, h ∈ ts → ∃ (i : Nat) (g : Int), h = g * 65536 + i + 1 ∧ i < m.cells.length ∧ 0 ≤ g ∧ g ≤ 16383 ∧ (g < (m.at i).gen ∨ (g = (m.at i).gen ∧ (m.at i).free = false))
  gone : ∀ h, h ∈ gs → ∃ (i : Nat) (g : Int), h = g * 65536 + i + 1 ∧ i < m.cells.length ∧ 0 ≤ g ∧ g ≤ 16383 ∧ g < (m.at i).gen
  live : m.live = (ts.length : Int) - gs.length
theorem inv_new (n : Nat) (hn : n ≤ 40) : Inv (M.new n) [] [] :=
  ⟨by simpa [M.new] using hn, fun i _ => by rw [M.new_at]; simp [c0], fun h hh => by simp at hh, fun h hh => by simp at hh, by simp [M.new]⟩
theorem inv_same {m m' : M} {t g : List Int} (h : Inv m t g) (hc : m'.cells = m.cells) (hl : m'.live = m.live) : Inv m' t g := by
  have ha : ∀ i, m'.at i = m.at i := fun i => by unfold M.at; rw [hc]
  refine ⟨by rw [hc]; exact h.len, fun i hi => ?_, fun x hx => ?_, fun x hx => ?_, by rw [hl]; exact h.live⟩
  · rw [ha]; rw [hc] at hi; exact h.gen i hi
  · obtain ⟨i, g, h1, h2, h3, h4, h5⟩ := h.told x hx
    exact ⟨i, g, h1, by rw [hc]; exact h2, h3, h4, by rw [ha]; exact h5⟩
  · obtain ⟨i, g, h1, h2, h3, h4, h5⟩ := h.gone x hx
    exact ⟨i, g, h1, by rw [hc]; exact h2, h3, h4, by rw [ha]; exact h5⟩
theorem inv_gone {m : M} {t g : List Int} (h : Inv m t g) {x : Int} (hx : x ∈ g) : m.find x = none := by
  obtain ⟨i, k, rfl, h2, h3, h4, h5⟩ := h.gone x hx
  have := h.len
  exact find_not (by omega) h3 h4 (Or.inr (by omega))
theorem inv_stale {m : M} {t g : List Int} (h : Inv m t g) {x : Int} (hx : x ∈ g) : m.word x = (m.gone, 0, 5) ∧ m.swap x 0 1 = (m.gone, false, 5) ∧ m.free x = (m.gone, 5) ∧ m.retire x 1 = (m.gone, 5) := by
  have e := inv_gone h hx
  refine ⟨M.word_miss e, ?_, ?_, ?_⟩
  · unfold M.swap; rw [e]
  · unfold M.free; rw [e]
  · unfold M.retire; rw [e]
theorem inv_alloc {m : M} {t g : List Int} (h : Inv m t g) (n : Int) (ht : t.length ≤ 300) (hg : g.length ≤ 300) : (∃ m' x, m.alloc (number n) = (m', x, 0) ∧ x ∉ t ∧ Inv m' (t ++ [x]) g) ∨ (∃ m', m.alloc (number n) = (m', 0, 3) ∧ Inv m' t g) := by
  cases hr : m.room with
  | none => exact Or.inr ⟨_, alloc_full _ (room_none hr), inv_same h rfl rfl⟩
  | some i =>
    obtain ⟨hi, hm, hb⟩ := room_some hr
    have hm' := hm
    unfold Cl.may at hm'
    rw [Bool.and_eq_true, decide_eq_true_eq] at hm'
    have hgi := h.gen i hi
    have eh : hOf i (m.at i).gen = (m.at i).gen * 65536 + i + 1 := by unfold hOf; rw [if_pos ⟨hgi.1, hm'.2⟩]
    have ha := alloc_at (m := m) (number n) hi hm hb
    rw [eh] at ha
    have ei : (m.tick.taken i (number n)).at i = { m.at i with v := number n } := M.taken_at (m := m.tick) hi _
    have ej : ∀ j, i ≠ j → (m.tick.taken i (number n)).at j = m.at j := fun j hj => M.taken_ne (m := m.tick) hj _
    have el : (m.tick.taken i (number n)).cells.length = m.cells.length := M.taken_len m.tick i _
    have hlen := h.len
    refine Or.inl ⟨_, _, ha, fun hx => ?_, ⟨by rw [el]; exact h.len, fun j hj => ?_, fun x hx => ?_, fun x hx => ?_, ?_⟩⟩
    · obtain ⟨j, k, e, h2, h3, h4, h5⟩ := h.told _ hx
      obtain ⟨rfl, rfl⟩ : j = i ∧ k = (m.at i).gen := by
        have : (j : Int) = i := by omega
        have e2 : j = i := by omega
        subst e2
        exact ⟨rfl, by omega⟩
      rcases h5 with h5 | h5
      · omega
      · rw [h5.2] at hm'
        cases hm'.1
    · rw [el] at hj
      by_cases c : i = j
      · subst c
        rw [ei]
        exact ⟨hgi.1, hgi.2.1, fun _ => hm'.2⟩
      · rw [ej j c]
        exact h.gen j hj
    · rw [el]
      rcases List.mem_append.1 hx with hx | hx
      · obtain ⟨j, k, e, h2, h3, h4, h5⟩ := h.told x hx
        refine ⟨j, k, e, h2, h3, h4, ?_⟩
        by_cases c : i = j
        · subst c
          rw [ei]
          rcases h5 with h5 | h5
          · exact Or.inl h5
          · rw [h5.2] at hm'
            cases hm'.1
        · rw [ej j c]
          exact h5
      · obtain rfl := List.mem_singleton.1 hx
        exact ⟨i, _, rfl, hi, hgi.1, hm'.2, Or.inr (by rw [ei]; exact ⟨rfl, rfl⟩)⟩
    · rw [el]
      obtain ⟨j, k, e, h2, h3, h4, h5⟩ := h.gone x hx
      refine ⟨j, k, e, h2, h3, h4, ?_⟩
      by_cases c : i = j
      · subst c
        rw [ei]
        exact h5
      · rw [ej j c]
        exact h5
    · show wrap64 (m.live + 1) = _
      rw [h.live, List.length_append, List.length_singleton]
      unfold wrap64
      omega
theorem inv_free {m : M} {t g : List Int} (h : Inv m t g) {x : Int} (hx : x ∈ t) (ht : t.length ≤ 300) (hg : g.length ≤ 300) : (∃ m', m.free x = (m', 0) ∧ Inv m' t (g ++ [x])) ∨ (∃ m', m.free x = (m', 5) ∧ Inv m' t g) := by
  obtain ⟨i, k, rfl, h2, h3, h4, h5⟩ := h.told x hx
  have hlen := h.len
  rcases h5 with h5 | ⟨h5, h6⟩
  · refine Or.inr ⟨m.gone, by unfold M.free; rw [find_not (by omega) h3 h4 (Or.inr (by omega))], inv_same h rfl rfl⟩
  · have hf := find_at (m := m) (i := i) (g := k) h2 (by omega) h3 h4 h5.symm h6
    have hgi := h.gen i h2
    have ew : wrap64 ((m.at i).gen + 1) = (m.at i).gen + 1 := by unfold wrap64; omega
    have ei : (m.tick.freed i).at i = ⟨.nilIface, (m.at i).gen + 1, 0, false⟩ := by
      have := M.freed_at (m := m.tick) (i := i) h2
      rw [M.tick_at, ew] at this
      exact this
    have ej : ∀ j, i ≠ j → (m.tick.freed i).at j = m.at j := fun j hj => M.freed_ne (m := m.tick) hj
    have el : (m.tick.freed i).cells.length = m.cells.length := M.freed_len m.tick i
    refine Or.inl ⟨m.tick.freed i, by unfold M.free; rw [hf], ⟨by rw [el]; exact h.len, fun j hj => ?_, fun y hy => ?_, fun y hy => ?_, ?_⟩⟩
    · rw [el] at hj
      by_cases c : i = j
      · subst c
        rw [ei]
        exact ⟨by show 0 ≤ (m.at i).gen + 1; omega, by show (m.at i).gen + 1 ≤ _; omega, fun z => by cases z⟩
      · rw [ej j c]
        exact h.gen j hj
    · rw [el]
      obtain ⟨j, q, e, p2, p3, p4, p5⟩ := h.told y hy
      refine ⟨j, q, e, p2, p3, p4, ?_⟩
      by_cases c : i = j
      · subst c
        rw [ei]
        refine Or.inl ?_
        show q < (m.at i).gen + 1
        rcases p5 with p5 | p5 <;> omega
      · rw [ej j c]
        exact p5
    · rw [el]
      rcases List.mem_append.1 hy with hy | hy
      · obtain ⟨j, q, e, p2, p3, p4, p5⟩ := h.gone y hy
        refine ⟨j, q, e, p2, p3, p4, ?_⟩
        by_cases c : i = j
        · subst c
          rw [ei]
          show q < (m.at i).gen + 1
          omega
        · rw [ej j c]
          exact p5
      · obtain rfl := List.mem_singleton.1 hy
        refine ⟨i, k, rfl, h2, h3, h4, ?_⟩
        rw [ei]
        show k < (m.at i).gen + 1
        omega
    · show wrap64 (m.live - 1) = _
      rw [h.live, List.length_append, List.length_singleton]
      unfold wrap64
      omega
set_option maxHeartbeats 1600000 in
set_option maxRecDepth 100000 in
theorem MemStale_long (a : Int) (A : Option Addr) (cap : Nat) (l : List Act) (hl : 200 < l.length) (w : World) :
    Calls Try.prog 5 #[.int .u8 a, .slice A l.length cap] w fun e w' => e = .returned (.bool true) ∧ Below w.heap.size w w' := by
  have g1 : decide (200 < l.length) = true := decide_eq_true hl
  go_enter Try.func5, Try.ntmps5
  go_wp2_with fail
  refine (awake_calls w).mono ?_
  rintro e w1 ⟨rfl, hB1⟩
  go_wp2_with fail
  refine (awake_calls w1).mono ?_
  rintro e w2 ⟨rfl, hB2⟩
  go_wp2
  go_ret
  exact ⟨rfl, below_then hB1 hB1.size hB2⟩
/-- What holds at every round's head. -/
def Held (W : World) (mb cb K : Nat) (t g : Value) (w : World) : Prop := ∃ (m : M) (ts gs : List Int), OwnI w W.heap.size t ts ∧ OwnI w W.heap.size g gs ∧ Apart t g ∧ ts.length ≤ K ∧ gs.length ≤ K ∧ Inv m ts gs ∧ At w mb cb m ∧ Below W.heap.size W w
set_option maxHeartbeats 6400000 in
set_option maxRecDepth 100000 in
theorem MemStale_main (a : Int) (h0 : 0 ≤ a) (h1 : a < 256) (A : Option Addr) (cap : Nat) (l : List Act) (hl : l.length ≤ 200) (w : World) (hr0 : actKd.C w A l.length l) (hok : ∀ x ∈ l, x.ok) :
    Calls Try.prog 5 #[.int .u8 a, .slice A l.length cap] w fun e w' => e = .returned (.bool true) ∧ Below w.heap.size w w' := by
  have g1 : decide (200 < l.length) = false := decide_eq_false (by omega)
  have HR := Lib.hid hr0
  have HO := Lib.hid hok
  clear hr0 hok
  go_enter Try.func5, Try.ntmps5
  go_wp2_with fail
  refine (awake_calls w).mono ?_
  rintro e w1 ⟨rfl, hB1⟩
  go_wp2_with fail
  obtain ⟨q, hq⟩ : ∃ q : Nat, 1 + a % 40 = (q : Int) := ⟨(1 + a % 40).toNat, by omega⟩
  rw [hq]
  refine (New_calls q w1 (by omega) (by omega)).mono ?_
  rintro e w2 ⟨rfl, hA2, hB2⟩
  have hM : w.heap.size ≤ w1.heap.size := hB1.size
  obtain ⟨mb, hmb⟩ : ∃ b, b = w1.heap.size + 1 := ⟨_, rfl⟩
  obtain ⟨cb, hcb⟩ : ∃ b, b = w1.heap.size := ⟨_, rfl⟩
  rw [← hmb, ← hcb] at hA2
  rw [← hmb]
  have hB3 : Below w.heap.size w w2 := below_then hB1 hM hB2
  have hmb' : w.heap.size ≤ mb := by omega
  have hcb' : w.heap.size ≤ cb := by omega
  have hq40 : q ≤ 40 := by omega
  clear hB1 hB2 hmb hcb hM hq
  go_wp2
  go_loopw [7, 8, 9] (fun t g i wr => ∃ k : Nat, k ≤ l.length ∧ i = .int .i64 k ∧ Held w mb cb k t g wr) (fun _ _ i _ => l.length - (intOf i).toNat)
  case atStart => exact ⟨0, by omega, rfl, M.new q, [], [], OwnI.nil _ _, OwnI.nil _ _, Apart.nil _, Nat.le_refl _, Nat.le_refl _, inv_new q hq40, hA2, hB3⟩
  case round =>
    obtain ⟨k, hk, rfl, m, ts, gs, hT, hG, hTG, ht1, hg1, hI, hA, hB⟩ := hrel
    have hs := hB.size
    by_cases hlt : k < l.length
    · obtain ⟨ad, eA, x0, x1, x2, x3, x4⟩ := act_cells (actC_below hB HR.out) k hlt
      have hxo := HO.out (l.getD k act0) (by rw [List.getD_eq_getElem?_getD, List.getElem?_eq_getElem hlt]; exact List.getElem_mem hlt)
      generalize l.getD k act0 = x at *
      obtain ⟨xd, xp, xn, xm, xr⟩ := x
      simp only at x0 x1 x2 x3 x4
      subst eA
      obtain ⟨d0, d1⟩ := u8_of hxo.1
      have n1 : wr.heap.size ≠ mb := by have := hA.lt_mb; omega
      have n2 : wr.heap.size ≠ cb := by have := hA.lt_cb; omega
      have hx := blk_new wr (.cells #[.int .u8 xd, .int .i64 xp, .int .i64 xn, .int .i64 xm, .bool xr] 34 (0, 0))
      have hAx := hA.alloc (.cells #[.int .u8 xd, .int .i64 xp, .int .i64 xn, .int .i64 xm, .bool xr] 34 (0, 0))
      have hBx := hB.alloc hs (.cells #[.int .u8 xd, .int .i64 xp, .int .i64 xn, .int .i64 xm, .bool xr] 34 (0, 0))
      have hTx := hT.alloc (.cells #[.int .u8 xd, .int .i64 xp, .int .i64 xn, .int .i64 xm, .bool xr] 34 (0, 0))
      have hGx := hG.alloc (.cells #[.int .u8 xd, .int .i64 xp, .int .i64 xn, .int .i64 xm, .bool xr] 34 (0, 0))
      clear hxo hA hB hT hG
      obtain ⟨At', ct, rfl⟩ := hTx.slice
      obtain ⟨Ag, cg, rfl⟩ := hGx.slice
      go_upto_if 55 with fail
      go_cut [7, 8] (fun t g wx => Held w mb cb (k + 1) t g wx)
      case first =>
        have hts : ts.length ≤ 300 := by omega
        have hgs : gs.length ≤ 300 := by omega
        by_cases hd : xd.tmod 9 ≤ 1
        · have q0 : decide (xd.tmod 9 ≤ 1) = true := decide_eq_true hd
          have y2 := (blk_cell hx 2).trans rfl
          go_wp2_with fail
          refine (AllocWord_calls hAx xn).mono ?_
          rcases inv_alloc hI xn hts hgs with ⟨m', x, e', hnx, hI'⟩ | ⟨m', e', hI'⟩
          · rw [e']
            rintro e w5 ⟨rfl, hA5, hF5⟩
            have hT5 := hTx.fr hAx hF5
            have hG5 := hGx.fr hAx hF5
            have hB5 := hF5.over hBx (by simp; omega) hmb' hcb'
            clear e' hAx hBx hTx hGx hx x0 x1 x2 x3 x4 y2
            go_wp2_with fail
            go_loopw [13] (fun j wr => ∃ q : Nat, q ≤ ts.length ∧ j = .int .i64 q ∧ wr = w5) (fun j _ => ts.length - (intOf j).toNat)
            case atStart => exact ⟨0, by omega, rfl, rfl⟩
            case round =>
              obtain ⟨q, hq, rfl, rfl⟩ := hrel
              by_cases hqt : q < ts.length
              · obtain ⟨gb, eg, hcl⟩ := hT5.cell q hqt
                have hne : (ts.getD q 0 == x) = false := by
                  rw [beq_eq_false_iff_ne]
                  intro e
                  apply hnx
                  rw [← e, List.getD_eq_getElem?_getD, List.getElem?_eq_getElem hqt]
                  exact List.getElem_mem hqt
                generalize ts.getD q 0 = z at *
                subst eg
                go_wp2
                go_roundw
                case rel => exact ⟨q + 1, by omega, by go_num, by first | rfl | trivial⟩
                case measure => simp [intOf]; omega
              · go_wp2_with (at_builtin; refine append_I (w0 := w) rfl _ _ rfl w.heap.size _ ts x hT5 rfl rfl hB5 hB5.size (by omega) ?_)
                intro v1 w6 hO1 hB6 hg6 hat
                have hA6 := hA5.grown hT5 hg6
                obtain ⟨hG6, hap⟩ := hG5.grown hTG.symm hg6 hat
                clear hg6 hat
                go_wp2_with fail
                go_meet
                exact ⟨m', ts ++ [x], gs, hO1, hG6, hap.symm, by simp; omega, by omega, hI', hA6, hB6⟩
          · rw [e']
            rintro e w5 ⟨rfl, hA5, hF5⟩
            have hT5 := hTx.fr hAx hF5
            have hG5 := hGx.fr hAx hF5
            have hB5 := hF5.over hBx (by simp; omega) hmb' hcb'
            clear e' hAx hBx hTx hGx hx x0 x1 x2 x3 x4 y2
            go_wp2_with fail
            go_loopw [13] (fun j wr => ∃ q : Nat, q ≤ ts.length ∧ j = .int .i64 q ∧ wr = w5) (fun j _ => ts.length - (intOf j).toNat)
            case atStart => exact ⟨0, by omega, rfl, rfl⟩
            case round =>
              obtain ⟨q, hq, rfl, rfl⟩ := hrel
              by_cases hqt : q < ts.length
              · go_wp2
                go_roundw
                case rel => exact ⟨q + 1, by omega, by go_num, by first | rfl | trivial⟩
                case measure => simp [intOf]; omega
              · go_wp2_with fail
                go_meet
                exact ⟨m', ts, gs, hT5, hG5, hTG, by omega, by omega, hI', hA5, hB5⟩
        · have q0 : decide (xd.tmod 9 ≤ 1) = false := decide_eq_false hd
          have y1 := (blk_cell hx 1).trans rfl
          by_cases hp : 0 < ts.length ∧ 0 ≤ xp
          · obtain ⟨hp1, hp2⟩ := hp
            have g3 : decide (0 < ts.length) = true := decide_eq_true hp1
            have g4 : decide (0 ≤ xp) = true := decide_eq_true hp2
            obtain ⟨q, hq⟩ : ∃ q : Nat, xp % (ts.length : Int) = (q : Int) := ⟨(xp % (ts.length : Int)).toNat, by rw [Int.toNat_of_nonneg (Int.emod_nonneg _ (by omega))]⟩
            have hq2 : q < ts.length := by
              have := Int.emod_lt_of_pos xp (b := (ts.length : Int)) (by omega)
              omega
            obtain ⟨gb, eg, hcl⟩ := hTx.cell q hq2
            have hmem : ts.getD q 0 ∈ ts := by
              rw [List.getD_eq_getElem?_getD, List.getElem?_eq_getElem hq2]
              exact List.getElem_mem hq2
            generalize ts.getD q 0 = z at *
            subst eg
            go_wp2_with fail
            refine (Free_calls hAx z).mono ?_
            rcases inv_free hI hmem hts hgs with ⟨m', e', hI'⟩ | ⟨m', e', hI'⟩
            · rw [e']
              rintro e w5 ⟨rfl, hA5, hF5⟩
              have hT5 := hTx.fr hAx hF5
              have hG5 := hGx.fr hAx hF5
              have hB5 := hF5.over hBx (by simp; omega) hmb' hcb'
              clear e' hAx hBx hTx hGx hx x0 x1 x2 x3 x4 y1 hcl hq
              go_wp2_with (at_builtin; refine append_I (w0 := w) rfl _ _ rfl w.heap.size _ gs z hG5 rfl rfl hB5 hB5.size (by omega) ?_)
              intro v1 w6 hO1 hB6 hg6 hat
              have hA6 := hA5.grown hG5 hg6
              obtain ⟨hT6, hap⟩ := hT5.grown hTG hg6 hat
              clear hg6 hat
              go_wp2_with fail
              go_meet
              exact ⟨m', ts, gs ++ [z], hT6, hO1, hap, by omega, by simp; omega, hI', hA6, hB6⟩
            · rw [e']
              rintro e w5 ⟨rfl, hA5, hF5⟩
              have hT5 := hTx.fr hAx hF5
              have hG5 := hGx.fr hAx hF5
              have hB5 := hF5.over hBx (by simp; omega) hmb' hcb'
              clear e' hAx hBx hTx hGx hx x0 x1 x2 x3 x4 y1 hcl hq
              go_wp2_with fail
              go_meet
              exact ⟨m', ts, gs, hT5, hG5, hTG, by omega, by omega, hI', hA5, hB5⟩
          · by_cases hp1 : 0 < ts.length
            · have g3 : decide (0 < ts.length) = true := decide_eq_true hp1
              have g4 : decide (0 ≤ xp) = false := decide_eq_false (fun c => hp ⟨hp1, c⟩)
              go_wp2_with fail
              go_meet
              exact ⟨m, ts, gs, hTx, hGx, hTG, by omega, by omega, hI, hAx, hBx⟩
            · have g3 : decide (0 < ts.length) = false := decide_eq_false hp1
              go_wp2_with fail
              go_meet
              exact ⟨m, ts, gs, hTx, hGx, hTG, by omega, by omega, hI, hAx, hBx⟩
      case rest =>
        clear hTx hGx hAx hBx hx hI hTG ht1 hg1
        obtain ⟨m, ts, gs, hT, hG, hTG, ht1, hg1, hI, hA, hB⟩ := hcut
        obtain ⟨At', ct, rfl⟩ := hT.slice
        obtain ⟨Ag, cg, rfl⟩ := hG.slice
        go_wp2
        go_loopw [15] (fun j wr => ∃ (q : Nat) (m : M), q ≤ gs.length ∧ j = .int .i64 q ∧ OwnI wr w.heap.size (.slice At' ts.length ct) ts ∧ OwnI wr w.heap.size (.slice Ag gs.length cg) gs ∧ Inv m ts gs ∧ At wr mb cb m ∧ Below w.heap.size w wr) (fun j _ => gs.length - (intOf j).toNat)
        case atStart => exact ⟨0, m, by omega, rfl, hT, hG, hI, hA, hB⟩
        case round =>
          clear hT hG hI hA hB
          obtain ⟨q, m, hq, rfl, hT, hG, hI, hA, hB⟩ := hrel
          by_cases hqt : q < gs.length
          · obtain ⟨gb, eg, hcl⟩ := hG.cell q hqt
            have hmem : gs.getD q 0 ∈ gs := by
              rw [List.getD_eq_getElem?_getD, List.getElem?_eq_getElem hqt]
              exact List.getElem_mem hqt
            subst eg
            obtain ⟨z, hz⟩ : ∃ z, gs.getD q 0 = z := ⟨_, rfl⟩
            have HZ := Lib.hid hz
            rw [hz] at hcl hmem
            clear hz
            go_wp2_with fail
            refine (Word_calls hA z).mono ?_
            rw [(inv_stale hI hmem).1]
            rintro e w5 ⟨rfl, hA5, hF5⟩
            have hT5 := hT.fr hA hF5
            have hG5 := hG.fr hA hF5
            have hI5 : Inv m.gone ts gs := inv_same hI rfl rfl
            have hB5 := hF5.over hB hB.size hmb' hcb'
            obtain ⟨_, eg, hcl5⟩ := hG5.cell q hqt
            injection eg with eg
            injection eg with eg
            subst eg
            rw [HZ.out] at hcl5
            go_wp2_with fail
            refine (Swap_calls hA5 z 0 1).mono ?_
            rw [(inv_stale hI5 hmem).2.1]
            rintro e w6 ⟨rfl, hA6, hF6⟩
            have hT6 := hT5.fr hA5 hF6
            have hG6 := hG5.fr hA5 hF6
            have hI6 : Inv m.gone.gone ts gs := inv_same hI5 rfl rfl
            have hB6 := hF6.over hB5 hB5.size hmb' hcb'
            obtain ⟨_, eg, hcl6⟩ := hG6.cell q hqt
            injection eg with eg
            injection eg with eg
            subst eg
            rw [HZ.out] at hcl6
            clear hcl5 hcl hT5 hG5 hA5 hF5 hB5 hT hG hA hB
            go_wp2_with fail
            refine (Free_calls hA6 z).mono ?_
            rw [(inv_stale hI6 hmem).2.2.1]
            rintro e w7 ⟨rfl, hA7, hF7⟩
            have hT7 := hT6.fr hA6 hF7
            have hG7 := hG6.fr hA6 hF7
            have hI7 : Inv m.gone.gone.gone ts gs := inv_same hI6 rfl rfl
            have hB7 := hF7.over hB6 hB6.size hmb' hcb'
            obtain ⟨_, eg, hcl7⟩ := hG7.cell q hqt
            injection eg with eg
            injection eg with eg
            subst eg
            rw [HZ.out] at hcl7
            clear hcl6 hT6 hG6 hF6 hB6
            go_wp2_with fail
            refine (Retire_calls hA7 z 1).mono ?_
            rw [(inv_stale hI7 hmem).2.2.2]
            rintro e w8 ⟨rfl, hA8, hF8⟩
            have hT8 := hT7.fr hA7 hF8
            have hG8 := hG7.fr hA7 hF8
            have hI8 : Inv m.gone.gone.gone.gone ts gs := inv_same hI7 rfl rfl
            have hB8 := hF8.over hB7 hB7.size hmb' hcb'
            clear hcl7
            go_wp2
            go_roundw
            case rel => exact ⟨q + 1, _, by omega, by go_num, hT8, hG8, hI8, hA8, hB8⟩
            case measure => simp [intOf]; omega
          · go_wp2
            go_roundw
            case rel => exact ⟨k + 1, by omega, by go_num, m, ts, gs, hT, hG, hTG, by omega, by omega, hI, hA, hB⟩
            case measure => simp [intOf]; omega
    · obtain ⟨At', ct, rfl⟩ := hT.slice
      obtain ⟨Ag, cg, rfl⟩ := hG.slice
      have hlv := hI.live
      have HL := Lib.hid hlv
      clear hlv
      go_wp2_with fail
      refine (live_calls hA).mono ?_
      rintro e w3 ⟨rfl, rfl⟩
      rw [HL.out]
      go_wp2
      go_ret
      exact ⟨by simp, hB⟩
theorem MemStale_walk (a : Int) (h0 : 0 ≤ a) (h1 : a < 256) (A : Option Addr) (cap : Nat) (l : List Act) (w : World) (hr0 : actKd.C w A l.length l) (hok : ∀ x ∈ l, x.ok) :
    Calls Try.prog 5 #[.int .u8 a, .slice A l.length cap] w fun e w' => e = .returned (.bool true) ∧ Below w.heap.size w w' := by
  by_cases h : l.length ≤ 200
  · exact MemStale_main a h0 h1 A cap l h w hr0 hok
  · exact MemStale_long a A cap l (by omega) w
end
end Go.Proofs.Ythghhkdichbijaa.Mem
