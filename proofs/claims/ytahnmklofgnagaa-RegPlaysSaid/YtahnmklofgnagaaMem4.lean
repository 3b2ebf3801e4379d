/- Memory's functions by hand, on: Load, Reap, put, Alloc, AllocWord, New. -/
import Derived.Test.YtahnmklofgnagaaMem3
import Derived.Deep.OwnRows
namespace Go.Proofs.Ytahnmklofgnagaa.Mem
open Go.RowKit Go.Proofs.YtahnmklofgnagaaW.PrintWords Go.Proofs.Ytahnmklofgnagaa.Tags
set_option linter.unusedVariables false
set_option linter.unusedSimpArgs false
section
variable {w : World} {mb cb : Nat} {m : M}
set_option maxHeartbeats 800000 in
theorem Load_calls (h : At w mb cb m) (x : Int) : Calls Try.prog 118 #[ptr mb, .int .i64 x] w (Ends w mb cb (.tuple #[(m.load x).2.1, .int .i64 (m.load x).2.2]) (m.load x).1) := by
  rcases ways h x with hf | ⟨i, n, hf, hn⟩ | ⟨i, T, u, hf, hn, hT⟩
  · have e : m.load x = (m.gone, .nilIface, 5) := by unfold M.load; rw [hf]
    rw [e]
    have HC := Lib.hid (cell_miss h x hf)
    clear hf e
    go_enter Try.func118, Try.ntmps118
    go_wp2_with fail
    refine HC.out.mono ?_
    rintro e w1 ⟨rfl, hA, hF⟩
    go_wp2
    go_ret2
    exact ⟨rfl, hA, hF⟩
  · have hi := find_lt hf
    have e : m.load x = (m.tick, .nilIface, 6) := by unfold M.load; rw [hf]; simp only [hn, numOf_number]
    rw [e]
    have HC := Lib.hid (cell_hit h x i hf)
    have HN := Lib.hid hn
    have ta := ta_num n
    clear hf e hn
    go_enter Try.func118, Try.ntmps118
    go_wp2_with fail
    refine HC.out.mono ?_
    rintro e w1 ⟨rfl, hA, hF⟩
    have a1 : w1.cell? ⟨cb, i * 4, none⟩ = some (number n) := (hA.v_ (i := i) hi).trans (congrArg some HN.out)
    go_wp2
    go_ret2
    exact ⟨rfl, hA, hF⟩
  · have hi := find_lt hf
    have e : m.load x = (m.tick, .iface T u, 0) := by unfold M.load; rw [hf]; simp only [hn, numOf_block hT]
    rw [e]
    have HC := Lib.hid (cell_hit h x i hf)
    have HN := Lib.hid hn
    have ta := fun W => ta_not u hT W
    clear hf e hn
    go_enter Try.func118, Try.ntmps118
    go_wp2_with fail
    refine HC.out.mono ?_
    rintro e w1 ⟨rfl, hA, hF⟩
    have a1 : w1.cell? ⟨cb, i * 4, none⟩ = some (.iface T u) := (hA.v_ (i := i) hi).trans (congrArg some HN.out)
    go_wp2
    go_ret2
    exact ⟨rfl, hA, hF⟩
/-- May a cell be taken? -/
def Cl.may (c : Cl) : Bool := c.free && decide (c.gen ≤ 16383)
def M.taken (m : M) (i : Nat) (v : Value) : M := { m.hold i v with live := wrap64 (m.live + 1) }
def hOf (i : Nat) (g : Int) : Int := if 0 ≤ g ∧ g ≤ 16383 then g * 65536 + i + 1 else 0
theorem handle_of (i : Nat) (g : Int) (hi : i < 65535) : tag_Handle.f i g = some (hOf i g) := by
  rw [handle_eq]
  unfold hOf
  by_cases c : 0 ≤ g ∧ g ≤ 16383
  · rw [if_pos c, if_pos ⟨⟨by omega, by omega⟩, c⟩]
  · rw [if_neg c, if_neg (fun k => c k.2)]
set_option maxHeartbeats 1600000 in
theorem put_hit (h : At w mb cb m) (T : TypeId) (u : Value) (hv : OkV (.iface T u)) (i : Nat) (hi : i < m.cells.length) (hm : (m.at i).may = true) (hb : ∀ j, j < i → (m.at j).may = false) :
    Calls Try.prog 120 #[ptr mb, .iface T u] w (Ends w mb cb (.tuple #[.int .i64 (hOf i (m.at i).gen), .int .i64 0]) (m.taken i (.iface T u))) := by
  have a0 := h.cells_
  have hlen := h.len
  have HB := Lib.hid hb
  have HM := Lib.hid hm
  clear hb hm
  go_enter Try.func120, Try.ntmps120
  go_wp2
  go_loopw [6, 7, 13] (fun a b c wr => ∃ k : Nat, k ≤ i ∧ c = .int .i64 k ∧ At wr mb cb m ∧ Fr w wr mb cb) (fun _ _ c _ => m.cells.length - (intOf c).toNat)
  case atStart => exact ⟨0, Nat.zero_le _, rfl, h, Fr.refl _ _ _⟩
  case round =>
    obtain ⟨k, hk, rfl, hA, hF⟩ := hrel
    have hkl : k < m.cells.length := by omega
    have a0 := hA.cells_
    have a2 := hA.gen_ hkl
    by_cases hki : k = i
    · subst hki
      have hm := HM.out
      unfold Cl.may at hm
      rw [Bool.and_eq_true, decide_eq_true_eq] at hm
      obtain ⟨hm1, hm2⟩ := hm
      have a1 : wr.cell? ⟨cb, k * 4, none⟩ = some .nilIface := (hA.v_ hkl).trans (congrArg some (nil_of hm1 (h.okv k)))
      have hg := handle_of k (m.at k).gen (by omega)
      generalize hr : hOf k (m.at k).gen = r at *
      generalize hgg : (m.at k).gen = g at *
      have HG := Lib.hid hg
      have g3 : decide (g ≤ 16383) = true := decide_eq_true hm2
      have hnil := fun W => run_eql_nil_nil (P := Try.prog) W 20 (by kernel_rfl)
      have z1 := hA.fzc (k * 4)
      have zl := hA.fz 2
      have al := hA.live_
      have hn := hA.ne
      clear hr hgg hg hm1
      go_wp2_with fail
      refine (tag_Handle.calls k g r _ HG.out).mono ?_
      rintro e w1 ⟨rfl, hd⟩
      have hA2 := ((hA.set_v hkl (.iface T u) hv).set_live (wrap64 (m.live + 1))).drawn hd
      have hF2 := ((hF.set ⟨cb, k * 4, none⟩ (Or.inr rfl) (.iface T u)).set ⟨mb, 2, none⟩ (Or.inl rfl) (.int .i64 (wrap64 (m.live + 1)))).drawn hd
      clear hd
      go_wp2
      go_ret2
      exact ⟨rfl, hA2, hF2⟩
    · have hm := HB.out k (by omega)
      unfold Cl.may at hm
      by_cases hfr : (m.at k).free = true
      · rw [hfr, Bool.true_and, decide_eq_false_iff_not] at hm
        have a1 : wr.cell? ⟨cb, k * 4, none⟩ = some .nilIface := (hA.v_ hkl).trans (congrArg some (nil_of hfr (h.okv k)))
        generalize hgg : (m.at k).gen = g at *
        have g3 : decide (g ≤ 16383) = false := decide_eq_false hm
        have hnil := fun W => run_eql_nil_nil (P := Try.prog) W 20 (by kernel_rfl)
        clear hgg hm hfr
        go_wp2
        go_roundw
        case rel => exact ⟨k + 1, by omega, by go_num, hA, hF⟩
        case measure => simp [intOf]; omega
      · have hfr' : (m.at k).free = false := by simpa using hfr
        obtain ⟨T', u', e⟩ := held_of hfr' (h.okv k)
        have a1 : wr.cell? ⟨cb, k * 4, none⟩ = some (.iface T' u') := (hA.v_ hkl).trans (congrArg some e)
        have hnil := fun W => run_eql_held_nil (P := Try.prog) W 20 T' u' (by kernel_rfl)
        clear hm hfr hfr' e
        go_wp2
        go_roundw
        case rel => exact ⟨k + 1, by omega, by go_num, hA, hF⟩
        case measure => simp [intOf]; omega
set_option maxHeartbeats 1600000 in
theorem put_full (h : At w mb cb m) (T : TypeId) (u : Value) (hb : ∀ j, j < m.cells.length → (m.at j).may = false) :
    Calls Try.prog 120 #[ptr mb, .iface T u] w (Ends w mb cb (.tuple #[.int .i64 0, .int .i64 3]) m) := by
  have a0 := h.cells_
  have hlen := h.len
  have HB := Lib.hid hb
  clear hb
  go_enter Try.func120, Try.ntmps120
  go_wp2
  go_loopw [6, 7, 13] (fun a b c wr => ∃ k : Nat, k ≤ m.cells.length ∧ c = .int .i64 k ∧ At wr mb cb m ∧ Fr w wr mb cb) (fun _ _ c _ => m.cells.length - (intOf c).toNat)
  case atStart => exact ⟨0, Nat.zero_le _, rfl, h, Fr.refl _ _ _⟩
  case round =>
    obtain ⟨k, hk, rfl, hA, hF⟩ := hrel
    have a0 := hA.cells_
    by_cases hkl : k < m.cells.length
    · have a2 := hA.gen_ hkl
      have hm := HB.out k (by omega)
      unfold Cl.may at hm
      by_cases hfr : (m.at k).free = true
      · rw [hfr, Bool.true_and, decide_eq_false_iff_not] at hm
        have a1 : wr.cell? ⟨cb, k * 4, none⟩ = some .nilIface := (hA.v_ hkl).trans (congrArg some (nil_of hfr (h.okv k)))
        generalize hgg : (m.at k).gen = g at *
        have g3 : decide (g ≤ 16383) = false := decide_eq_false hm
        have hnil := fun W => run_eql_nil_nil (P := Try.prog) W 20 (by kernel_rfl)
        clear hgg hm hfr
        go_wp2
        go_roundw
        case rel => exact ⟨k + 1, by omega, by go_num, hA, hF⟩
        case measure => simp [intOf]; omega
      · have hfr' : (m.at k).free = false := by simpa using hfr
        obtain ⟨T', u', e⟩ := held_of hfr' (h.okv k)
        have a1 : wr.cell? ⟨cb, k * 4, none⟩ = some (.iface T' u') := (hA.v_ hkl).trans (congrArg some e)
        have hnil := fun W => run_eql_held_nil (P := Try.prog) W 20 T' u' (by kernel_rfl)
        clear hm hfr hfr' e
        go_wp2
        go_roundw
        case rel => exact ⟨k + 1, by omega, by go_num, hA, hF⟩
        case measure => simp [intOf]; omega
    · go_wp2
      go_ret2
      exact ⟨rfl, hA, hF⟩
/-- The first cell that may be taken. -/
def M.room (m : M) : Option Nat := m.cells.findIdx? Cl.may
theorem at_get (m : M) {i : Nat} (h : i < m.cells.length) : m.at i = m.cells[i] := by
  unfold M.at
  rw [List.getD_eq_getElem?_getD, List.getElem?_eq_getElem h]
  rfl
theorem room_some {i : Nat} (h : m.room = some i) : i < m.cells.length ∧ (m.at i).may = true ∧ ∀ j, j < i → (m.at j).may = false := by
  unfold M.room at h
  obtain ⟨h1, h2, h3⟩ := List.findIdx?_eq_some_iff_getElem.1 h
  refine ⟨h1, by rw [at_get m h1]; exact h2, fun j hj => ?_⟩
  rw [at_get m (by omega)]
  simpa using h3 j hj
theorem room_none (h : m.room = none) : ∀ j, j < m.cells.length → (m.at j).may = false := by
  unfold M.room at h
  rw [List.findIdx?_eq_none_iff] at h
  intro j hj
  rw [at_get m hj]
  simpa using h _ (List.getElem_mem hj)
/-- A free cell holds something: memory, the handle, the error. -/
def M.putv (m : M) (v : Value) : M × Int × Int := match m.room with
  | some i => (m.taken i v, hOf i (m.at i).gen, 0)
  | none => (m, 0, 3)
def M.alloc (m : M) (v : Value) : M × Int × Int := m.tick.putv v
theorem put_calls (h : At w mb cb m) (T : TypeId) (u : Value) (hv : OkV (.iface T u)) :
    Calls Try.prog 120 #[ptr mb, .iface T u] w (Ends w mb cb (.tuple #[.int .i64 (m.putv (.iface T u)).2.1, .int .i64 (m.putv (.iface T u)).2.2]) (m.putv (.iface T u)).1) := by
  unfold M.putv
  cases hr : m.room with
  | some i =>
    obtain ⟨h1, h2, h3⟩ := room_some hr
    exact put_hit h T u hv i h1 h2 h3
  | none => exact put_full h T u (room_none hr)
set_option maxHeartbeats 800000 in
theorem AllocWord_calls (h : At w mb cb m) (n : Int) : Calls Try.prog 115 #[ptr mb, .int .i64 n] w (Ends w mb cb (.tuple #[.int .i64 (m.alloc (number n)).2.1, .int .i64 (m.alloc (number n)).2.2]) (m.alloc (number n)).1) := by
  have h1 := h.count_
  have z1 := h.fz 1
  have hA := h.set_count (wrap64 (m.count + 1))
  have hF := (Fr.refl w mb cb).set ⟨mb, 1, none⟩ (Or.inl rfl) (.int .i64 (wrap64 (m.count + 1)))
  go_enter Try.func115, Try.ntmps115
  go_wp2_with fail
  refine (put_calls (m := m.tick) hA 166 (.int .i64 n) (Or.inr (Or.inl ⟨n, rfl⟩))).mono ?_
  rintro e w1 ⟨rfl, hA1, hF1⟩
  go_wp2
  go_ret2
  exact ⟨rfl, hA1, hF.trans hF1⟩
set_option maxHeartbeats 800000 in
theorem Alloc_calls (h : At w mb cb m) (T : TypeId) (u : Value) (hv : OkV (.iface T u)) : Calls Try.prog 82 #[ptr mb, .iface T u] w (Ends w mb cb (.tuple #[.int .i64 (m.alloc (.iface T u)).2.1, .int .i64 (m.alloc (.iface T u)).2.2]) (m.alloc (.iface T u)).1) := by
  have h1 := h.count_
  have z1 := h.fz 1
  have hA := h.set_count (wrap64 (m.count + 1))
  have hF := (Fr.refl w mb cb).set ⟨mb, 1, none⟩ (Or.inl rfl) (.int .i64 (wrap64 (m.count + 1)))
  have hnil := fun W => run_eql_held_nil (P := Try.prog) W 20 T u (by kernel_rfl)
  go_enter Try.func82, Try.ntmps82
  go_wp2_with fail
  refine (put_calls (m := m.tick) hA T u hv).mono ?_
  rintro e w1 ⟨rfl, hA1, hF1⟩
  go_wp2
  go_ret2
  exact ⟨rfl, hA1, hF.trans hF1⟩
set_option maxHeartbeats 800000 in
theorem Alloc_nil (h : At w mb cb m) : Calls Try.prog 82 #[ptr mb, .nilIface] w (Ends w mb cb (.tuple #[.int .i64 0, .int .i64 6]) m.tick) := by
  have h1 := h.count_
  have z1 := h.fz 1
  have hA := h.set_count (wrap64 (m.count + 1))
  have hF := (Fr.refl w mb cb).set ⟨mb, 1, none⟩ (Or.inl rfl) (.int .i64 (wrap64 (m.count + 1)))
  have hnil := fun W => run_eql_nil_nil (P := Try.prog) W 20 (by kernel_rfl)
  go_enter Try.func82, Try.ntmps82
  go_wp2
  go_ret2
  exact ⟨rfl, hA, hF⟩
set_option maxHeartbeats 1600000 in
theorem Reap_calls (h : At w mb cb m) (p b : Int) : Calls Try.prog 91 #[ptr mb, .int .i64 p, .int .i64 b] w (Ends w mb cb (.tuple #[.bool (m.reap p b).2.1, .int .i64 (m.reap p b).2.2]) (m.reap p b).1) := by
  have h1 := h.count_
  have z1 := h.fz 1
  have hA := h.set_count (wrap64 (m.count + 1))
  have hF := (Fr.refl w mb cb).set ⟨mb, 1, none⟩ (Or.inl rfl) (.int .i64 (wrap64 (m.count + 1)))
  by_cases hp : p < 0
  · have e : m.reap p b = (m.tick, false, 10) := by unfold M.reap; rw [if_pos (Or.inl hp)]
    rw [e]
    have a0 := h.cells_
    clear e
    go_enter Try.func91, Try.ntmps91
    go_wp2
    go_ret2
    exact ⟨rfl, hA, hF⟩
  · obtain ⟨i, rfl⟩ := Int.eq_ofNat_of_zero_le (Int.not_lt.1 hp)
    have g1 : decide ((i : Int) < 0) = false := decide_eq_false hp
    by_cases hi : i < m.cells.length
    · have a0 := h.cells_
      have r1 := h.ret_ hi
      have r2 := h.stamp_ hi
      have g2 : decide (m.cells.length ≤ i) = false := decide_eq_false (by omega)
      have n1 : ¬ ((i : Int) < 0 ∨ (m.cells.length : Int) ≤ i) := by omega
      unfold M.reap
      rw [if_neg n1, Int.toNat_natCast]
      clear n1
      by_cases hv : (m.at i).free = true
      · rw [if_pos (Or.inl hv)]
        have a1 : w.cell? ⟨cb, i * 4, none⟩ = some .nilIface := (h.v_ hi).trans (congrArg some (nil_of hv (h.okv i)))
        have hnil := fun W => run_eql_nil_nil (P := Try.prog) W 20 (by kernel_rfl)
        clear hv
        go_enter Try.func91, Try.ntmps91
        go_wp2
        go_ret2
        exact ⟨rfl, hA, hF⟩
      · have hfr' : (m.at i).free = false := by simpa using hv
        obtain ⟨T', u', e⟩ := held_of hfr' (h.okv i)
        have a1 : w.cell? ⟨cb, i * 4, none⟩ = some (.iface T' u') := (h.v_ hi).trans (congrArg some e)
        have hnil := fun W => run_eql_held_nil (P := Try.prog) W 20 T' u' (by kernel_rfl)
        by_cases hr : (m.at i).ret = false
        · rw [if_pos (Or.inr (Or.inl hr))]
          rw [hr] at r1
          clear hr e hv hfr'
          go_enter Try.func91, Try.ntmps91
          go_wp2
          go_ret2
          exact ⟨rfl, hA, hF⟩
        · have hr' : (m.at i).ret = true := by simpa using hr
          rw [hr'] at r1
          by_cases hs : b ≤ (m.at i).stamp
          · rw [if_pos (Or.inr (Or.inr hs))]
            generalize (m.at i).stamp = s at *
            have g3 : decide (b ≤ s) = true := decide_eq_true hs
            clear hr e hv hfr' hr'
            go_enter Try.func91, Try.ntmps91
            go_wp2
            go_ret2
            exact ⟨rfl, hA, hF⟩
          · rw [if_neg (fun c => by rcases c with c | c | c <;> simp_all)]
            generalize (m.at i).stamp = s at *
            have g3 : decide (b ≤ s) = false := decide_eq_false hs
            clear hr e hv hfr' hr' hs
            go_enter Try.func91, Try.ntmps91
            go_wp2_with fail
            refine (free_calls (m := m.tick) hA (i := i) hi).mono ?_
            rintro e w1 ⟨rfl, hA1, hF1⟩
            go_wp2
            go_ret2
            exact ⟨rfl, hA1, hF.trans hF1⟩
    · have e : m.reap i b = (m.tick, false, 10) := by unfold M.reap; rw [if_pos (Or.inr (by omega))]
      rw [e]
      have a0 := h.cells_
      have g2 : decide (m.cells.length ≤ i) = true := decide_eq_true (by omega)
      clear e
      go_enter Try.func91, Try.ntmps91
      go_wp2
      go_ret2
      exact ⟨rfl, hA, hF⟩
/-- Memory of so many free cells. -/
def M.new (n : Nat) : M := ⟨List.replicate n c0, 0, 0, 0⟩
theorem row_len : ∀ l : List Cl, (row l).length = l.length * 4
  | [] => rfl
  | c :: l => by
    have := row_len l
    simp only [row, List.length_cons, this]
    omega
theorem made_row (n : Nat) : madeCells #[.nilIface, .int .i64 0, .int .i64 0, .bool false] (n * 4) = (row (List.replicate n c0)).toArray := by
  apply Array.ext'
  apply List.ext_getElem
  · simp [size_madeCells, row_len]
  · intro j h1 h2
    simp [size_madeCells] at h1
    have hq : j / 4 < n := by omega
    have ha := row_at (List.replicate n c0) (j / 4) (by simpa using hq)
    have hd : (List.replicate n c0).getD (j / 4) c0 = c0 := by simp [List.getD_eq_getElem?_getD, List.getElem?_replicate, hq]
    rw [hd] at ha
    have hm : j % 4 = 0 ∨ j % 4 = 1 ∨ j % 4 = 2 ∨ j % 4 = 3 := by omega
    rcases hm with e | e | e | e
    · have ej : j / 4 * 4 = j := by omega
      rw [ej] at ha
      have h3 := (List.getElem?_eq_some_iff.1 ha.1).2
      simp [madeCells, e, h3]; rfl
    · have ej : j / 4 * 4 + 1 = j := by omega
      rw [ej] at ha
      have h3 := (List.getElem?_eq_some_iff.1 ha.2.1).2
      simp [madeCells, e, h3]; rfl
    · have ej : j / 4 * 4 + 2 = j := by omega
      rw [ej] at ha
      have h3 := (List.getElem?_eq_some_iff.1 ha.2.2.1).2
      simp [madeCells, e, h3]; rfl
    · have ej : j / 4 * 4 + 3 = j := by omega
      rw [ej] at ha
      have h3 := (List.getElem?_eq_some_iff.1 ha.2.2.2).2
      simp [madeCells, e, h3]; rfl
theorem cell_info : (Try.prog.info? 165).map (fun i => (i.zero, i.size, i.bytes)) = some (some (.agg #[.nilIface, .int .i64 0, .int .i64 0, .bool false]), 4, 40) := by kernel_rfl
theorem make_cells (n : Nat) (hn : n ≤ 65535) (w : World) : (Instr.makeSlice 130 (.int .i64 (n : Int)) (.int .i64 (n : Int))).run Try.prog w = .ok (.slice (some ⟨w.heap.size, 0, none⟩) n n) (w.alloc (.cells (row (List.replicate n c0)).toArray 165)) := by
  obtain ⟨i, hi, hz⟩ := Option.map_eq_some_iff.1 cell_info
  simp only [Prod.mk.injEq] at hz
  obtain ⟨hz, hs, hb⟩ := hz
  have hr := run_make (P := Try.prog) w 130 165 i _ Try.underlying130 hi hz .i64 .i64 n n (by omega) (Int.le_refl _) (by rw [hb]; omega) (by omega)
  rw [hs] at hr
  simp only [Int.toNat_natCast] at hr
  rw [← made_row]
  exact hr
set_option maxHeartbeats 800000 in
theorem New_bad (n : Int) (w : World) (hn : n < 1 ∨ 65535 < n) : Calls Try.prog 46 #[.int .i64 n] w fun e w' => e = .returned (.tuple #[.pointer none, .int .i64 10]) ∧ w = w' := by
  by_cases h1 : n < 1
  · have g1 : decide (n < 1) = true := decide_eq_true h1
    go_enter Try.func46, Try.ntmps46
    go_wp2
    go_ret2
    exact ⟨rfl, rfl⟩
  · have g1 : decide (n < 1) = false := decide_eq_false h1
    have g2 : decide (65535 < n) = true := decide_eq_true (by omega)
    go_enter Try.func46, Try.ntmps46
    go_wp2
    go_ret2
    exact ⟨rfl, rfl⟩
set_option maxHeartbeats 800000 in
theorem New_calls (n : Nat) (w : World) (h1 : 1 ≤ n) (h2 : n ≤ 65535) : Calls Try.prog 46 #[.int .i64 n] w fun e w' => e = .returned (.tuple #[ptr (w.heap.size + 1), .int .i64 0]) ∧ At w' (w.heap.size + 1) w.heap.size (M.new n) ∧ Below w.heap.size w w' := by
  have g1 : decide ((n : Int) < 1) = false := decide_eq_false (by omega)
  have g2 : decide ((65535 : Int) < n) = false := decide_eq_false (by omega)
  have hmk := fun W => make_cells n h2 W
  go_enter Try.func46, Try.ntmps46
  go_wp2
  go_ret2
  refine ⟨rfl, ⟨?_, ?_, by simp [M.new]; exact h2, ?_⟩, below_alloc (below_alloc (Below.refl _ _) _) _⟩
  · have e : w.heap.size + 1 = (w.alloc (.cells (row (List.replicate n c0)).toArray 165)).heap.size := by simp
    rw [e, blk_new]
    simp [M.new]
  · exact blk_alloc (blk_new _ _) _
  · intro c hc
    simp [M.new] at hc
    rw [hc.2]
    exact Or.inl rfl
end
end Go.Proofs.Ytahnmklofgnagaa.Mem
