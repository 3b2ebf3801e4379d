/- Memory's functions by hand: what each answers, and what it makes of memory. -/
import Derived.Test.YtahnmklofgnagaaMem0
import Derived.Test.YtahnmklofgnagaaTags
import Derived.Deep.QuietTactic
import Derived.BigQuiet
import Derived.Lib.Hide
import Derived.WideLaws
import Derived.Outline
import Derived.Laws.BitsLemmas
import Derived.Laws.BitsAllLaws
namespace Go.Proofs.Ytahnmklofgnagaa.Mem
open Go.RowKit Go.Proofs.YtahnmklofgnagaaW.PrintWords Go.Proofs.Ytahnmklofgnagaa.Tags
set_option linter.unusedVariables false
set_option linter.unusedSimpArgs false
theorem i64_of {a : Int} (h : (Lit.int .i64 a).wf = true) : -9223372036854775808 ≤ a ∧ a ≤ 9223372036854775807 := by
  simpa [Lit.wf, IntKind.min, IntKind.max, IntKind.signed, IntKind.bits] using h
theorem wraps_i64 (n : Int) (h₀ : 0 ≤ n) (h₁ : n < 2 ^ 63) : IntKind.i64.wrap n = n := by rw [IntKind.wrap_i64]; omega
theorem and16 (a : Int) : Go.bits .and .i64 a 65535 = a % 65536 := by
  have e : (BitVec.ofInt 64 a &&& BitVec.ofInt 64 65535).toNat = (a % 65536).toNat := by
    rw [BitVec.toNat_and, BitVec.toNat_ofInt, BitVec.toNat_ofInt]
    have h : ((65535 : Int) % ((2 ^ 64 : Nat) : Int)).toNat = 2 ^ 16 - 1 := by decide
    rw [h, Nat.and_two_pow_sub_one_eq_mod]
    omega
  have e2 : Go.bits .and .i64 a 65535 = IntKind.i64.wrap ((BitVec.ofInt 64 a &&& BitVec.ofInt 64 65535).toNat : Int) := rfl
  rw [e2, e, wraps_i64 _ (by omega) (by omega)]
  omega
theorem and31 (a : Int) : Go.bits .and .i64 a 2147483647 = a % 2147483648 := by
  have e : (BitVec.ofInt 64 a &&& BitVec.ofInt 64 2147483647).toNat = (a % 2147483648).toNat := by
    rw [BitVec.toNat_and, BitVec.toNat_ofInt, BitVec.toNat_ofInt]
    have h : ((2147483647 : Int) % ((2 ^ 64 : Nat) : Int)).toNat = 2 ^ 31 - 1 := by decide
    rw [h, Nat.and_two_pow_sub_one_eq_mod]
    omega
  have e2 : Go.bits .and .i64 a 2147483647 = IntKind.i64.wrap ((BitVec.ofInt 64 a &&& BitVec.ofInt 64 2147483647).toNat : Int) := rfl
  rw [e2, e, wraps_i64 _ (by omega) (by omega)]
  omega
theorem or31 (v h : Int) (h0 : 0 ≤ v) (h1 : v ≤ 1073741824) (h2 : 0 ≤ h) (h3 : h < 2147483648) : Go.bits .or .i64 (wrap64 (v * 2147483648)) h = v * 2147483648 + h := by
  have e : wrap64 (v * 2147483648) = v * 2147483648 := by unfold wrap64; omega
  rw [e]
  exact bits_join .i64 63 (by decide) wraps_i64 31 _ _ (by omega) (by omega) (by omega) h2 (by omega) (by omega)
theorem or16 (g p : Int) (h0 : 0 ≤ g) (h1 : g ≤ 16383) (h2 : 0 ≤ p) (h3 : p ≤ 65534) : Go.bits .or .i64 (wrap64 (g * 65536)) (wrap64 (p + 1)) = g * 65536 + p + 1 := by
  have e : wrap64 (g * 65536) = g * 65536 := by unfold wrap64; omega
  have e2 : wrap64 (p + 1) = p + 1 := by unfold wrap64; omega
  rw [e, e2, bits_join .i64 63 (by decide) wraps_i64 16 _ _ (by omega) (by omega) (by omega) (by omega) (by omega) (by omega)]
  omega
theorem within_eq (a b : Int) : tag_within.f a b = some (decide (0 ≤ a ∧ a ≤ b)) := by
  unfold tag_within.f
  by_cases h : a ≥ 0
  · rw [if_pos h]; congr 1; simp; omega
  · rw [if_neg h]; congr 1; simp; omega
/-- is a number a handle? -/
def hr (h : Int) : Bool := decide (0 < h ∧ h < 1073741824 ∧ h % 65536 ≠ 0)
theorem hr_iff (h : Int) : hr h = true ↔ (0 < h ∧ h < 1073741824 ∧ h % 65536 ≠ 0) := by simp [hr]
theorem right_eq (h : Int) : tag_Right.f h = some (hr h) := by
  unfold tag_Right.f hr
  rw [within_eq]
  simp only [Option.bind_some, and16]
  by_cases c : 0 ≤ h / 65536 ∧ h / 65536 ≤ 16383
  · rw [if_pos (by simpa using c)]
    congr 1
    by_cases c2 : h % 65536 = 0
    · simp [c2]
    · have e : (h % 65536 != 0) = true := by simpa using c2
      rw [e]; symm; simp only [decide_eq_true_eq]; omega
  · rw [if_neg (by simpa using c)]
    congr 1; symm; simp only [decide_eq_false_iff_not]; omega
theorem handle_eq (p g : Int) : tag_Handle.f p g = some (if (0 ≤ p ∧ p ≤ 65534) ∧ 0 ≤ g ∧ g ≤ 16383 then g * 65536 + p + 1 else 0) := by
  unfold tag_Handle.f
  rw [within_eq]
  simp only [Option.bind_some]
  by_cases hp : 0 ≤ p ∧ p ≤ 65534
  · rw [if_pos (by simpa using hp), within_eq]
    simp only [Option.bind_some]
    by_cases hg : 0 ≤ g ∧ g ≤ 16383
    · rw [if_pos (by simpa using hg), if_pos ⟨hp, hg⟩, or16 g p hg.1 hg.2 hp.1 hp.2]
    · rw [if_neg (by simpa using hg), if_neg (fun c => hg c.2)]
  · rw [if_neg (by simpa using hp), if_neg (fun c => hp c.1)]

theorem place_eq (h : Int) : tag_Place.f h = some (if hr h = true then h % 65536 - 1 else -1) := by
  unfold tag_Place.f
  rw [right_eq]
  simp only [Option.bind_some, and16]
  by_cases c : hr h = true
  · rw [if_pos c, if_pos c]; congr 1; unfold wrap64; omega
  · rw [if_neg c, if_neg c]
theorem gen_eq (h : Int) : tag_Gen.f h = some (if hr h = true then h / 65536 else -1) := by
  unfold tag_Gen.f
  rw [right_eq]
  simp only [Option.bind_some]
  by_cases c : hr h = true
  · rw [if_pos c, if_pos c]
  · rw [if_neg c, if_neg c]

section
variable {w : World} {mb cb : Nat} {m : M}
abbrev ptr (mb : Nat) : Value := .pointer (some ⟨mb, 0, none⟩)
set_option maxHeartbeats 400000 in
theorem live_calls (h : At w mb cb m) : Calls Try.prog 36 #[ptr mb] w fun e w' => e = .returned (.int .i64 m.live) ∧ w = w' := by
  have h2 := h.live_
  go_enter Try.func36, Try.ntmps36
  go_wp2
  go_ret
  exact ⟨rfl, rfl⟩
set_option maxHeartbeats 400000 in
theorem cells_calls (h : At w mb cb m) : Calls Try.prog 49 #[ptr mb] w fun e w' => e = .returned (.int .i64 m.cells.length) ∧ w = w' := by
  have h2 := h.cells_
  go_enter Try.func49, Try.ntmps49
  go_wp2
  go_ret
  exact ⟨rfl, rfl⟩
/-- free lets cell i hold nothing -/
def M.freed (m : M) (i : Nat) : M := { m.put i ⟨.nilIface, wrap64 ((m.at i).gen + 1), 0, false⟩ with live := wrap64 (m.live - 1) }
set_option maxHeartbeats 400000 in
theorem free_calls (h : At w mb cb m) {i : Nat} (hi : i < m.cells.length) : Calls Try.prog 122 #[ptr mb, .pointer (some ⟨cb, i * 4, none⟩)] w fun e w' => e = .returned (.tuple #[]) ∧ At w' mb cb (m.freed i) ∧ Fr w w' mb cb := by
  have h1 := h.gen_ hi
  have h2 := h.live_
  have hv := h.v_ hi
  have hs := h.stamp_ hi
  have hr := h.ret_ hi
  have z0 := h.fzc (i * 4)
  have z1 := h.fzc (i * 4 + 1)
  have z2 := h.fzc (i * 4 + 2)
  have z3 := h.fzc (i * 4 + 3)
  have zl := h.fz 2
  have hn := h.ne
  have hn' := Ne.symm h.ne
  go_enter Try.func122, Try.ntmps122
  go_wp2
  go_end0
  refine ⟨rfl, ?_, ?_⟩
  · refine At.cast (((((h.set_v hi .nilIface (Or.inl rfl)).set_gen (by rw [M.put_len]; exact hi) _).set_stamp (by simp only [M.put_len]; exact hi) 0).set_ret (by simp only [M.put_len]; exact hi) false).set_live _) ?_
    simp only [M.put_put, M.at_put hi, M.freed]
  · exact (((((Fr.refl w mb cb).set _ (Or.inr rfl) _).set _ (Or.inr rfl) _).set _ (Or.inr rfl) _).set _ (Or.inr rfl) _).set _ (Or.inl rfl) _
/-- Does a cell hold nothing? -/
def Cl.free (c : Cl) : Bool := match c.v with | .nilIface => true | _ => false
def M.tick (m : M) : M := { m with count := wrap64 (m.count + 1) }
def M.gone (m : M) : M := { m with count := wrap64 (m.count + 1), stale := wrap64 (m.stale + 1) }
/-- The place of a handle; none: it is stale. -/
def M.find (m : M) (h : Int) : Option Nat := if hr h = true ∧ h % 65536 - 1 < (m.cells.length : Int) ∧ (m.at (h % 65536 - 1).toNat).free = false ∧ (m.at (h % 65536 - 1).toNat).gen = h / 65536 then some (h % 65536 - 1).toNat else none
theorem held_of {c : Cl} (h : c.free = false) (ok : OkV c.v) : ∃ T x, c.v = .iface T x := by
  rcases ok with e | ⟨n, e⟩ | ⟨T, x, e, _⟩
  · unfold Cl.free at h
    rw [e] at h
    cases h
  · exact ⟨_, _, e⟩
  · exact ⟨_, _, e⟩
theorem nil_of {c : Cl} (h : c.free = true) (ok : OkV c.v) : c.v = .nilIface := by
  rcases ok with e | ⟨n, e⟩ | ⟨T, x, e, _⟩
  · exact e
  · unfold Cl.free at h
    rw [e] at h
    cases h
  · unfold Cl.free at h
    rw [e] at h
    cases h
theorem gen_quiet (x g : Int) (hg : tag_Gen.f x = some g) (w : World) (n : Nat) : Calls Try.prog 132 #[.int .i64 x] (w.drewN n) fun e w'' => e = .returned (.int .i64 g) ∧ ∃ m, w'' = w.drewN m :=
  Calls.quiet_of ((tag_Gen.calls x g (w.drewN n) hg).mono fun _ _ ⟨h1, ⟨k, hk⟩⟩ => ⟨h1, k, hk⟩)
set_option maxHeartbeats 800000 in
theorem cell_hit (h : At w mb cb m) (x : Int) (i : Nat) (hf : m.find x = some i) : Calls Try.prog 121 #[ptr mb, .int .i64 x] w fun e w' => e = .returned (.tuple #[.pointer (some ⟨cb, i * 4, none⟩), .int .i64 0]) ∧ At w' mb cb m.tick ∧ Fr w w' mb cb := by
  unfold M.find at hf
  split at hf
  · rename_i c
    obtain ⟨c1, c2, c3, c4⟩ := c
    have hb := (hr_iff x).1 c1
    injection hf with hf
    have ei : x % 65536 - 1 = (i : Int) := by omega
    rw [ei] at c2 c3 c4
    simp only [Int.toNat_natCast] at c3 c4
    have hi : i < m.cells.length := by omega
    have hp := place_eq x
    rw [if_pos c1, ei] at hp
    have hg := gen_eq x
    rw [if_pos c1, ← c4] at hg
    obtain ⟨T, u, hv⟩ := held_of c3 (h.okv i)
    have h1 := h.count_
    have z1 := h.fz 1
    have HP := Lib.hid hp
    have HG := Lib.hid hg
    have HV := Lib.hid hv
    clear hp hg hv hf ei c4 c3 hb c1
    go_enter Try.func121, Try.ntmps121
    go_wp2_with fail
    refine (tag_Place.calls x _ _ HP.out).mono ?_
    rintro e w1 ⟨rfl, hd⟩
    have hA := (h.set_count (wrap64 (m.count + 1))).drawn hd
    have hF := ((Fr.refl w mb cb).set ⟨mb, 1, none⟩ (Or.inl rfl) (.int .i64 (wrap64 (m.count + 1)))).drawn hd
    have a0 := hA.cells_
    have a1 := hA.v_ hi
    have a2 := hA.gen_ hi
    have e3 : ({ m with count := wrap64 (m.count + 1) } : M).at i = m.at i := rfl
    rw [e3, HV.out] at a1
    rw [e3] at a2
    clear hd e3
    have g1 : decide ((i : Int) < 0) = false := decide_eq_false (by omega)
    have g2 : decide (m.cells.length ≤ i) = false := decide_eq_false (by omega)
    have g4 : i < m.cells.length := hi
    have hnil := fun W => run_eql_held_nil (P := Try.prog) W 20 T u (by kernel_rfl)
    go_wp2_with fail
    go_quiet ((go_at_call 132; exact gen_quiet x _ HG.out _ _))
    go_wp2
    go_ret2
    exact ⟨rfl, hA.drewN _, hF.drewN _⟩
  · cases hf
set_option maxHeartbeats 800000 in
theorem cell_none (h : At w mb cb m) (x : Int) (c1 : hr x = false) : Calls Try.prog 121 #[ptr mb, .int .i64 x] w fun e w' => e = .returned (.tuple #[.pointer none, .int .i64 5]) ∧ At w' mb cb m.gone ∧ Fr w w' mb cb := by
  have hp := place_eq x
  rw [if_neg (by simp [c1])] at hp
  have hg := gen_eq x
  rw [if_neg (by simp [c1])] at hg
  have HP := Lib.hid hp
  have HG := Lib.hid hg
  clear hp hg c1
  have h1 := h.count_
  have z1 := h.fz 1
  go_enter Try.func121, Try.ntmps121
  go_wp2_with fail
  refine (tag_Place.calls x _ _ HP.out).mono ?_
  rintro e w1 ⟨rfl, hd⟩
  have hA := (h.set_count (wrap64 (m.count + 1))).drawn hd
  have hF := ((Fr.refl w mb cb).set ⟨mb, 1, none⟩ (Or.inl rfl) (.int .i64 (wrap64 (m.count + 1)))).drawn hd
  have a0 := hA.cells_
  have g1 : decide ((-1 : Int) < 0) = true := by decide
  clear hd
  go_wp2_with fail
  go_quiet ((go_at_call 132; exact gen_quiet x _ HG.out _ _))
  have hA2 := hA.drewN nq
  have hF2 := hF.drewN nq
  generalize w1.drewN nq = w2 at *
  have b3 := hA2.stale_
  have y3 := hA2.fz 3
  go_wp2
  go_ret2
  exact ⟨rfl, hA2.set_stale _, hF2.set _ (Or.inl rfl) _⟩
set_option maxHeartbeats 800000 in
theorem cell_out (h : At w mb cb m) (x : Int) (i : Nat) (c1 : hr x = true) (ei : x % 65536 - 1 = (i : Int)) (hi : m.cells.length ≤ i) : Calls Try.prog 121 #[ptr mb, .int .i64 x] w fun e w' => e = .returned (.tuple #[.pointer none, .int .i64 5]) ∧ At w' mb cb m.gone ∧ Fr w w' mb cb := by
  have hp := place_eq x
  rw [if_pos c1, ei] at hp
  have hg := gen_eq x
  rw [if_pos c1] at hg
  have HP := Lib.hid hp
  have HG := Lib.hid hg
  clear hp hg c1 ei
  have h1 := h.count_
  have z1 := h.fz 1
  go_enter Try.func121, Try.ntmps121
  go_wp2_with fail
  refine (tag_Place.calls x _ _ HP.out).mono ?_
  rintro e w1 ⟨rfl, hd⟩
  have hA := (h.set_count (wrap64 (m.count + 1))).drawn hd
  have hF := ((Fr.refl w mb cb).set ⟨mb, 1, none⟩ (Or.inl rfl) (.int .i64 (wrap64 (m.count + 1)))).drawn hd
  have a0 := hA.cells_
  have g1 : decide ((i : Int) < 0) = false := decide_eq_false (by omega)
  have g2 : decide (m.cells.length ≤ i) = true := decide_eq_true hi
  clear hd
  go_wp2_with fail
  go_quiet ((go_at_call 132; exact gen_quiet x _ HG.out _ _))
  have hA2 := hA.drewN nq
  have hF2 := hF.drewN nq
  generalize w1.drewN nq = w2 at *
  have b3 := hA2.stale_
  have y3 := hA2.fz 3
  go_wp2
  go_ret2
  exact ⟨rfl, hA2.set_stale _, hF2.set _ (Or.inl rfl) _⟩
set_option maxHeartbeats 800000 in
theorem cell_free (h : At w mb cb m) (x : Int) (i : Nat) (c1 : hr x = true) (ei : x % 65536 - 1 = (i : Int)) (hi : i < m.cells.length) (hv : (m.at i).v = .nilIface) : Calls Try.prog 121 #[ptr mb, .int .i64 x] w fun e w' => e = .returned (.tuple #[.pointer none, .int .i64 5]) ∧ At w' mb cb m.gone ∧ Fr w w' mb cb := by
  have hp := place_eq x
  rw [if_pos c1, ei] at hp
  have hg := gen_eq x
  rw [if_pos c1] at hg
  have HP := Lib.hid hp
  have HG := Lib.hid hg
  have HV := Lib.hid hv
  clear hp hg c1 ei hv
  have h1 := h.count_
  have z1 := h.fz 1
  go_enter Try.func121, Try.ntmps121
  go_wp2_with fail
  refine (tag_Place.calls x _ _ HP.out).mono ?_
  rintro e w1 ⟨rfl, hd⟩
  have hA := (h.set_count (wrap64 (m.count + 1))).drawn hd
  have hF := ((Fr.refl w mb cb).set ⟨mb, 1, none⟩ (Or.inl rfl) (.int .i64 (wrap64 (m.count + 1)))).drawn hd
  have a0 := hA.cells_
  have a1 := hA.v_ hi
  have e3 : ({ m with count := wrap64 (m.count + 1) } : M).at i = m.at i := rfl
  rw [e3, HV.out] at a1
  clear e3
  have g1 : decide ((i : Int) < 0) = false := decide_eq_false (by omega)
  have g2 : decide (m.cells.length ≤ i) = false := decide_eq_false (by omega)
  have hnil := fun W => run_eql_nil_nil (P := Try.prog) W 20 (by kernel_rfl)
  clear hd
  go_wp2_with fail
  go_quiet ((go_at_call 132; exact gen_quiet x _ HG.out _ _))
  have hA2 := hA.drewN nq
  have hF2 := hF.drewN nq
  generalize w1.drewN nq = w2 at *
  have b3 := hA2.stale_
  have y3 := hA2.fz 3
  go_wp2
  go_ret2
  exact ⟨rfl, hA2.set_stale _, hF2.set _ (Or.inl rfl) _⟩
set_option maxHeartbeats 800000 in
theorem cell_gen (h : At w mb cb m) (x : Int) (i : Nat) (c1 : hr x = true) (ei : x % 65536 - 1 = (i : Int)) (hi : i < m.cells.length) (T : TypeId) (u : Value) (hv : (m.at i).v = .iface T u) (hgn : (m.at i).gen ≠ x / 65536) : Calls Try.prog 121 #[ptr mb, .int .i64 x] w fun e w' => e = .returned (.tuple #[.pointer none, .int .i64 5]) ∧ At w' mb cb m.gone ∧ Fr w w' mb cb := by
  have hp := place_eq x
  rw [if_pos c1, ei] at hp
  have hg := gen_eq x
  rw [if_pos c1] at hg
  obtain ⟨g, eg⟩ : ∃ g, x / 65536 = g := ⟨_, rfl⟩
  rw [eg] at hg hgn
  have HP := Lib.hid hp
  have HG := Lib.hid hg
  have HV := Lib.hid hv
  clear hp hg c1 ei hv eg
  have h1 := h.count_
  have z1 := h.fz 1
  go_enter Try.func121, Try.ntmps121
  go_wp2_with fail
  refine (tag_Place.calls x _ _ HP.out).mono ?_
  rintro e w1 ⟨rfl, hd⟩
  have hA := (h.set_count (wrap64 (m.count + 1))).drawn hd
  have hF := ((Fr.refl w mb cb).set ⟨mb, 1, none⟩ (Or.inl rfl) (.int .i64 (wrap64 (m.count + 1)))).drawn hd
  have a0 := hA.cells_
  have a1 := hA.v_ hi
  have a2 := hA.gen_ hi
  have e3 : ({ m with count := wrap64 (m.count + 1) } : M).at i = m.at i := rfl
  rw [e3, HV.out] at a1
  rw [e3] at a2
  clear e3
  generalize (m.at i).gen = gg at *
  have g1 : decide ((i : Int) < 0) = false := decide_eq_false (by omega)
  have g2 : decide (m.cells.length ≤ i) = false := decide_eq_false (by omega)
  have g3 : (gg != g) = true := bne_iff_ne.2 hgn
  have hnil := fun W => run_eql_held_nil (P := Try.prog) W 20 T u (by kernel_rfl)
  clear hd
  go_wp2_with fail
  go_quiet ((go_at_call 132; exact gen_quiet x _ HG.out _ _))
  have hA2 := hA.drewN nq
  have hF2 := hF.drewN nq
  generalize w1.drewN nq = w2 at *
  have b3 := hA2.stale_
  have y3 := hA2.fz 3
  go_wp2
  go_ret2
  exact ⟨rfl, hA2.set_stale _, hF2.set _ (Or.inl rfl) _⟩
theorem cell_miss (h : At w mb cb m) (x : Int) (hf : m.find x = none) : Calls Try.prog 121 #[ptr mb, .int .i64 x] w fun e w' => e = .returned (.tuple #[.pointer none, .int .i64 5]) ∧ At w' mb cb m.gone ∧ Fr w w' mb cb := by
  by_cases c1 : hr x = true
  · have hb := (hr_iff x).1 c1
    obtain ⟨i, ei⟩ : ∃ i : Nat, x % 65536 - 1 = (i : Int) := ⟨(x % 65536 - 1).toNat, by omega⟩
    by_cases hi : i < m.cells.length
    · by_cases hv : (m.at i).free = true
      · exact cell_free h x i c1 ei hi (nil_of hv (h.okv i))
      · have hv' : (m.at i).free = false := by simpa using hv
        obtain ⟨T, u, e⟩ := held_of hv' (h.okv i)
        refine cell_gen h x i c1 ei hi T u e (fun hg => ?_)
        unfold M.find at hf
        rw [if_pos ⟨c1, by omega, by rw [ei]; exact hv', by rw [ei]; exact hg⟩] at hf
        cases hf
    · exact cell_out h x i c1 ei (by omega)
  · exact cell_none h x (by simpa using c1)
end
end Go.Proofs.Ytahnmklofgnagaa.Mem
