-- written by a program of this session (the print, turned)
import Derived.Test.YtoaacdjcjicemaaPRevChangesx0
import Derived.Test.YtoaacdjcjicemaaPRevChangesx2
namespace Go.Proofs.Ytoaacdjcjicemaa.PRevChanges
open Go.RowKit Go.Proofs.YtoaacdjcjicemaaW.PrintWords Go.Proofs.YtoaacdjcjicemaaW.PrintLast Go.Proofs.YtoaacdjcjicemaaW.PrintMore
attribute [local go_sem] cell_self cell_there leq_str geq_str gtr_str max2_str max2_int min2_int max_two min_two max_three min_three max_four min_four   -- for this text's walks alone
set_option linter.unusedVariables false
set_option linter.unusedSimpArgs false

/-! ### probe_Size: function 91 -/
def probe_Size.l0 : Nat → Int → Int → Option (Int)
  | 0, _, _ => none
  | k + 1, x0, x3 => if (wrap64 (Int.tdiv x3 2)) < x0 then (probe_Size.l0 k x0 (wrap64 (x3 * 2))) else (some x3)
def probe_Size.f (k : Nat) (a0 : Int) : Option (Int) := probe_Size.l0 k a0 2
theorem probe_Size.mono_l : ∀ k, (∀ y0 y1, LeO (probe_Size.l0 k y0 y1) (probe_Size.l0 (k + 1) y0 y1))
  | 0 => fun _ _ r h => by simp [probe_Size.l0] at h
  | k + 1 => by
    have ih0 := probe_Size.mono_l k
    · intro y0 y1
      unfold probe_Size.l0
      repeat' first
      | (with_reducible exact ih0 _ _)
      | (with_reducible exact LeO.refl _)
      | (with_reducible exact LeO.none _)
      | (with_reducible refine LeO.ite ?_ ?_)
      | (with_reducible refine LeO.bind ?_ (fun _ => ?_))
      | exact ih0 _ _
      | exact LeO.none _
      | refine LeO.ite ?_ ?_
      | refine LeO.bind ?_ (fun _ => ?_)
theorem probe_Size.mono : ∀ a0 k, LeO (probe_Size.f k a0) (probe_Size.f (k + 1) a0) := by
  intro a0 k
  have ih0 := probe_Size.mono_l k
  unfold probe_Size.f
  repeat' first
      | (with_reducible exact ih0 _ _)
      | (with_reducible exact LeO.refl _)
      | (with_reducible exact LeO.none _)
      | (with_reducible refine LeO.ite ?_ ?_)
      | (with_reducible refine LeO.bind ?_ (fun _ => ?_))
      | exact ih0 _ _
      | exact LeO.none _
      | refine LeO.ite ?_ ?_
      | refine LeO.bind ?_ (fun _ => ?_)
set_option maxHeartbeats 8000000 in
set_option maxRecDepth 100000 in
theorem probe_Size.calls (k : Nat) (a0 : Int) (r : Int) (w : World) (h : probe_Size.f k a0 = some r) :
    Calls Try.prog 91 #[.int .i64 a0] w fun e w' => e = .returned (.int .i64 r) ∧ Drawn0 w w' := by
  have H : (probe_Size.l0 k a0 2) = some r := h
  clear h
  have H' := Aside0.mk H
  clear H
  go_enter Try.func91, Try.ntmps91
  go_wp2
  go_loopg [3] k (fun kq v3 w' => ∃ (x3_1 : Int), v3 = .int .i64 x3_1 ∧ Aside0 (probe_Size.l0 kq a0 x3_1 = some r) ∧ Aside0 (kq ≤ k) ∧ Drawn0 w w')
  case atStart => exact ⟨(2), (by first | rfl | (simp; done) | (simp [*]; done)), H', ⟨Nat.le_refl _⟩, by repeat (first | exact Drawn0.refl _ | apply Drawn0.step)⟩
  case round =>
    clear H'
    obtain ⟨x3_1, rfl, HA, HK1, ⟨m1, rfl⟩⟩ := hrel
    cases gk with
    | zero => exact absurd HA.out (by simp [probe_Size.l0])
    | succ k1 =>
      have H := HA.out
      clear HA
      simp only [probe_Size.l0] at H
      by_cases c2 : (wrap64 (Int.tdiv x3_1 2)) < a0
      · rw [if_pos c2] at H
        have c2b0 : decide ((wrap64 (Int.tdiv x3_1 2)) < a0) = true := decide_eq_true c2
        clear c2
        have H' := Aside0.mk H
        clear H
        go_wp2
        go_roundg k1
        case measure => have := HK1.out; omega
        case rel => exact ⟨(wrap64 (x3_1 * 2)), (by first | rfl | (simp; done) | (simp [*]; done)), H', ⟨by have := HK1.out; omega⟩, by repeat (first | exact Drawn0.refl _ | apply Drawn0.step)⟩
      · rw [if_neg c2] at H
        have c2b0 : decide ((wrap64 (Int.tdiv x3_1 2)) < a0) = false := decide_eq_false c2
        clear c2
        obtain rfl := Option.some.inj H
        go_wp2
        go_ret
        exact ⟨by first | rfl | (simp; done) | (simp [*]; done), by repeat (first | exact Drawn0.refl _ | apply Drawn0.step)⟩
/-! ### hash_End: function 105 -/
def hash_End.f (a0 : Int) : Option (Int) := some (((Go.bits .xor .u32 ((a0 + ((a0 * 8) % 4294967296)) % 4294967296) (((a0 + ((a0 * 8) % 4294967296)) % 4294967296) / 2048)) + (((Go.bits .xor .u32 ((a0 + ((a0 * 8) % 4294967296)) % 4294967296) (((a0 + ((a0 * 8) % 4294967296)) % 4294967296) / 2048)) * 32768) % 4294967296)) % 4294967296)
set_option maxHeartbeats 8000000 in
set_option maxRecDepth 100000 in
theorem hash_End.calls (a0 : Int) (r : Int) (w : World) (h : hash_End.f a0 = some r) :
    Calls Try.prog 105 #[.int .u32 a0] w fun e w' => e = .returned (.int .u32 r) ∧ Drawn0 w w' := by
  have H : (some (((Go.bits .xor .u32 ((a0 + ((a0 * 8) % 4294967296)) % 4294967296) (((a0 + ((a0 * 8) % 4294967296)) % 4294967296) / 2048)) + (((Go.bits .xor .u32 ((a0 + ((a0 * 8) % 4294967296)) % 4294967296) (((a0 + ((a0 * 8) % 4294967296)) % 4294967296) / 2048)) * 32768) % 4294967296)) % 4294967296)) = some r := h
  clear h
  obtain rfl := Option.some.inj H
  go_enter Try.func105, Try.ntmps105
  go_wp2
  go_ret
  exact ⟨by first | rfl | (simp; done) | (simp [*]; done), by repeat (first | exact Drawn0.refl _ | apply Drawn0.step)⟩
/-! ### hash_Add: function 106 -/
def hash_Add.l0 : Nat → Int → ByteArray → Int → Int → Option (Int)
  | 0, _, _, _, _ => none
  | k + 1, x0, x1, x7, x8 => if x8 < x7 then (if 0 ≤ x8 then (if x8 < (x1.size : Int) then (hash_Add.l0 k (Go.bits .xor .u32 ((((x0 + ((bt x1 x8) % 4294967296)) % 4294967296) + ((((x0 + ((bt x1 x8) % 4294967296)) % 4294967296) * 1024) % 4294967296)) % 4294967296) (((((x0 + ((bt x1 x8) % 4294967296)) % 4294967296) + ((((x0 + ((bt x1 x8) % 4294967296)) % 4294967296) * 1024) % 4294967296)) % 4294967296) / 64)) x1 x7 (wrap64 (x8 + 1))) else (none)) else (none)) else (some x0)
def hash_Add.f (k : Nat) (a0 : Int) (a1 : ByteArray) : Option (Int) := hash_Add.l0 k a0 a1 (a1.size : Int) 0
theorem hash_Add.mono_l : ∀ k, (∀ y0 y1 y2 y3, LeO (hash_Add.l0 k y0 y1 y2 y3) (hash_Add.l0 (k + 1) y0 y1 y2 y3))
  | 0 => fun _ _ _ _ r h => by simp [hash_Add.l0] at h
  | k + 1 => by
    have ih0 := hash_Add.mono_l k
    · intro y0 y1 y2 y3
      unfold hash_Add.l0
      repeat' first
      | (with_reducible exact ih0 _ _ _ _)
      | (with_reducible exact LeO.refl _)
      | (with_reducible exact LeO.none _)
      | (with_reducible refine LeO.ite ?_ ?_)
      | (with_reducible refine LeO.bind ?_ (fun _ => ?_))
      | exact ih0 _ _ _ _
      | exact LeO.none _
      | refine LeO.ite ?_ ?_
      | refine LeO.bind ?_ (fun _ => ?_)
theorem hash_Add.mono : ∀ a0 a1 k, LeO (hash_Add.f k a0 a1) (hash_Add.f (k + 1) a0 a1) := by
  intro a0 a1 k
  have ih0 := hash_Add.mono_l k
  unfold hash_Add.f
  repeat' first
      | (with_reducible exact ih0 _ _ _ _)
      | (with_reducible exact LeO.refl _)
      | (with_reducible exact LeO.none _)
      | (with_reducible refine LeO.ite ?_ ?_)
      | (with_reducible refine LeO.bind ?_ (fun _ => ?_))
      | exact ih0 _ _ _ _
      | exact LeO.none _
      | refine LeO.ite ?_ ?_
      | refine LeO.bind ?_ (fun _ => ?_)
set_option maxHeartbeats 8000000 in
set_option maxRecDepth 100000 in
theorem hash_Add.calls (k : Nat) (a0 : Int) (a1 : ByteArray) (r : Int) (w : World) (h : hash_Add.f k a0 a1 = some r) :
    Calls Try.prog 106 #[.int .u32 a0, .string a1] w fun e w' => e = .returned (.int .u32 r) ∧ Drawn0 w w' := by
  have H : (hash_Add.l0 k a0 a1 (a1.size : Int) 0) = some r := h
  clear h
  have H' := Aside0.mk H
  clear H
  go_enter Try.func106, Try.ntmps106
  go_wp2
  go_loopg [0, 8] k (fun kq v0 v8 w' => ∃ (x0_1 : Int) (x8_1 : Int), v0 = .int .u32 x0_1 ∧ v8 = .int .i64 x8_1 ∧ Aside0 (hash_Add.l0 kq x0_1 a1 (a1.size : Int) x8_1 = some r) ∧ Aside0 (kq ≤ k) ∧ Drawn0 w w')
  case atStart => exact ⟨(a0), (0), (by first | rfl | (simp; done) | (simp [*]; done)), (by first | rfl | (simp; done) | (simp [*]; done)), H', ⟨Nat.le_refl _⟩, by repeat (first | exact Drawn0.refl _ | apply Drawn0.step)⟩
  case round =>
    clear H'
    try clear c1
    try clear p2
    obtain ⟨x0_1, x8_1, rfl, rfl, HA, HK1, ⟨m1, rfl⟩⟩ := hrel
    cases gk with
    | zero => exact absurd HA.out (by simp [hash_Add.l0])
    | succ k1 =>
      have H := HA.out
      clear HA
      simp only [hash_Add.l0] at H
      by_cases c3 : x8_1 < (a1.size : Int)
      · rw [if_pos c3] at H
        have c3b0 : decide (x8_1 < (a1.size : Int)) = true := decide_eq_true c3
        clear c3
        by_cases c4 : 0 ≤ x8_1
        · rw [if_pos c4] at H
          have c4b0 : decide (0 ≤ x8_1) = true := decide_eq_true c4
          clear c4
          by_cases c5 : x8_1 < (a1.size : Int)
          · rw [if_pos c5] at H
            have c5b0 : decide (x8_1 < (a1.size : Int)) = true := decide_eq_true c5
            clear c5
            have H' := Aside0.mk H
            clear H
            have p6 : 0 ≤ (x8_1 : Int) := of_decide_eq_true (by first | (with_reducible assumption) | assumption)
            have q6 : x8_1 < (a1.size : Int) := of_decide_eq_true (by first | (with_reducible assumption) | assumption)
            have hx6 := bt_at a1 x8_1
            replace p6 := eq_true p6
            replace q6 := eq_true q6
            go_wp2
            go_roundg k1
            case measure => have := HK1.out; omega
            case rel => exact ⟨(Go.bits .xor .u32 ((((x0_1 + ((bt a1 x8_1) % 4294967296)) % 4294967296) + ((((x0_1 + ((bt a1 x8_1) % 4294967296)) % 4294967296) * 1024) % 4294967296)) % 4294967296) (((((x0_1 + ((bt a1 x8_1) % 4294967296)) % 4294967296) + ((((x0_1 + ((bt a1 x8_1) % 4294967296)) % 4294967296) * 1024) % 4294967296)) % 4294967296) / 64)), (wrap64 (x8_1 + 1)), (by first | rfl | (simp; done) | (simp [*]; done)), (by first | rfl | (simp; done) | (simp [*]; done)), H', ⟨by have := HK1.out; omega⟩, by repeat (first | exact Drawn0.refl _ | apply Drawn0.step)⟩
          · rw [if_neg c5] at H
            exact absurd H (by simp)
        · rw [if_neg c4] at H
          exact absurd H (by simp)
      · rw [if_neg c3] at H
        have c3b0 : decide (x8_1 < (a1.size : Int)) = false := decide_eq_false c3
        clear c3
        obtain rfl := Option.some.inj H
        go_wp2
        go_ret
        exact ⟨by first | rfl | (simp; done) | (simp [*]; done), by repeat (first | exact Drawn0.refl _ | apply Drawn0.step)⟩
/-! ### hash_Of: function 102 -/
def hash_Of.f (k : Nat) (a0 : ByteArray) : Option (Int) := (hash_Add.f k 0 a0).bind fun t108 => ((hash_End.f t108).bind fun t109 => (some t109))
theorem hash_Of.mono : ∀ a0 k, LeO (hash_Of.f k a0) (hash_Of.f (k + 1) a0) := by
  intro a0 k
  unfold hash_Of.f
  repeat' first
      | (with_reducible exact hash_Add.mono _ _ _)
      | (with_reducible exact LeO.refl _)
      | (with_reducible exact LeO.none _)
      | (with_reducible refine LeO.ite ?_ ?_)
      | (with_reducible refine LeO.bind ?_ (fun _ => ?_))
      | exact hash_Add.mono _ _ _
      | exact LeO.none _
      | refine LeO.ite ?_ ?_
      | refine LeO.bind ?_ (fun _ => ?_)
set_option maxHeartbeats 8000000 in
set_option maxRecDepth 100000 in
theorem hash_Of.calls (k : Nat) (a0 : ByteArray) (r : Int) (w : World) (h : hash_Of.f k a0 = some r) :
    Calls Try.prog 102 #[.string a0] w fun e w' => e = .returned (.int .u32 r) ∧ Drawn0 w w' := by
  have H : ((hash_Add.f k 0 a0).bind fun t108 => ((hash_End.f t108).bind fun t109 => (some t109))) = some r := h
  clear h
  replace H := Option.bind_eq_some_iff.mp H
  obtain ⟨t108, A20, H⟩ := H
  replace H : ((hash_End.f t108).bind fun t109 => (some t109)) = some r := H
  have A2 := Aside0.mk A20
  clear A20
  replace H := Option.bind_eq_some_iff.mp H
  obtain ⟨t109, A30, H⟩ := H
  replace H : (some t109) = some r := H
  have A3 := Aside0.mk A30
  clear A30
  obtain rfl := Option.some.inj H
  go_enter Try.func102, Try.ntmps102
  go_wp2_with (first | ((with_reducible refine gate_callee (f := 106) rfl ?_); refine goesL_ (some 4) rfl rfl Try.func106 (by kernel_rfl) rfl #[.int .u32 0, .string a0] rfl (by (try simp only [List.map_toArray, List.map_cons, List.map_nil]); first | done | rfl | (simp only [List.length_drop, List.length_take]; rfl)) ?_; (with_reducible refine (hash_Add.calls k 0 a0 t108 _ A2.out).mono ?_); rintro e w' ⟨rfl, ⟨nd, rfl⟩⟩; refine ⟨_, rfl, ?_⟩) | ((with_reducible refine gate_callee (f := 105) rfl ?_); refine goesL_ (some 5) rfl rfl Try.func105 (by kernel_rfl) rfl #[.int .u32 t108] rfl (by (try simp only [List.map_toArray, List.map_cons, List.map_nil]); first | done | rfl | (simp only [List.length_drop, List.length_take]; rfl)) ?_; (with_reducible refine (hash_End.calls t108 t109 _ A3.out).mono ?_); rintro e w' ⟨rfl, ⟨nd, rfl⟩⟩; refine ⟨_, rfl, ?_⟩))
  go_ret
  exact ⟨by first | rfl | (simp; done) | (simp [*]; done), by repeat (first | exact Drawn0.refl _ | apply Drawn0.step)⟩
/-! ### probe_first: function 92 -/
def probe_first.f (k : Nat) (a0 : Int) (a1 : ByteArray) : Option (Int) := (hash_Of.f k a1).bind fun t110 => (some (Go.bits .and .i64 (wrap64 (t110)) (wrap64 (a0 - 1))))
theorem probe_first.mono : ∀ a0 a1 k, LeO (probe_first.f k a0 a1) (probe_first.f (k + 1) a0 a1) := by
  intro a0 a1 k
  unfold probe_first.f
  repeat' first
      | (with_reducible exact hash_Of.mono _ _)
      | (with_reducible exact LeO.refl _)
      | (with_reducible exact LeO.none _)
      | (with_reducible refine LeO.ite ?_ ?_)
      | (with_reducible refine LeO.bind ?_ (fun _ => ?_))
      | exact hash_Of.mono _ _
      | exact LeO.none _
      | refine LeO.ite ?_ ?_
      | refine LeO.bind ?_ (fun _ => ?_)
set_option maxHeartbeats 8000000 in
set_option maxRecDepth 100000 in
theorem probe_first.calls (k : Nat) (a0 : Int) (a1 : ByteArray) (r : Int) (w : World) (h : probe_first.f k a0 a1 = some r) :
    Calls Try.prog 92 #[.int .i64 a0, .string a1] w fun e w' => e = .returned (.int .i64 r) ∧ Drawn0 w w' := by
  have H : ((hash_Of.f k a1).bind fun t110 => (some (Go.bits .and .i64 (wrap64 (t110)) (wrap64 (a0 - 1))))) = some r := h
  clear h
  replace H := Option.bind_eq_some_iff.mp H
  obtain ⟨t110, A30, H⟩ := H
  replace H : (some (Go.bits .and .i64 (wrap64 (t110)) (wrap64 (a0 - 1)))) = some r := H
  have A3 := Aside0.mk A30
  clear A30
  obtain rfl := Option.some.inj H
  go_enter Try.func92, Try.ntmps92
  go_wp2_with (first | ((with_reducible refine gate_callee (f := 102) rfl ?_); refine goesL_ (some 6) rfl rfl Try.func102 (by kernel_rfl) rfl #[.string a1] rfl (by (try simp only [List.map_toArray, List.map_cons, List.map_nil]); first | done | rfl | (simp only [List.length_drop, List.length_take]; rfl)) ?_; (with_reducible refine (hash_Of.calls k a1 t110 _ A3.out).mono ?_); rintro e w' ⟨rfl, ⟨nd, rfl⟩⟩; refine ⟨_, rfl, ?_⟩))
  go_ret
  exact ⟨by first | rfl | (simp; done) | (simp [*]; done), by repeat (first | exact Drawn0.refl _ | apply Drawn0.step)⟩
/-! ### probe_Build: function 85 -/
mutual
def probe_Build.l0 : Nat → List Int → List ByteArray → Int → Int → Option (List Int)
  | 0, _, _, _, _ => none
  | k + 1, x3, x11, x12, x13 => if x13 < x12 then (if 0 ≤ x13 then (if x13 < (x11.length : Int) then ((probe_first.f k (x3.length : Int) (rdOf ByteArray.empty x11 x13)).bind fun t116 => (probe_Build.l1 k x3 x13 t116 x11 x12 x13)) else (none)) else (none)) else (some x3)
def probe_Build.l1 : Nat → List Int → Int → Int → List ByteArray → Int → Int → Option (List Int)
  | 0, _, _, _, _, _, _ => none
  | k + 1, x3, x4, x6, x11, x12, x13 => if 0 ≤ x6 then (if x6 < (x3.length : Int) then (if (rd x3 x6) = 0 then (probe_Build.l0 k (x3.set (x6 : Int).toNat (wrap64 (x4 + 1))) x11 x12 (wrap64 (x13 + 1))) else (probe_Build.l1 k x3 x4 (Go.bits .and .i64 (wrap64 (x6 + 1)) (wrap64 ((x3.length : Int) - 1))) x11 x12 x13)) else (none)) else (none)
end
def probe_Build.f (k : Nat) (l0 : List ByteArray) : Option (List Int) := (probe_Size.f k (l0.length : Int)).bind fun t111 => (if 0 ≤ t111 then (if (t111 : Int).toNat ≤ 35184372088832 then (probe_Build.l0 k (List.replicate (t111 : Int).toNat 0) l0 (l0.length : Int) 0) else (none)) else (none))
theorem probe_Build.mono_l : ∀ k, (∀ y0 y1 y2 y3, LeO (probe_Build.l0 k y0 y1 y2 y3) (probe_Build.l0 (k + 1) y0 y1 y2 y3)) ∧ (∀ y0 y1 y2 y3 y4 y5, LeO (probe_Build.l1 k y0 y1 y2 y3 y4 y5) (probe_Build.l1 (k + 1) y0 y1 y2 y3 y4 y5))
  | 0 => ⟨fun _ _ _ _ r h => by simp [probe_Build.l0] at h, fun _ _ _ _ _ _ r h => by simp [probe_Build.l1] at h⟩
  | k + 1 => by
    obtain ⟨ih0, ih1⟩ := probe_Build.mono_l k
    refine ⟨?_, ?_⟩
    · intro y0 y1 y2 y3
      unfold probe_Build.l0
      repeat' first
      | (with_reducible exact ih0 _ _ _ _)
      | (with_reducible exact ih1 _ _ _ _ _ _)
      | (with_reducible exact probe_Size.mono _ _)
      | (with_reducible exact probe_first.mono _ _ _)
      | (with_reducible exact LeO.refl _)
      | (with_reducible exact LeO.none _)
      | (with_reducible refine LeO.ite ?_ ?_)
      | (with_reducible refine LeO.bind ?_ (fun _ => ?_))
      | exact ih0 _ _ _ _
      | exact ih1 _ _ _ _ _ _
      | exact probe_Size.mono _ _
      | exact probe_first.mono _ _ _
      | exact LeO.none _
      | refine LeO.ite ?_ ?_
      | refine LeO.bind ?_ (fun _ => ?_)
    · intro y0 y1 y2 y3 y4 y5
      unfold probe_Build.l1
      repeat' first
      | (with_reducible exact ih0 _ _ _ _)
      | (with_reducible exact ih1 _ _ _ _ _ _)
      | (with_reducible exact probe_Size.mono _ _)
      | (with_reducible exact probe_first.mono _ _ _)
      | (with_reducible exact LeO.refl _)
      | (with_reducible exact LeO.none _)
      | (with_reducible refine LeO.ite ?_ ?_)
      | (with_reducible refine LeO.bind ?_ (fun _ => ?_))
      | exact ih0 _ _ _ _
      | exact ih1 _ _ _ _ _ _
      | exact probe_Size.mono _ _
      | exact probe_first.mono _ _ _
      | exact LeO.none _
      | refine LeO.ite ?_ ?_
      | refine LeO.bind ?_ (fun _ => ?_)
theorem probe_Build.mono : ∀ a0 k, LeO (probe_Build.f k a0) (probe_Build.f (k + 1) a0) := by
  intro a0 k
  obtain ⟨ih0, ih1⟩ := probe_Build.mono_l k
  unfold probe_Build.f
  repeat' first
      | (with_reducible exact ih0 _ _ _ _)
      | (with_reducible exact ih1 _ _ _ _ _ _)
      | (with_reducible exact probe_Size.mono _ _)
      | (with_reducible exact probe_first.mono _ _ _)
      | (with_reducible exact LeO.refl _)
      | (with_reducible exact LeO.none _)
      | (with_reducible refine LeO.ite ?_ ?_)
      | (with_reducible refine LeO.bind ?_ (fun _ => ?_))
      | exact ih0 _ _ _ _
      | exact ih1 _ _ _ _ _ _
      | exact probe_Size.mono _ _
      | exact probe_first.mono _ _ _
      | exact LeO.none _
      | refine LeO.ite ?_ ?_
      | refine LeO.bind ?_ (fun _ => ?_)
set_option maxHeartbeats 8000000 in
set_option maxRecDepth 100000 in
theorem probe_Build.calls (k : Nat) (A0 : Option Addr) (c0 : Nat) (l0 : List ByteArray) (r : List Int) (w : World) (hr0 : Kd.C Kd.string w A0 l0.length l0) (hc0 : l0.length ≤ c0) (h : probe_Build.f k l0 = some r) :
    Calls Try.prog 85 #[.slice A0 l0.length c0] w fun e w' => ∃ v0_ : Value, e = .returned (v0_) ∧ Kd.R (Kd.int .i64) 3 w' w.heap.size (fun _ => True) v0_ r ∧ Below w.heap.size w w' := by
  have HR0 := Aside0.mk hr0
  have HC0 := Aside0.mk hc0
  clear hr0 hc0
  have HB := Aside0.mk (Below.refl w.heap.size w)
  have H : ((probe_Size.f k (l0.length : Int)).bind fun t111 => (if 0 ≤ t111 then (if (t111 : Int).toNat ≤ 35184372088832 then (probe_Build.l0 k (List.replicate (t111 : Int).toNat 0) l0 (l0.length : Int) 0) else (none)) else (none))) = some r := h
  clear h
  replace H := Option.bind_eq_some_iff.mp H
  obtain ⟨t111, A20, H⟩ := H
  replace H : (if 0 ≤ t111 then (if (t111 : Int).toNat ≤ 35184372088832 then (probe_Build.l0 k (List.replicate (t111 : Int).toNat 0) l0 (l0.length : Int) 0) else (none)) else (none)) = some r := H
  have A2 := Aside0.mk A20
  clear A20
  by_cases c3 : 0 ≤ t111
  · rw [if_pos c3] at H
    have c3b0 := eq_true c3
    have c3b1 : decide (0 ≤ t111) = true := decide_eq_true c3
    clear c3
    by_cases c4 : (t111 : Int).toNat ≤ 35184372088832
    · rw [if_pos c4] at H
      have c4b0 := eq_true c4
      have c4b1 : decide ((t111 : Int).toNat ≤ 35184372088832) = true := decide_eq_true c4
      clear c4
      obtain ⟨y112, hy112⟩ : ∃ y_ : List Int, y_ = (List.replicate (t111 : Int).toNat 0) := ⟨_, rfl⟩
      replace H : (probe_Build.l0 k y112 l0 (l0.length : Int) 0) = some r := by first | (rw [hy112]; with_reducible exact H) | (have H2_ := (Option.bind_some _ _).symm.trans H; rw [hy112]; with_reducible exact H2_) | (have H2_ := (Option.bind_some _ _).symm.trans H; with_reducible exact H2_) | with_reducible exact H | (rw [hy112]; exact H) | exact H
      have Ny112 := Aside0.mk hy112
      clear hy112
      have H' := Aside0.mk H
      clear H
      go_enter Try.func85, Try.ntmps85
      go_wp2_with (first | ((with_reducible refine gate_callee (f := 91) rfl ?_); refine goesL_ (some 9) rfl rfl Try.func91 (by kernel_rfl) rfl #[.int .i64 (l0.length : Int)] rfl (by (try simp only [List.map_toArray, List.map_cons, List.map_nil]); first | done | rfl | (simp only [List.length_drop, List.length_take]; rfl)) ?_; (with_reducible refine (probe_Size.calls k (l0.length : Int) t111 _ A2.out).mono ?_); rintro e w' ⟨rfl, ⟨nd, rfl⟩⟩; refine ⟨_, rfl, ?_⟩) | ((with_reducible refine gate_dst (N := 10) rfl ?_); refine Kd.R_make (Kd.int .i64) _ 3 rfl (N := 10) rfl 35 _ _ rfl t111 rfl rfl Try.underlying35 (.int .i64 0) 8 info3 rfl (by decide) (by omega) 0 (ok := fun _ => True) (okp := fun _ => True) rfl (fun _ hk => hk) trivial (of_decide_eq_true (by first | (with_reducible assumption) | assumption)) (Nat.le_trans (Nat.mul_le_mul_right _ (of_decide_eq_true (by first | (with_reducible assumption) | assumption) : t111.toNat ≤ 35184372088832)) (by omega)) (Below.refl _ _) (Nat.le_refl _) ?_; intro v113 w5 ho6 hb hg_ hnew_; clear hg_ hnew_; (first | rw [← Ny112.out] at ho6 | (simp only [Int.reduceToNat] at ho6; rw [← Ny112.out] at ho6)); have n0_ := Aside0.mk (Kd.R_lower ho6 (below_size (by repeat (first | (with_reducible first | exact HB.out | apply below_alloc | apply pw_below_drewN | apply below_drew1) | exact HB.out)))); have n1_ := Aside0.mk (below_step (by repeat (first | (with_reducible first | exact HB.out | apply below_alloc | apply pw_below_drewN | apply below_drew1) | exact HB.out)) hb); clear HB; have HO114 := n0_; have HB := n1_; clear n0_ n1_; clear hb ho6))
      go_loopg [13] k (fun kq v13 w' => ∃ (x3_1 : List Int) (x13_1 : Int), v13 = .int .i64 x13_1 ∧ Aside0 (probe_Build.l0 kq x3_1 l0 (l0.length : Int) x13_1 = some r) ∧ Aside0 (kq ≤ k) ∧ Aside0 (Kd.R (Kd.int .i64) 3 w' w.heap.size (fun _ => True) v113 x3_1) ∧ Aside0 (Below w.heap.size w w'))
      case atStart => exact ⟨(y112), (0), (by first | rfl | (simp; done) | (simp [*]; done)), H', ⟨Nat.le_refl _⟩, ⟨by (with_reducible repeat (first | apply Kd.R_alloc | apply Kd.R_drewN | apply Kd.R_drew)); exact HO114.out⟩, ⟨by repeat (first | (with_reducible first | exact HB.out | apply below_alloc | apply pw_below_drewN | apply below_drew1) | exact HB.out)⟩⟩
      case round =>
        clear H'
        try clear p2
        try clear c3
        try clear c3b0
        try clear c3b1
        try clear c4
        try clear c4b0
        try clear c4b1
        obtain ⟨x3_1, x13_1, rfl, HA, HK1, HO_3, HB⟩ := hrel
        cases gk with
        | zero => exact absurd HA.out (by simp [probe_Build.l0])
        | succ k1 =>
          have H := HA.out
          clear HA
          simp only [probe_Build.l0] at H
          by_cases c7 : x13_1 < (l0.length : Int)
          · rw [if_pos c7] at H
            have c7b0 : decide (x13_1 < (l0.length : Int)) = true := decide_eq_true c7
            clear c7
            by_cases c8 : 0 ≤ x13_1
            · rw [if_pos c8] at H
              have c8b0 : decide (0 ≤ x13_1) = true := decide_eq_true c8
              clear c8
              by_cases c9 : x13_1 < (l0.length : Int)
              · rw [if_pos c9] at H
                have c9b0 : decide (x13_1 < (l0.length : Int)) = true := decide_eq_true c9
                clear c9
                replace H := Option.bind_eq_some_iff.mp H
                obtain ⟨t116, A100, H⟩ := H
                replace H : (probe_Build.l1 k1 x3_1 x13_1 t116 l0 (l0.length : Int) x13_1) = some r := H
                have A10 := Aside0.mk A100
                clear A100
                have H' := Aside0.mk H
                clear H
                have p115 : 0 ≤ (x13_1 : Int) := of_decide_eq_true (by first | (with_reducible assumption) | assumption)
                have q115 : x13_1 < (l0.length : Int) := of_decide_eq_true (by first | (with_reducible assumption) | assumption)
                obtain ⟨ad115, e115, hx115_0⟩ := Kd.at_string HR0.out x13_1 p115 q115
                cases e115
                replace hx115_0 := (HB.out.cell (World.block_lt_of_cell? w _ hx115_0)).trans hx115_0
                replace p115 := eq_true p115
                replace q115 := eq_true q115
                obtain ⟨Ao11, co11, eo11⟩ := Kd.R_slice HO_3.out
                subst eo11
                go_wp2_with (first | ((with_reducible refine gate_callee (f := 92) rfl ?_); refine goesL_ (some 21) rfl rfl Try.func92 (by kernel_rfl) rfl #[.int .i64 (x3_1.length : Int), .string (rdOf ByteArray.empty l0 x13_1)] rfl (by (try simp only [List.map_toArray, List.map_cons, List.map_nil]); first | done | rfl | (simp only [List.length_drop, List.length_take]; rfl)) ?_; (with_reducible refine (probe_first.calls k1 (x3_1.length : Int) (rdOf ByteArray.empty l0 x13_1) t116 _ A10.out).mono ?_); rintro e w' ⟨rfl, ⟨nd, rfl⟩⟩; refine ⟨_, rfl, ?_⟩))
                go_loopg [6] k1 (fun kq v6 w' => ∃ (x6_2 : Int), v6 = .int .i64 x6_2 ∧ Aside0 (probe_Build.l1 kq x3_1 x13_1 x6_2 l0 (l0.length : Int) x13_1 = some r) ∧ Aside0 (kq ≤ k1) ∧ Aside0 (Kd.R (Kd.int .i64) 3 w' w.heap.size (fun _ => True) (.slice Ao11 x3_1.length co11) x3_1) ∧ Aside0 (Below w.heap.size w w'))
                case atStart => exact ⟨(t116), (by first | rfl | (simp; done) | (simp [*]; done)), H', ⟨Nat.le_refl _⟩, ⟨by (with_reducible repeat (first | apply Kd.R_alloc | apply Kd.R_drewN | apply Kd.R_drew)); exact HO_3.out⟩, ⟨by repeat (first | (with_reducible first | exact HB.out | apply below_alloc | apply pw_below_drewN | apply below_drew1) | exact HB.out)⟩⟩
                case round =>
                  clear H'
                  try clear p1
                  try clear q1
                  try clear hx1
                  try clear p2
                  try clear c3
                  try clear c3b0
                  try clear c3b1
                  try clear c4
                  try clear c4b0
                  try clear c4b1
                  try clear c7
                  try clear c7b0
                  try clear c8
                  try clear c8b0
                  try clear c9
                  try clear c9b0
                  try clear p11
                  try clear q11
                  try clear hx11
                  try clear hx115_0
                  try clear p115
                  try clear p2
                  try clear q115
                  obtain ⟨x6_2, rfl, HA, HK2, HO_3, HB⟩ := hrel
                  cases gk with
                  | zero => exact absurd HA.out (by simp [probe_Build.l1])
                  | succ k2 =>
                    have H := HA.out
                    clear HA
                    simp only [probe_Build.l1] at H
                    by_cases c12 : 0 ≤ x6_2
                    · rw [if_pos c12] at H
                      have c12b0 : decide (0 ≤ x6_2) = true := decide_eq_true c12
                      clear c12
                      by_cases c13 : x6_2 < (x3_1.length : Int)
                      · rw [if_pos c13] at H
                        have c13b0 : decide (x6_2 < (x3_1.length : Int)) = true := decide_eq_true c13
                        clear c13
                        by_cases c14 : (rd x3_1 x6_2) = 0
                        · rw [if_pos c14] at H
                          have c14b0 : ((rd x3_1 x6_2) == 0) = true := beq_iff_eq.mpr c14
                          have c14b1 : ((rd x3_1 x6_2) != 0) = false := bne_eq_false_iff_eq.mpr c14
                          clear c14
                          obtain ⟨y118, hy118⟩ : ∃ y_ : List Int, y_ = (x3_1.set (x6_2 : Int).toNat (wrap64 (x13_1 + 1))) := ⟨_, rfl⟩
                          replace H : (probe_Build.l0 k2 y118 l0 (l0.length : Int) (wrap64 (x13_1 + 1))) = some r := by first | (rw [hy118]; with_reducible exact H) | (have H2_ := (Option.bind_some _ _).symm.trans H; rw [hy118]; with_reducible exact H2_) | (have H2_ := (Option.bind_some _ _).symm.trans H; with_reducible exact H2_) | with_reducible exact H | (rw [hy118]; exact H) | exact H
                          have Ny118 := Aside0.mk hy118
                          clear hy118
                          have H' := Aside0.mk H
                          clear H
                          have p117 : 0 ≤ (x6_2 : Int) := of_decide_eq_true (by first | (with_reducible assumption) | assumption)
                          have q117 : x6_2 < (x3_1.length : Int) := of_decide_eq_true (by first | (with_reducible assumption) | assumption)
                          obtain ⟨ad117, e117, hx117_0⟩ := Kd.at_int (Kd.R_reads' HO_3.out).2.2 x6_2 p117 q117
                          cases e117
                          replace p117 := eq_true p117
                          replace q117 := eq_true q117
                          have p15 : 0 ≤ (x6_2 : Int) := of_decide_eq_true (by first | (with_reducible assumption) | assumption)
                          have q15 : (x6_2 : Int) < ((x3_1.length : Int) : Int) := of_decide_eq_true (by first | (with_reducible assumption) | assumption)
                          obtain ⟨go15, co15, eo15, gb15, gl15, cl15, HG15⟩ := Kd.R_form HO_3.out (by omega)
                          (first | cases eo15 | (injection eo15 with ea_ en_ ec_; (first | subst ea_ | (injection ea_ with ea_; subst ea_)); subst ec_; clear en_))
                          have GB15 := Aside0.mk gb15
                          have GG15 := Aside0.mk HG15
                          clear gb15 gl15 HG15
                          (first | simp only [add_plain] at hx117_0 | skip)
                          obtain ⟨hx15_0, hf15_0⟩ := Kd.R_celln 0 HO_3.out (x6_2 : Int) p15 q15
                          replace p15 := eq_true p15
                          replace q15 := eq_true q15
                          have HP16 := Kd.R_putg HO_3.out (x6_2 : Int) (wrap64 (x13_1 + 1))
                          go_wp2_with (first | ((with_reducible refine gate_store (t := 3) (p := 37) rfl ?_); refine store_event (t := 3) (p := 37) (v := ?vo_w17) (w1 := (wr.setCell ⟨go15, (x6_2 : Int).toNat, none⟩ (.int .i64 (wrap64 (x13_1 + 1))))) ?hg ?ho ?hn ?hr ?_; (case ho => rfl); (case hg => rfl); (case hn => rfl); (case hr => first | (go_simp; done) | (go_simp; rfl)); intro w17 hw; have hg : wr.grownBy w17 (some go15) := (by rw [hw]; exact HP16.2); have hp_ : Kd.R (Kd.int .i64) 3 w17 w.heap.size (fun _ => True) (.slice (some ⟨go15, 0, none⟩) x3_1.length co11) y118 := (by rw [hw, Ny118.out]; exact HP16.1); clear HP16; have n0_ := Aside0.mk (hp_); have n1_ := Aside0.mk ((by rw [hw]; exact below_set (HB.out) GB15.out : Below w.heap.size w w17)); clear HO_3; clear HB; have HO_3 := n0_; have HB := n1_; clear n0_ n1_; clear hg hw hp_))
                          go_roundg k2
                          case measure => have := HK1.out; have := HK2.out; omega
                          case rel => exact ⟨(y118), (wrap64 (x13_1 + 1)), (by first | rfl | (simp; done) | (simp [*]; done)), H', ⟨by have := HK1.out; have := HK2.out; omega⟩, ⟨by (with_reducible repeat (first | apply Kd.R_alloc | apply Kd.R_drewN | apply Kd.R_drew)); exact HO_3.out⟩, ⟨by repeat (first | (with_reducible first | exact HB.out | apply below_alloc | apply pw_below_drewN | apply below_drew1) | exact HB.out)⟩⟩
                        · rw [if_neg c14] at H
                          have c14b0 : ((rd x3_1 x6_2) == 0) = false := beq_eq_false_iff_ne.mpr c14
                          have c14b1 : ((rd x3_1 x6_2) != 0) = true := bne_iff_ne.mpr c14
                          have H' := Aside0.mk H
                          clear H
                          have p117 : 0 ≤ (x6_2 : Int) := of_decide_eq_true (by first | (with_reducible assumption) | assumption)
                          have q117 : x6_2 < (x3_1.length : Int) := of_decide_eq_true (by first | (with_reducible assumption) | assumption)
                          obtain ⟨ad117, e117, hx117_0⟩ := Kd.at_int (Kd.R_reads' HO_3.out).2.2 x6_2 p117 q117
                          cases e117
                          replace p117 := eq_true p117
                          replace q117 := eq_true q117
                          go_wp2
                          go_roundg k2
                          case measure => have := HK1.out; have := HK2.out; omega
                          case rel => exact ⟨(Go.bits .and .i64 (wrap64 (x6_2 + 1)) (wrap64 ((x3_1.length : Int) - 1))), (by first | rfl | (simp; done) | (simp [*]; done)), H', ⟨by have := HK1.out; have := HK2.out; omega⟩, ⟨by (with_reducible repeat (first | apply Kd.R_alloc | apply Kd.R_drewN | apply Kd.R_drew)); exact HO_3.out⟩, ⟨by repeat (first | (with_reducible first | exact HB.out | apply below_alloc | apply pw_below_drewN | apply below_drew1) | exact HB.out)⟩⟩
                      · rw [if_neg c13] at H
                        exact absurd H (by simp)
                    · rw [if_neg c12] at H
                      exact absurd H (by simp)
              · rw [if_neg c9] at H
                exact absurd H (by simp)
            · rw [if_neg c8] at H
              exact absurd H (by simp)
          · rw [if_neg c7] at H
            have c7b0 : decide (x13_1 < (l0.length : Int)) = false := decide_eq_false c7
            clear c7
            obtain rfl := Option.some.inj H
            go_wp2
            go_ret
            exact ⟨_, by first | rfl | (simp [errW_none, errW_some] <;> rfl) | (simp [*, errW_none, errW_some] <;> rfl), by (with_reducible repeat (first | apply Kd.R_alloc | apply Kd.R_drewN | apply Kd.R_drew)); exact HO_3.out, by repeat (first | (with_reducible first | exact HB.out | apply below_alloc | apply pw_below_drewN | apply below_drew1) | exact HB.out)⟩
    · rw [if_neg c4] at H
      exact absurd H (by simp)
  · rw [if_neg c3] at H
    exact absurd H (by simp)
/-! ### rev_laid: function 55 -/
def rev_laid.l0 : Nat → List (S114) → Int → Int → Int → Int → ByteArray → ByteArray → Bool → Bool → List ByteArray → List ByteArray → List Bool → Option (Int × Int × ByteArray × ByteArray × Bool × Bool × List ByteArray × List ByteArray × List Bool × List Int)
  | 0, _, _, _, _, _, _, _, _, _, _, _, _ => none
  | k + 1, x16, x17, x18, x122000, x122001, x122002, x122003, x122004, x122005, x122006, x122007, x122008 => if x18 < x17 then (if 0 ≤ x18 then (if x18 < (x16.length : Int) then (if x122006.length < 8796093022208 then (if x122007.length < 8796093022208 then (if x122008.length < 140737488355328 then (rev_laid.l0 k x16 x17 (wrap64 (x18 + 1)) x122000 x122001 x122002 x122003 x122004 x122005 (x122006 ++ [(rd_T114 x16 x18).f0]) (x122007 ++ [(rd_T114 x16 x18).f1]) (x122008 ++ [(rd_T114 x16 x18).f2])) else (none)) else (none)) else (none)) else (none)) else (none)) else ((probe_Build.f k x122006).bind fun t129 => (some (x122000, x122001, x122002, x122003, x122004, x122005, x122006, x122007, x122008, t129)))
def rev_laid.f (k : Nat) (a0 : Int) (a1 : Int) (a2_0 : ByteArray) (a2_1 : ByteArray) (a2_2 : Bool) (l3 : List (S114)) : Option (Int × Int × ByteArray × ByteArray × Bool × Bool × List ByteArray × List ByteArray × List Bool × List Int) := rev_laid.l0 k l3 (l3.length : Int) 0 a0 a1 a2_0 a2_1 a2_2 false ([] : List ByteArray) ([] : List ByteArray) ([] : List Bool)
theorem rev_laid.mono_l : ∀ k, (∀ y0 y1 y2 y3 y4 y5 y6 y7 y8 y9 y10 y11, LeO (rev_laid.l0 k y0 y1 y2 y3 y4 y5 y6 y7 y8 y9 y10 y11) (rev_laid.l0 (k + 1) y0 y1 y2 y3 y4 y5 y6 y7 y8 y9 y10 y11))
  | 0 => fun _ _ _ _ _ _ _ _ _ _ _ _ r h => by simp [rev_laid.l0] at h
  | k + 1 => by
    have ih0 := rev_laid.mono_l k
    · intro y0 y1 y2 y3 y4 y5 y6 y7 y8 y9 y10 y11
      unfold rev_laid.l0
      repeat' first
      | (with_reducible exact ih0 _ _ _ _ _ _ _ _ _ _ _ _)
      | (with_reducible exact probe_Build.mono _ _)
      | (with_reducible exact LeO.refl _)
      | (with_reducible exact LeO.none _)
      | (with_reducible refine LeO.ite ?_ ?_)
      | (with_reducible refine LeO.bind ?_ (fun _ => ?_))
      | exact ih0 _ _ _ _ _ _ _ _ _ _ _ _
      | exact probe_Build.mono _ _
      | exact LeO.none _
      | refine LeO.ite ?_ ?_
      | refine LeO.bind ?_ (fun _ => ?_)
theorem rev_laid.mono : ∀ a0 a1 a2 a3 a4 a5 k, LeO (rev_laid.f k a0 a1 a2 a3 a4 a5) (rev_laid.f (k + 1) a0 a1 a2 a3 a4 a5) := by
  intro a0 a1 a2 a3 a4 a5 k
  have ih0 := rev_laid.mono_l k
  unfold rev_laid.f
  repeat' first
      | (with_reducible exact ih0 _ _ _ _ _ _ _ _ _ _ _ _)
      | (with_reducible exact probe_Build.mono _ _)
      | (with_reducible exact LeO.refl _)
      | (with_reducible exact LeO.none _)
      | (with_reducible refine LeO.ite ?_ ?_)
      | (with_reducible refine LeO.bind ?_ (fun _ => ?_))
      | exact ih0 _ _ _ _ _ _ _ _ _ _ _ _
      | exact probe_Build.mono _ _
      | exact LeO.none _
      | refine LeO.ite ?_ ?_
      | refine LeO.bind ?_ (fun _ => ?_)
set_option maxHeartbeats 8000000 in
set_option maxRecDepth 100000 in
theorem rev_laid.calls (k : Nat) (a0 : Int) (a1 : Int) (a2_0 : ByteArray) (a2_1 : ByteArray) (a2_2 : Bool) (A3 : Option Addr) (c3 : Nat) (l3 : List (S114)) (r1 : Int) (r2 : Int) (r3 : ByteArray) (r4 : ByteArray) (r5 : Bool) (r6 : Bool) (r7 : List ByteArray) (r8 : List ByteArray) (r9 : List Bool) (r10 : List Int) (w : World) (hr3 : Kd.C k114 w A3 l3.length l3) (hc3 : l3.length ≤ c3) (h : rev_laid.f k a0 a1 a2_0 a2_1 a2_2 l3 = some (r1, r2, r3, r4, r5, r6, r7, r8, r9, r10)) :
    Calls Try.prog 55 #[.int .i64 a0, .int .i64 a1, .agg #[.string a2_0, .string a2_1, .bool a2_2], .slice A3 l3.length c3] w fun e w' => ∃ v6_ v7_ v8_ v9_ : Value, e = .returned (.agg #[.int .i64 r1, .int .i64 r2, .string r3, .string r4, .bool r5, .bool r6, v6_, v7_, v8_, v9_]) ∧ Kd.R Kd.string 9 w' w.heap.size (fun k_ => some k_ ≠ (v7_ : Value).ownBlock) v6_ r7 ∧ Kd.R Kd.string 9 w' w.heap.size (fun k_ => some k_ ≠ (v6_ : Value).ownBlock) v7_ r8 ∧ Kd.R Kd.bool 4 w' w.heap.size (fun _ => True) v8_ r9 ∧ Kd.R (Kd.int .i64) 3 w' w.heap.size (fun _ => True) v9_ r10 ∧ Below w.heap.size w w' := by
  have hu32 := Try.underlying32
  have hu37 := Try.underlying37
  have hu114 := Try.underlying114
  have HR3 := Aside0.mk hr3
  have HC3 := Aside0.mk hc3
  clear hr3 hc3
  have HB := Aside0.mk (Below.refl w.heap.size w)
  have H : (rev_laid.l0 k l3 (l3.length : Int) 0 a0 a1 a2_0 a2_1 a2_2 false ([] : List ByteArray) ([] : List ByteArray) ([] : List Bool)) = some (r1, r2, r3, r4, r5, r6, r7, r8, r9, r10) := h
  clear h
  have H' := Aside0.mk H
  clear H
  go_enter Try.func55, Try.ntmps55
  go_wp2_with (first | ((with_reducible refine gate_dst (N := 6) rfl ?_); refine box_event ?hg (N := 6) ?hd (cs := #[.string a2_0, .string a2_1, .bool a2_2]) (t := 32) ?hr ?_; (case hd => rfl); (case hg => rfl); (case hr => first | (go_simp; done) | (go_simp; rfl)); intro gb119 hg w5 hbox hb; have n0_ := Aside0.mk (below_step (by repeat (first | (with_reducible first | exact HB.out | apply below_alloc | apply pw_below_drewN | apply below_drew1) | exact HB.out)) hb); have n1_ := Aside0.mk (hbox); have n2_ := Aside0.mk ((by rw [hg]; exact (below_size (by repeat (first | (with_reducible first | exact HB.out | apply below_alloc | apply pw_below_drewN | apply below_drew1) | exact HB.out))) : w.heap.size ≤ gb119)); have n3_ := Aside0.mk ((by rw [hg]; exact (below_size (by repeat (first | (with_reducible first | exact HB.out | apply below_alloc | apply pw_below_drewN | apply below_drew1) | exact HB.out))) : w.heap.size ≤ gb119)); clear HB; have HB := n0_; have BK119 := n1_; have GW119 := n2_; have GE119 := n3_; clear n0_ n1_ n2_ n3_; clear hb hbox hg) | ((with_reducible refine gate_dst (N := 8) rfl ?_); refine box_event ?hg (N := 8) ?hd (cs := #[.int .i64 0, .int .i64 0, .string (⟨#[]⟩ : ByteArray), .string (⟨#[]⟩ : ByteArray), .bool false, .bool false, .slice none 0 0, .slice none 0 0, .slice none 0 0, .slice none 0 0]) (t := 37) ?hr ?_; (case hd => rfl); (case hg => rfl); (case hr => first | (go_simp; done) | (go_simp; rfl)); intro gb120 hg w6 hbox hb; have n0_ := Aside0.mk (blk_below (g := gb119) (o := .cells #[.string a2_0, .string a2_1, .bool a2_2] 32 (0, 0)) (by (with_reducible repeat (first | refine blk_drewN ?_ _ | refine blk_drew ?_ | refine blk_alloc ?_ _)); exact BK119.out) hb); have n1_ := Aside0.mk (below_step (by repeat (first | (with_reducible first | exact HB.out | apply below_alloc | apply pw_below_drewN | apply below_drew1 | refine below_set ?_ GE119.out) | exact HB.out)) hb); have n2_ := Aside0.mk (hbox); have n3_ := Aside0.mk ((by rw [hg]; exact (below_size (by repeat (first | (with_reducible first | exact HB.out | apply below_alloc | apply pw_below_drewN | apply below_drew1 | refine below_set ?_ GE119.out) | exact HB.out))) : w.heap.size ≤ gb120)); have n4_ := Aside0.mk ((by rw [hg]; exact (below_size (by repeat (first | (with_reducible first | exact HB.out | apply below_alloc | apply pw_below_drewN | apply below_drew1 | refine below_set ?_ GE119.out) | exact HB.out))) : w.heap.size ≤ gb120)); have n5_ := Aside0.mk ((by rw [hg]; exact Nat.ne_of_lt (blk_lt (g := gb119) (o := .cells #[.string a2_0, .string a2_1, .bool a2_2] 32 (0, 0)) (by (with_reducible repeat (first | refine blk_drewN ?_ _ | refine blk_drew ?_ | refine blk_alloc ?_ _)); exact BK119.out)) : gb119 ≠ gb120)); have n6_ := Aside0.mk ((by rw [hg]; exact Nat.ne_of_gt (blk_lt (g := gb119) (o := .cells #[.string a2_0, .string a2_1, .bool a2_2] 32 (0, 0)) (by (with_reducible repeat (first | refine blk_drewN ?_ _ | refine blk_drew ?_ | refine blk_alloc ?_ _)); exact BK119.out)) : gb120 ≠ gb119)); clear BK119; clear HB; have BK119 := n0_; have HB := n1_; have BK120 := n2_; have GW120 := n3_; have GE120 := n4_; have NB119_120 := n5_; have NB120_119 := n6_; clear n0_ n1_ n2_ n3_ n4_ n5_ n6_; clear hb hbox hg; have hnb7 := NB119_120.out; have hnc7 := NB120_119.out; have hcz8_0 : w6.cell? ⟨gb119, 0, none⟩ = some (.string a2_0) := (blk_cell BK119.out 0).trans rfl; have hcz8_1 : w6.cell? ⟨gb119, 1, none⟩ = some (.string a2_1) := (blk_cell BK119.out 1).trans rfl; have hcz8_2 : w6.cell? ⟨gb119, 2, none⟩ = some (.bool a2_2) := (blk_cell BK119.out 2).trans rfl; have hfz8_0 := blk_frozen BK119.out 0; have hfz8_1 := blk_frozen BK119.out 1; have hfz8_2 := blk_frozen BK119.out 2) | ((with_reducible refine gate_dst (N := 9) rfl ?_); refine box_event ?hg (N := 9) ?hd (cs := #[.int .i64 0, .int .i64 0, .string (⟨#[]⟩ : ByteArray), .string (⟨#[]⟩ : ByteArray), .bool false, .bool false, .slice none 0 0, .slice none 0 0, .slice none 0 0, .slice none 0 0]) (t := 37) ?hr ?_; (case hd => rfl); (case hg => rfl); (case hr => first | (go_simp; done) | (go_simp; rfl)); intro gb121 hg w9 hbox hb; have n0_ := Aside0.mk (blk_below (g := gb119) (o := .cells #[.string a2_0, .string a2_1, .bool a2_2] 32 (0, 0)) (by (with_reducible repeat (first | refine blk_drewN ?_ _ | refine blk_drew ?_ | refine blk_alloc ?_ _)); exact BK119.out) hb); have n1_ := Aside0.mk (blk_below (g := gb120) (o := .cells #[.int .i64 0, .int .i64 0, .string (⟨#[]⟩ : ByteArray), .string (⟨#[]⟩ : ByteArray), .bool false, .bool false, .slice none 0 0, .slice none 0 0, .slice none 0 0, .slice none 0 0] 37 (0, 0)) (by (with_reducible repeat (first | refine blk_drewN ?_ _ | refine blk_drew ?_ | refine blk_alloc ?_ _)); exact BK120.out) hb); have n2_ := Aside0.mk (below_step (by repeat (first | (with_reducible first | exact HB.out | apply below_alloc | apply pw_below_drewN | apply below_drew1 | refine below_set ?_ GE119.out | refine below_set ?_ GE120.out) | exact HB.out)) hb); have n3_ := Aside0.mk (hbox); have n4_ := Aside0.mk ((by rw [hg]; exact (below_size (by repeat (first | (with_reducible first | exact HB.out | apply below_alloc | apply pw_below_drewN | apply below_drew1 | refine below_set ?_ GE119.out | refine below_set ?_ GE120.out) | exact HB.out))) : w.heap.size ≤ gb121)); have n5_ := Aside0.mk ((by rw [hg]; exact (below_size (by repeat (first | (with_reducible first | exact HB.out | apply below_alloc | apply pw_below_drewN | apply below_drew1 | refine below_set ?_ GE119.out | refine below_set ?_ GE120.out) | exact HB.out))) : w.heap.size ≤ gb121)); have n6_ := Aside0.mk ((by rw [hg]; exact Nat.ne_of_lt (blk_lt (g := gb119) (o := .cells #[.string a2_0, .string a2_1, .bool a2_2] 32 (0, 0)) (by (with_reducible repeat (first | refine blk_drewN ?_ _ | refine blk_drew ?_ | refine blk_alloc ?_ _)); exact BK119.out)) : gb119 ≠ gb121)); have n7_ := Aside0.mk ((by rw [hg]; exact Nat.ne_of_gt (blk_lt (g := gb119) (o := .cells #[.string a2_0, .string a2_1, .bool a2_2] 32 (0, 0)) (by (with_reducible repeat (first | refine blk_drewN ?_ _ | refine blk_drew ?_ | refine blk_alloc ?_ _)); exact BK119.out)) : gb121 ≠ gb119)); have n8_ := Aside0.mk ((by rw [hg]; exact Nat.ne_of_lt (blk_lt (g := gb120) (o := .cells #[.int .i64 0, .int .i64 0, .string (⟨#[]⟩ : ByteArray), .string (⟨#[]⟩ : ByteArray), .bool false, .bool false, .slice none 0 0, .slice none 0 0, .slice none 0 0, .slice none 0 0] 37 (0, 0)) (by (with_reducible repeat (first | refine blk_drewN ?_ _ | refine blk_drew ?_ | refine blk_alloc ?_ _)); exact BK120.out)) : gb120 ≠ gb121)); have n9_ := Aside0.mk ((by rw [hg]; exact Nat.ne_of_gt (blk_lt (g := gb120) (o := .cells #[.int .i64 0, .int .i64 0, .string (⟨#[]⟩ : ByteArray), .string (⟨#[]⟩ : ByteArray), .bool false, .bool false, .slice none 0 0, .slice none 0 0, .slice none 0 0, .slice none 0 0] 37 (0, 0)) (by (with_reducible repeat (first | refine blk_drewN ?_ _ | refine blk_drew ?_ | refine blk_alloc ?_ _)); exact BK120.out)) : gb121 ≠ gb120)); clear BK119; clear BK120; clear HB; have BK119 := n0_; have BK120 := n1_; have HB := n2_; have BK121 := n3_; have GW121 := n4_; have GE121 := n5_; have NB119_121 := n6_; have NB121_119 := n7_; have NB120_121 := n8_; have NB121_120 := n9_; clear n0_ n1_ n2_ n3_ n4_ n5_ n6_ n7_ n8_ n9_; clear hb hbox hg; have hnb10 := NB121_119.out; have hnc10 := NB119_121.out; have hnb11 := NB121_120.out; have hnc11 := NB120_121.out; have hcz12_0 : w9.cell? ⟨gb121, 0, none⟩ = some (.int .i64 0) := (blk_cell BK121.out 0).trans rfl; have hcz12_1 : w9.cell? ⟨gb121, 1, none⟩ = some (.int .i64 0) := (blk_cell BK121.out 1).trans rfl; have hcz12_2 : w9.cell? ⟨gb121, 2, none⟩ = some (.string (⟨#[]⟩ : ByteArray)) := (blk_cell BK121.out 2).trans rfl; have hcz12_3 : w9.cell? ⟨gb121, 3, none⟩ = some (.string (⟨#[]⟩ : ByteArray)) := (blk_cell BK121.out 3).trans rfl; have hcz12_4 : w9.cell? ⟨gb121, 4, none⟩ = some (.bool false) := (blk_cell BK121.out 4).trans rfl; have hcz12_5 : w9.cell? ⟨gb121, 5, none⟩ = some (.bool false) := (blk_cell BK121.out 5).trans rfl; have hcz12_6 : w9.cell? ⟨gb121, 6, none⟩ = some (.slice none 0 0) := (blk_cell BK121.out 6).trans rfl; have hcz12_7 : w9.cell? ⟨gb121, 7, none⟩ = some (.slice none 0 0) := (blk_cell BK121.out 7).trans rfl; have hcz12_8 : w9.cell? ⟨gb121, 8, none⟩ = some (.slice none 0 0) := (blk_cell BK121.out 8).trans rfl; have hcz12_9 : w9.cell? ⟨gb121, 9, none⟩ = some (.slice none 0 0) := (blk_cell BK121.out 9).trans rfl; have hfz12_0 := blk_frozen BK121.out 0; have hfz12_1 := blk_frozen BK121.out 1; have hfz12_2 := blk_frozen BK121.out 2; have hfz12_3 := blk_frozen BK121.out 3; have hfz12_4 := blk_frozen BK121.out 4; have hfz12_5 := blk_frozen BK121.out 5; have hfz12_6 := blk_frozen BK121.out 6; have hfz12_7 := blk_frozen BK121.out 7; have hfz12_8 := blk_frozen BK121.out 8; have hfz12_9 := blk_frozen BK121.out 9))
  go_loopg [18] k (fun kq v18 w' => ∃ (x18_1 : Int) (x122006_1 : List ByteArray) (x122007_1 : List ByteArray) (x122008_1 : List Bool) (u122006 : Value) (u122007 : Value) (u122008 : Value), v18 = .int .i64 x18_1 ∧ Aside0 (rev_laid.l0 kq l3 (l3.length : Int) x18_1 a0 a1 a2_0 a2_1 a2_2 false x122006_1 x122007_1 x122008_1 = some (r1, r2, r3, r4, r5, r6, r7, r8, r9, r10)) ∧ Aside0 (kq ≤ k) ∧ Aside0 (Kd.R Kd.string 9 w' w.heap.size (fun k_ => some k_ ≠ (u122007 : Value).ownBlock) u122006 x122006_1) ∧ Aside0 (Kd.R Kd.string 9 w' w.heap.size (fun k_ => some k_ ≠ (u122006 : Value).ownBlock) u122007 x122007_1) ∧ Aside0 (Kd.R Kd.bool 4 w' w.heap.size (fun _ => True) u122008 x122008_1) ∧ Aside0 (w'.heap[gb119]? = some (.cells #[.string a2_0, .string a2_1, .bool a2_2] 32 (0, 0))) ∧ Aside0 (w'.heap[gb120]? = some (.cells #[.int .i64 0, .int .i64 0, .string (⟨#[]⟩ : ByteArray), .string (⟨#[]⟩ : ByteArray), .bool false, .bool false, (.slice none 0 0), (.slice none 0 0), (.slice none 0 0), (.slice none 0 0)] 37 (0, 0))) ∧ Aside0 (w'.heap[gb121]? = some (.cells #[.int .i64 a0, .int .i64 a1, .string a2_0, .string a2_1, .bool a2_2, .bool false, u122006, u122007, u122008, (.slice none 0 0)] 37 (0, 0))) ∧ Aside0 (Below w.heap.size w w'))
  case atStart => exact ⟨(0), (([] : List ByteArray)), (([] : List ByteArray)), (([] : List Bool)), (.slice none 0 0), (.slice none 0 0), (.slice none 0 0), (by first | rfl | (simp; done) | (simp [*]; done)), H', ⟨Nat.le_refl _⟩, ⟨by first | exact Kd.R_nil _ _ _ _ _ | exact Kd.N_nil _ _ _ _ _ | exact Kd.V_nil _ _ _ _ _ | exact Kd.Q_nil _ _ _ _ _ | exact Kd.S_nil _ _ _ _ _⟩, ⟨by first | exact Kd.R_nil _ _ _ _ _ | exact Kd.N_nil _ _ _ _ _ | exact Kd.V_nil _ _ _ _ _ | exact Kd.Q_nil _ _ _ _ _ | exact Kd.S_nil _ _ _ _ _⟩, ⟨by first | exact Kd.R_nil _ _ _ _ _ | exact Kd.N_nil _ _ _ _ _ | exact Kd.V_nil _ _ _ _ _ | exact Kd.Q_nil _ _ _ _ _ | exact Kd.S_nil _ _ _ _ _⟩, ⟨by (with_reducible repeat (first | refine blk_drewN ?_ _ | refine blk_drew ?_ | refine blk_alloc ?_ _)); refine blk_far ?_ NB119_121.out _; (with_reducible repeat (first | refine blk_drewN ?_ _ | refine blk_drew ?_ | refine blk_alloc ?_ _)); refine blk_far ?_ NB119_121.out _; (with_reducible repeat (first | refine blk_drewN ?_ _ | refine blk_drew ?_ | refine blk_alloc ?_ _)); refine blk_far ?_ NB119_121.out _; (with_reducible repeat (first | refine blk_drewN ?_ _ | refine blk_drew ?_ | refine blk_alloc ?_ _)); refine blk_far ?_ NB119_121.out _; (with_reducible repeat (first | refine blk_drewN ?_ _ | refine blk_drew ?_ | refine blk_alloc ?_ _)); refine blk_far ?_ NB119_121.out _; (with_reducible repeat (first | refine blk_drewN ?_ _ | refine blk_drew ?_ | refine blk_alloc ?_ _)); refine blk_far ?_ NB119_121.out _; (with_reducible repeat (first | refine blk_drewN ?_ _ | refine blk_drew ?_ | refine blk_alloc ?_ _)); refine blk_far ?_ NB119_121.out _; (with_reducible repeat (first | refine blk_drewN ?_ _ | refine blk_drew ?_ | refine blk_alloc ?_ _)); refine blk_far ?_ NB119_121.out _; (with_reducible repeat (first | refine blk_drewN ?_ _ | refine blk_drew ?_ | refine blk_alloc ?_ _)); refine blk_far ?_ NB119_121.out _; (with_reducible repeat (first | refine blk_drewN ?_ _ | refine blk_drew ?_ | refine blk_alloc ?_ _)); refine blk_far ?_ NB119_121.out _; (with_reducible repeat (first | refine blk_drewN ?_ _ | refine blk_drew ?_ | refine blk_alloc ?_ _)); exact BK119.out⟩, ⟨by (with_reducible repeat (first | refine blk_drewN ?_ _ | refine blk_drew ?_ | refine blk_alloc ?_ _)); refine blk_far ?_ NB120_121.out _; (with_reducible repeat (first | refine blk_drewN ?_ _ | refine blk_drew ?_ | refine blk_alloc ?_ _)); refine blk_far ?_ NB120_121.out _; (with_reducible repeat (first | refine blk_drewN ?_ _ | refine blk_drew ?_ | refine blk_alloc ?_ _)); refine blk_far ?_ NB120_121.out _; (with_reducible repeat (first | refine blk_drewN ?_ _ | refine blk_drew ?_ | refine blk_alloc ?_ _)); refine blk_far ?_ NB120_121.out _; (with_reducible repeat (first | refine blk_drewN ?_ _ | refine blk_drew ?_ | refine blk_alloc ?_ _)); refine blk_far ?_ NB120_121.out _; (with_reducible repeat (first | refine blk_drewN ?_ _ | refine blk_drew ?_ | refine blk_alloc ?_ _)); refine blk_far ?_ NB120_121.out _; (with_reducible repeat (first | refine blk_drewN ?_ _ | refine blk_drew ?_ | refine blk_alloc ?_ _)); refine blk_far ?_ NB120_121.out _; (with_reducible repeat (first | refine blk_drewN ?_ _ | refine blk_drew ?_ | refine blk_alloc ?_ _)); refine blk_far ?_ NB120_121.out _; (with_reducible repeat (first | refine blk_drewN ?_ _ | refine blk_drew ?_ | refine blk_alloc ?_ _)); refine blk_far ?_ NB120_121.out _; (with_reducible repeat (first | refine blk_drewN ?_ _ | refine blk_drew ?_ | refine blk_alloc ?_ _)); refine blk_far ?_ NB120_121.out _; (with_reducible repeat (first | refine blk_drewN ?_ _ | refine blk_drew ?_ | refine blk_alloc ?_ _)); exact BK120.out⟩, ⟨by (with_reducible repeat (first | refine blk_drewN ?_ _ | refine blk_drew ?_ | refine blk_alloc ?_ _)); refine blk_put (cs := #[.int .i64 a0, .int .i64 a1, .string a2_0, .string a2_1, .bool a2_2, .bool false, .slice none 0 0, .slice none 0 0, .slice none 0 0, .slice none 0 0]) ?_ 9 _ rfl; (with_reducible repeat (first | refine blk_drewN ?_ _ | refine blk_drew ?_ | refine blk_alloc ?_ _)); refine blk_put (cs := #[.int .i64 a0, .int .i64 a1, .string a2_0, .string a2_1, .bool a2_2, .bool false, .slice none 0 0, .slice none 0 0, .slice none 0 0, .slice none 0 0]) ?_ 8 _ rfl; (with_reducible repeat (first | refine blk_drewN ?_ _ | refine blk_drew ?_ | refine blk_alloc ?_ _)); refine blk_put (cs := #[.int .i64 a0, .int .i64 a1, .string a2_0, .string a2_1, .bool a2_2, .bool false, .slice none 0 0, .slice none 0 0, .slice none 0 0, .slice none 0 0]) ?_ 7 _ rfl; (with_reducible repeat (first | refine blk_drewN ?_ _ | refine blk_drew ?_ | refine blk_alloc ?_ _)); refine blk_put (cs := #[.int .i64 a0, .int .i64 a1, .string a2_0, .string a2_1, .bool a2_2, .bool false, .slice none 0 0, .slice none 0 0, .slice none 0 0, .slice none 0 0]) ?_ 6 _ rfl; (with_reducible repeat (first | refine blk_drewN ?_ _ | refine blk_drew ?_ | refine blk_alloc ?_ _)); refine blk_put (cs := #[.int .i64 a0, .int .i64 a1, .string a2_0, .string a2_1, .bool a2_2, .bool false, .slice none 0 0, .slice none 0 0, .slice none 0 0, .slice none 0 0]) ?_ 5 _ rfl; (with_reducible repeat (first | refine blk_drewN ?_ _ | refine blk_drew ?_ | refine blk_alloc ?_ _)); refine blk_put (cs := #[.int .i64 a0, .int .i64 a1, .string a2_0, .string a2_1, .bool false, .bool false, .slice none 0 0, .slice none 0 0, .slice none 0 0, .slice none 0 0]) ?_ 4 _ rfl; (with_reducible repeat (first | refine blk_drewN ?_ _ | refine blk_drew ?_ | refine blk_alloc ?_ _)); refine blk_put (cs := #[.int .i64 a0, .int .i64 a1, .string a2_0, .string (⟨#[]⟩ : ByteArray), .bool false, .bool false, .slice none 0 0, .slice none 0 0, .slice none 0 0, .slice none 0 0]) ?_ 3 _ rfl; (with_reducible repeat (first | refine blk_drewN ?_ _ | refine blk_drew ?_ | refine blk_alloc ?_ _)); refine blk_put (cs := #[.int .i64 a0, .int .i64 a1, .string (⟨#[]⟩ : ByteArray), .string (⟨#[]⟩ : ByteArray), .bool false, .bool false, .slice none 0 0, .slice none 0 0, .slice none 0 0, .slice none 0 0]) ?_ 2 _ rfl; (with_reducible repeat (first | refine blk_drewN ?_ _ | refine blk_drew ?_ | refine blk_alloc ?_ _)); refine blk_put (cs := #[.int .i64 a0, .int .i64 0, .string (⟨#[]⟩ : ByteArray), .string (⟨#[]⟩ : ByteArray), .bool false, .bool false, .slice none 0 0, .slice none 0 0, .slice none 0 0, .slice none 0 0]) ?_ 1 _ rfl; (with_reducible repeat (first | refine blk_drewN ?_ _ | refine blk_drew ?_ | refine blk_alloc ?_ _)); refine blk_put (cs := #[.int .i64 0, .int .i64 0, .string (⟨#[]⟩ : ByteArray), .string (⟨#[]⟩ : ByteArray), .bool false, .bool false, .slice none 0 0, .slice none 0 0, .slice none 0 0, .slice none 0 0]) ?_ 0 _ rfl; (with_reducible repeat (first | refine blk_drewN ?_ _ | refine blk_drew ?_ | refine blk_alloc ?_ _)); exact BK121.out⟩, ⟨by repeat (first | (with_reducible first | exact HB.out | apply below_alloc | apply pw_below_drewN | apply below_drew1 | refine below_set ?_ GE119.out | refine below_set ?_ GE120.out | refine below_set ?_ GE121.out) | exact HB.out)⟩⟩
  case round =>
    clear H'
    try clear c1
    try clear p2
    try clear c3
    try clear c5
    try clear c7
    try clear c10
    try clear c11
    try clear hcz12_0
    try clear hcz12_1
    try clear hcz12_2
    try clear hcz12_3
    try clear hcz12_4
    try clear hcz12_5
    try clear hcz12_6
    try clear hcz12_7
    try clear hcz12_8
    try clear hcz12_9
    try clear hcz8_0
    try clear hcz8_1
    try clear hcz8_2
    try clear hfz12_0
    try clear hfz12_1
    try clear hfz12_2
    try clear hfz12_3
    try clear hfz12_4
    try clear hfz12_5
    try clear hfz12_6
    try clear hfz12_7
    try clear hfz12_8
    try clear hfz12_9
    try clear hfz8_0
    try clear hfz8_1
    try clear hfz8_2
    obtain ⟨x18_1, x122006_1, x122007_1, x122008_1, u122006, u122007, u122008, rfl, HA, HK1, HO_122006, HO_122007, HO_122008, BK119, BK120, BK121, HB⟩ := hrel
    cases gk with
    | zero => exact absurd HA.out (by simp [rev_laid.l0])
    | succ k1 =>
      have H := HA.out
      clear HA
      simp only [rev_laid.l0] at H
      by_cases c13 : x18_1 < (l3.length : Int)
      · rw [if_pos c13] at H
        have c13b0 : decide (x18_1 < (l3.length : Int)) = true := decide_eq_true c13
        clear c13
        by_cases c14 : 0 ≤ x18_1
        · rw [if_pos c14] at H
          have c14b0 : decide (0 ≤ x18_1) = true := decide_eq_true c14
          clear c14
          by_cases c15 : x18_1 < (l3.length : Int)
          · rw [if_pos c15] at H
            have c15b0 : decide (x18_1 < (l3.length : Int)) = true := decide_eq_true c15
            clear c15
            by_cases c16 : x122006_1.length < 8796093022208
            · rw [if_pos c16] at H
              have LMc16 := Aside0.mk c16
              clear c16
              obtain ⟨y120, hy120⟩ : ∃ y_ : List ByteArray, y_ = (x122006_1 ++ [(rd_T114 l3 x18_1).f0]) := ⟨_, rfl⟩
              replace H : (if x122007_1.length < 8796093022208 then (if x122008_1.length < 140737488355328 then (rev_laid.l0 k1 l3 (l3.length : Int) (wrap64 (x18_1 + 1)) a0 a1 a2_0 a2_1 a2_2 false y120 (x122007_1 ++ [(rd_T114 l3 x18_1).f1]) (x122008_1 ++ [(rd_T114 l3 x18_1).f2])) else (none)) else (none)) = some (r1, r2, r3, r4, r5, r6, r7, r8, r9, r10) := by first | (rw [hy120]; with_reducible exact H) | (have H2_ := (Option.bind_some _ _).symm.trans H; rw [hy120]; with_reducible exact H2_) | (have H2_ := (Option.bind_some _ _).symm.trans H; with_reducible exact H2_) | with_reducible exact H | (rw [hy120]; exact H) | exact H
              have Ny120 := Aside0.mk hy120
              clear hy120
              by_cases c17 : x122007_1.length < 8796093022208
              · rw [if_pos c17] at H
                have LMc17 := Aside0.mk c17
                clear c17
                obtain ⟨y123, hy123⟩ : ∃ y_ : List ByteArray, y_ = (x122007_1 ++ [(rd_T114 l3 x18_1).f1]) := ⟨_, rfl⟩
                replace H : (if x122008_1.length < 140737488355328 then (rev_laid.l0 k1 l3 (l3.length : Int) (wrap64 (x18_1 + 1)) a0 a1 a2_0 a2_1 a2_2 false y120 y123 (x122008_1 ++ [(rd_T114 l3 x18_1).f2])) else (none)) = some (r1, r2, r3, r4, r5, r6, r7, r8, r9, r10) := by first | (rw [hy123]; with_reducible exact H) | (have H2_ := (Option.bind_some _ _).symm.trans H; rw [hy123]; with_reducible exact H2_) | (have H2_ := (Option.bind_some _ _).symm.trans H; with_reducible exact H2_) | with_reducible exact H | (rw [hy123]; exact H) | exact H
                have Ny123 := Aside0.mk hy123
                clear hy123
                by_cases c18 : x122008_1.length < 140737488355328
                · rw [if_pos c18] at H
                  have LMc18 := Aside0.mk c18
                  clear c18
                  obtain ⟨y126, hy126⟩ : ∃ y_ : List Bool, y_ = (x122008_1 ++ [(rd_T114 l3 x18_1).f2]) := ⟨_, rfl⟩
                  replace H : (rev_laid.l0 k1 l3 (l3.length : Int) (wrap64 (x18_1 + 1)) a0 a1 a2_0 a2_1 a2_2 false y120 y123 y126) = some (r1, r2, r3, r4, r5, r6, r7, r8, r9, r10) := by first | (rw [hy126]; with_reducible exact H) | (have H2_ := (Option.bind_some _ _).symm.trans H; rw [hy126]; with_reducible exact H2_) | (have H2_ := (Option.bind_some _ _).symm.trans H; with_reducible exact H2_) | with_reducible exact H | (rw [hy126]; exact H) | exact H
                  have Ny126 := Aside0.mk hy126
                  clear hy126
                  have H' := Aside0.mk H
                  clear H
                  have p119 : 0 ≤ (x18_1 : Int) := of_decide_eq_true (by first | (with_reducible assumption) | assumption)
                  have q119 : x18_1 < (l3.length : Int) := of_decide_eq_true (by first | (with_reducible assumption) | assumption)
                  obtain ⟨ad119, e119, hx119_0, hx119_1, hx119_2⟩ := at_T114 HR3.out x18_1 p119 q119
                  cases e119
                  replace hx119_0 := (HB.out.cell (World.block_lt_of_cell? w _ hx119_0)).trans hx119_0
                  replace hx119_1 := (HB.out.cell (World.block_lt_of_cell? w _ hx119_1)).trans hx119_1
                  replace hx119_2 := (HB.out.cell (World.block_lt_of_cell? w _ hx119_2)).trans hx119_2
                  replace p119 := eq_true p119
                  replace q119 := eq_true q119
                  go_wp2_with (first | ((with_reducible refine gate_dst (N := 11) rfl ?_); refine box_event ?hg (N := 11) ?hd (cs := #[.string (⟨#[]⟩ : ByteArray), .string (⟨#[]⟩ : ByteArray), .bool false]) (t := 114) ?hr ?_; (case hd => rfl); (case hg => rfl); (case hr => first | (go_simp; done) | (go_simp; rfl)); intro gb123 hg w19 hbox hb; have n0_ := Aside0.mk (Kd.R_below (by (with_reducible repeat (first | apply Kd.R_alloc | apply Kd.R_drewN | apply Kd.R_drew)); exact HO_122006.out) hb); have n1_ := Aside0.mk (Kd.R_below (by (with_reducible repeat (first | apply Kd.R_alloc | apply Kd.R_drewN | apply Kd.R_drew)); exact HO_122007.out) hb); have n2_ := Aside0.mk (Kd.R_below (by (with_reducible repeat (first | apply Kd.R_alloc | apply Kd.R_drewN | apply Kd.R_drew)); exact HO_122008.out) hb); have n3_ := Aside0.mk (blk_below (g := gb119) (o := .cells #[.string a2_0, .string a2_1, .bool a2_2] 32 (0, 0)) (by (with_reducible repeat (first | refine blk_drewN ?_ _ | refine blk_drew ?_ | refine blk_alloc ?_ _)); exact BK119.out) hb); have n4_ := Aside0.mk (blk_below (g := gb120) (o := .cells #[.int .i64 0, .int .i64 0, .string (⟨#[]⟩ : ByteArray), .string (⟨#[]⟩ : ByteArray), .bool false, .bool false, .slice none 0 0, .slice none 0 0, .slice none 0 0, .slice none 0 0] 37 (0, 0)) (by (with_reducible repeat (first | refine blk_drewN ?_ _ | refine blk_drew ?_ | refine blk_alloc ?_ _)); exact BK120.out) hb); have n5_ := Aside0.mk (blk_below (g := gb121) (o := .cells #[.int .i64 a0, .int .i64 a1, .string a2_0, .string a2_1, .bool a2_2, .bool false, u122006, u122007, u122008, .slice none 0 0] 37 (0, 0)) (by (with_reducible repeat (first | refine blk_drewN ?_ _ | refine blk_drew ?_ | refine blk_alloc ?_ _)); exact BK121.out) hb); have n6_ := Aside0.mk (below_step (by repeat (first | (with_reducible first | exact HB.out | apply below_alloc | apply pw_below_drewN | apply below_drew1 | refine below_set ?_ GE119.out | refine below_set ?_ GE120.out | refine below_set ?_ GE121.out) | exact HB.out)) hb); have n7_ := Aside0.mk (hbox); have n8_ := Aside0.mk ((by rw [hg]; exact (below_size (by repeat (first | (with_reducible first | exact HB.out | apply below_alloc | apply pw_below_drewN | apply below_drew1 | refine below_set ?_ GE119.out | refine below_set ?_ GE120.out | refine below_set ?_ GE121.out) | exact HB.out))) : w.heap.size ≤ gb123)); have n9_ := Aside0.mk ((by rw [hg]; exact (below_size (by repeat (first | (with_reducible first | exact HB.out | apply below_alloc | apply pw_below_drewN | apply below_drew1 | refine below_set ?_ GE119.out | refine below_set ?_ GE120.out | refine below_set ?_ GE121.out) | exact HB.out))) : w.heap.size ≤ gb123)); have n10_ := Aside0.mk ((by rw [hg]; exact Nat.ne_of_lt (blk_lt (g := gb119) (o := .cells #[.string a2_0, .string a2_1, .bool a2_2] 32 (0, 0)) (by (with_reducible repeat (first | refine blk_drewN ?_ _ | refine blk_drew ?_ | refine blk_alloc ?_ _)); exact BK119.out)) : gb119 ≠ gb123)); have n11_ := Aside0.mk ((by rw [hg]; exact Nat.ne_of_gt (blk_lt (g := gb119) (o := .cells #[.string a2_0, .string a2_1, .bool a2_2] 32 (0, 0)) (by (with_reducible repeat (first | refine blk_drewN ?_ _ | refine blk_drew ?_ | refine blk_alloc ?_ _)); exact BK119.out)) : gb123 ≠ gb119)); have n12_ := Aside0.mk ((by rw [hg]; exact Nat.ne_of_lt (blk_lt (g := gb120) (o := .cells #[.int .i64 0, .int .i64 0, .string (⟨#[]⟩ : ByteArray), .string (⟨#[]⟩ : ByteArray), .bool false, .bool false, .slice none 0 0, .slice none 0 0, .slice none 0 0, .slice none 0 0] 37 (0, 0)) (by (with_reducible repeat (first | refine blk_drewN ?_ _ | refine blk_drew ?_ | refine blk_alloc ?_ _)); exact BK120.out)) : gb120 ≠ gb123)); have n13_ := Aside0.mk ((by rw [hg]; exact Nat.ne_of_gt (blk_lt (g := gb120) (o := .cells #[.int .i64 0, .int .i64 0, .string (⟨#[]⟩ : ByteArray), .string (⟨#[]⟩ : ByteArray), .bool false, .bool false, .slice none 0 0, .slice none 0 0, .slice none 0 0, .slice none 0 0] 37 (0, 0)) (by (with_reducible repeat (first | refine blk_drewN ?_ _ | refine blk_drew ?_ | refine blk_alloc ?_ _)); exact BK120.out)) : gb123 ≠ gb120)); have n14_ := Aside0.mk ((by rw [hg]; exact Nat.ne_of_lt (blk_lt (g := gb121) (o := .cells #[.int .i64 a0, .int .i64 a1, .string a2_0, .string a2_1, .bool a2_2, .bool false, u122006, u122007, u122008, .slice none 0 0] 37 (0, 0)) (by (with_reducible repeat (first | refine blk_drewN ?_ _ | refine blk_drew ?_ | refine blk_alloc ?_ _)); exact BK121.out)) : gb121 ≠ gb123)); have n15_ := Aside0.mk ((by rw [hg]; exact Nat.ne_of_gt (blk_lt (g := gb121) (o := .cells #[.int .i64 a0, .int .i64 a1, .string a2_0, .string a2_1, .bool a2_2, .bool false, u122006, u122007, u122008, .slice none 0 0] 37 (0, 0)) (by (with_reducible repeat (first | refine blk_drewN ?_ _ | refine blk_drew ?_ | refine blk_alloc ?_ _)); exact BK121.out)) : gb123 ≠ gb121)); clear HO_122006; clear HO_122007; clear HO_122008; clear BK119; clear BK120; clear BK121; clear HB; have HO_122006 := n0_; have HO_122007 := n1_; have HO_122008 := n2_; have BK119 := n3_; have BK120 := n4_; have BK121 := n5_; have HB := n6_; have BK123 := n7_; have GW123 := n8_; have GE123 := n9_; have NB119_123 := n10_; have NB123_119 := n11_; have NB120_123 := n12_; have NB123_120 := n13_; have NB121_123 := n14_; have NB123_121 := n15_; clear n0_ n1_ n2_ n3_ n4_ n5_ n6_ n7_ n8_ n9_ n10_ n11_ n12_ n13_ n14_ n15_; clear hb hbox hg; have hnb20 := NB123_119.out; have hnc20 := NB119_123.out; have hnb21 := NB123_120.out; have hnc21 := NB120_123.out; have hnb22 := NB123_121.out; have hnc22 := NB121_123.out; have hcz23_0 : w19.cell? ⟨gb123, 0, none⟩ = some (.string (⟨#[]⟩ : ByteArray)) := (blk_cell BK123.out 0).trans rfl; have hcz23_1 : w19.cell? ⟨gb123, 1, none⟩ = some (.string (⟨#[]⟩ : ByteArray)) := (blk_cell BK123.out 1).trans rfl; have hcz23_2 : w19.cell? ⟨gb123, 2, none⟩ = some (.bool false) := (blk_cell BK123.out 2).trans rfl; have hfz23_0 := blk_frozen BK123.out 0; have hfz23_1 := blk_frozen BK123.out 1; have hfz23_2 := blk_frozen BK123.out 2; have hnb24 := NB121_119.out; have hnc24 := NB119_121.out; have hnb25 := NB121_120.out; have hnc25 := NB120_121.out; have hcz26_0 : w19.cell? ⟨gb121, 0, none⟩ = some (.int .i64 a0) := (blk_cell BK121.out 0).trans rfl; have hcz26_1 : w19.cell? ⟨gb121, 1, none⟩ = some (.int .i64 a1) := (blk_cell BK121.out 1).trans rfl; have hcz26_2 : w19.cell? ⟨gb121, 2, none⟩ = some (.string a2_0) := (blk_cell BK121.out 2).trans rfl; have hcz26_3 : w19.cell? ⟨gb121, 3, none⟩ = some (.string a2_1) := (blk_cell BK121.out 3).trans rfl; have hcz26_4 : w19.cell? ⟨gb121, 4, none⟩ = some (.bool a2_2) := (blk_cell BK121.out 4).trans rfl; have hcz26_5 : w19.cell? ⟨gb121, 5, none⟩ = some (.bool false) := (blk_cell BK121.out 5).trans rfl; have hcz26_6 : w19.cell? ⟨gb121, 6, none⟩ = some (u122006) := (blk_cell BK121.out 6).trans rfl; have hcz26_7 : w19.cell? ⟨gb121, 7, none⟩ = some (u122007) := (blk_cell BK121.out 7).trans rfl; have hcz26_8 : w19.cell? ⟨gb121, 8, none⟩ = some (u122008) := (blk_cell BK121.out 8).trans rfl; have hcz26_9 : w19.cell? ⟨gb121, 9, none⟩ = some (.slice none 0 0) := (blk_cell BK121.out 9).trans rfl; have hfz26_0 := blk_frozen BK121.out 0; have hfz26_1 := blk_frozen BK121.out 1; have hfz26_2 := blk_frozen BK121.out 2; have hfz26_3 := blk_frozen BK121.out 3; have hfz26_4 := blk_frozen BK121.out 4; have hfz26_5 := blk_frozen BK121.out 5; have hfz26_6 := blk_frozen BK121.out 6; have hfz26_7 := blk_frozen BK121.out 7; have hfz26_8 := blk_frozen BK121.out 8; have hfz26_9 := blk_frozen BK121.out 9) | ((with_reducible refine gate_builtin (b := .append) (xs := #[.tmp 23, .tmp 26]) rfl ?_); at_builtin; refine Kd.R_append Kd.string (w0 := w) w.heap.size rfl (.tmp 23) (.tmp 26) 33 9 (.string ⟨#[]⟩) 16 rfl Try.underlying33 info9 rfl (by decide) (by omega) u122006 x122006_1 ((rd_T114 l3 x18_1).f0) [.string ((rd_T114 l3 x18_1).f0)] (fun k_ => some k_ ≠ (u122007 : Value).ownBlock) (fun _ => False) rfl (by first | (go_simp; done) | (go_simp; rfl)) ?aP (fun _ hk => hk.elim) ?aF ?aO ?aB ?aS ?aL ?_; (case aP => exact rfl); (case aB => exact (by repeat (first | (with_reducible first | exact HB.out | apply below_alloc | apply pw_below_drewN | apply below_drew1 | refine below_set ?_ GE119.out | refine below_set ?_ GE120.out | refine below_set ?_ GE121.out | refine below_set ?_ GE123.out) | exact HB.out))); (case aF => exact (fun k_ hk => Kd.fresh' (Kd.R_lt (by (with_reducible repeat (first | apply Kd.R_alloc | apply Kd.R_drewN | apply Kd.R_drew)); exact (Kd.R_mono (Kd.R_far (p := ⟨gb123, 2, none⟩) (Kd.R_far (p := ⟨gb123, 1, none⟩) (Kd.R_far (p := ⟨gb123, 0, none⟩) (Kd.R_types HO_122007.out BK123.out (by decide)) (fun _ hk => hk.2) (.string ((rd_T114 l3 x18_1).f0))) (fun _ hk => hk.2) (.string ((rd_T114 l3 x18_1).f1))) (fun _ hk => hk.2) (.bool ((rd_T114 l3 x18_1).f2))) (fun _ h_ => h_.1)))) k_ hk)); (case aO => exact (by (with_reducible repeat (first | apply Kd.R_alloc | apply Kd.R_drewN | apply Kd.R_drew)); exact Kd.R_mono (Kd.R_far (p := ⟨gb123, 2, none⟩) (Kd.R_far (p := ⟨gb123, 1, none⟩) (Kd.R_far (p := ⟨gb123, 0, none⟩) (Kd.R_types HO_122006.out BK123.out (by decide)) (fun _ hk => hk.2) (.string ((rd_T114 l3 x18_1).f0))) (fun _ hk => hk.2) (.string ((rd_T114 l3 x18_1).f1))) (fun _ hk => hk.2) (.bool ((rd_T114 l3 x18_1).f2))) (fun _ hk => hk.1))); (case aS => exact (below_size (by repeat (first | (with_reducible first | exact HB.out | apply below_alloc | apply pw_below_drewN | apply below_drew1 | refine below_set ?_ GE119.out | refine below_set ?_ GE120.out | refine below_set ?_ GE121.out | refine below_set ?_ GE123.out) | exact HB.out)))); (case aL => have := LMc16.out; omega); intro v121 w27 ho hb hg hat; rw [← Ny120.out] at ho; have n0_ := Aside0.mk (Kd.R_after (ok := (fun _ => True)) (by (with_reducible repeat (first | apply Kd.R_alloc | apply Kd.R_drewN | apply Kd.R_drew)); exact Kd.R_mono (Kd.R_far (p := ⟨gb123, 2, none⟩) (Kd.R_far (p := ⟨gb123, 1, none⟩) (Kd.R_far (p := ⟨gb123, 0, none⟩) (Kd.R_types HO_122007.out BK123.out (by decide)) (fun _ hk => hk.2) (.string ((rd_T114 l3 x18_1).f0))) (fun _ hk => hk.2) (.string ((rd_T114 l3 x18_1).f1))) (fun _ hk => hk.2) (.bool ((rd_T114 l3 x18_1).f2))) (fun _ hk => ⟨trivial, hk.1⟩)) hg hat); have n1_ := Aside0.mk (Kd.R_over' (by (with_reducible repeat (first | apply Kd.R_alloc | apply Kd.R_drewN | apply Kd.R_drew)); exact (Kd.R_mono (Kd.R_far (p := ⟨gb123, 2, none⟩) (Kd.R_far (p := ⟨gb123, 1, none⟩) (Kd.R_far (p := ⟨gb123, 0, none⟩) (Kd.R_types HO_122008.out BK123.out (by decide)) (fun _ hk => hk.2) (.string ((rd_T114 l3 x18_1).f0))) (fun _ hk => hk.2) (.string ((rd_T114 l3 x18_1).f1))) (fun _ hk => hk.2) (.bool ((rd_T114 l3 x18_1).f2))) (fun _ h_ => h_.1))) (Kd.R_typed (by (with_reducible repeat (first | apply Kd.R_alloc | apply Kd.R_drewN | apply Kd.R_drew)); exact (Kd.R_mono (Kd.R_far (p := ⟨gb123, 2, none⟩) (Kd.R_far (p := ⟨gb123, 1, none⟩) (Kd.R_far (p := ⟨gb123, 0, none⟩) (Kd.R_types HO_122006.out BK123.out (by decide)) (fun _ hk => hk.2) (.string ((rd_T114 l3 x18_1).f0))) (fun _ hk => hk.2) (.string ((rd_T114 l3 x18_1).f1))) (fun _ hk => hk.2) (.bool ((rd_T114 l3 x18_1).f2))) (fun _ h_ => h_.1)))) (by decide) hg); have n2_ := Aside0.mk (blk_grown (g := gb119) (o := .cells #[.string a2_0, .string a2_1, .bool a2_2] 32 (0, 0)) (by (with_reducible repeat (first | refine blk_drewN ?_ _ | refine blk_drew ?_ | refine blk_alloc ?_ _)); refine blk_far ?_ NB119_123.out _; (with_reducible repeat (first | refine blk_drewN ?_ _ | refine blk_drew ?_ | refine blk_alloc ?_ _)); refine blk_far ?_ NB119_123.out _; (with_reducible repeat (first | refine blk_drewN ?_ _ | refine blk_drew ?_ | refine blk_alloc ?_ _)); refine blk_far ?_ NB119_123.out _; (with_reducible repeat (first | refine blk_drewN ?_ _ | refine blk_drew ?_ | refine blk_alloc ?_ _)); exact BK119.out) hg (Kd.R_ne HO_122006.out BK119.out (by decide))); have n3_ := Aside0.mk (blk_grown (g := gb120) (o := .cells #[.int .i64 0, .int .i64 0, .string (⟨#[]⟩ : ByteArray), .string (⟨#[]⟩ : ByteArray), .bool false, .bool false, .slice none 0 0, .slice none 0 0, .slice none 0 0, .slice none 0 0] 37 (0, 0)) (by (with_reducible repeat (first | refine blk_drewN ?_ _ | refine blk_drew ?_ | refine blk_alloc ?_ _)); refine blk_far ?_ NB120_123.out _; (with_reducible repeat (first | refine blk_drewN ?_ _ | refine blk_drew ?_ | refine blk_alloc ?_ _)); refine blk_far ?_ NB120_123.out _; (with_reducible repeat (first | refine blk_drewN ?_ _ | refine blk_drew ?_ | refine blk_alloc ?_ _)); refine blk_far ?_ NB120_123.out _; (with_reducible repeat (first | refine blk_drewN ?_ _ | refine blk_drew ?_ | refine blk_alloc ?_ _)); exact BK120.out) hg (Kd.R_ne HO_122006.out BK120.out (by decide))); have n4_ := Aside0.mk (blk_grown (g := gb121) (o := .cells #[.int .i64 a0, .int .i64 a1, .string a2_0, .string a2_1, .bool a2_2, .bool false, u122006, u122007, u122008, .slice none 0 0] 37 (0, 0)) (by (with_reducible repeat (first | refine blk_drewN ?_ _ | refine blk_drew ?_ | refine blk_alloc ?_ _)); refine blk_far ?_ NB121_123.out _; (with_reducible repeat (first | refine blk_drewN ?_ _ | refine blk_drew ?_ | refine blk_alloc ?_ _)); refine blk_far ?_ NB121_123.out _; (with_reducible repeat (first | refine blk_drewN ?_ _ | refine blk_drew ?_ | refine blk_alloc ?_ _)); refine blk_far ?_ NB121_123.out _; (with_reducible repeat (first | refine blk_drewN ?_ _ | refine blk_drew ?_ | refine blk_alloc ?_ _)); exact BK121.out) hg (Kd.R_ne HO_122006.out BK121.out (by decide))); have n5_ := Aside0.mk (blk_grown (g := gb123) (o := .cells #[.string ((rd_T114 l3 x18_1).f0), .string ((rd_T114 l3 x18_1).f1), .bool ((rd_T114 l3 x18_1).f2)] 114 (0, 0)) (by (with_reducible repeat (first | refine blk_drewN ?_ _ | refine blk_drew ?_ | refine blk_alloc ?_ _)); refine blk_put (cs := #[.string ((rd_T114 l3 x18_1).f0), .string ((rd_T114 l3 x18_1).f1), .bool false]) ?_ 2 _ rfl; (with_reducible repeat (first | refine blk_drewN ?_ _ | refine blk_drew ?_ | refine blk_alloc ?_ _)); refine blk_put (cs := #[.string ((rd_T114 l3 x18_1).f0), .string (⟨#[]⟩ : ByteArray), .bool false]) ?_ 1 _ rfl; (with_reducible repeat (first | refine blk_drewN ?_ _ | refine blk_drew ?_ | refine blk_alloc ?_ _)); refine blk_put (cs := #[.string (⟨#[]⟩ : ByteArray), .string (⟨#[]⟩ : ByteArray), .bool false]) ?_ 0 _ rfl; (with_reducible repeat (first | refine blk_drewN ?_ _ | refine blk_drew ?_ | refine blk_alloc ?_ _)); exact BK123.out) hg (Kd.R_ne HO_122006.out BK123.out (by decide))); have n6_ := Aside0.mk (hb); have n7_ := Aside0.mk (ho); clear HO_122007; clear HO_122008; clear BK119; clear BK120; clear BK121; clear BK123; clear HB; clear HO_122006; have HO_122007 := n0_; have HO_122008 := n1_; have BK119 := n2_; have BK120 := n3_; have BK121 := n4_; have BK123 := n5_; have HB := n6_; have HO122 := n7_; clear n0_ n1_ n2_ n3_ n4_ n5_ n6_ n7_; clear ho hb hg hat; obtain ⟨Ao28, co28, eo28⟩ := Kd.R_slice HO122.out; subst eo28; have hcz29_0 : w27.cell? ⟨gb121, 0, none⟩ = some (.int .i64 a0) := (blk_cell BK121.out 0).trans rfl; have hcz29_1 : w27.cell? ⟨gb121, 1, none⟩ = some (.int .i64 a1) := (blk_cell BK121.out 1).trans rfl; have hcz29_2 : w27.cell? ⟨gb121, 2, none⟩ = some (.string a2_0) := (blk_cell BK121.out 2).trans rfl; have hcz29_3 : w27.cell? ⟨gb121, 3, none⟩ = some (.string a2_1) := (blk_cell BK121.out 3).trans rfl; have hcz29_4 : w27.cell? ⟨gb121, 4, none⟩ = some (.bool a2_2) := (blk_cell BK121.out 4).trans rfl; have hcz29_5 : w27.cell? ⟨gb121, 5, none⟩ = some (.bool false) := (blk_cell BK121.out 5).trans rfl; have hcz29_6 : w27.cell? ⟨gb121, 6, none⟩ = some (u122006) := (blk_cell BK121.out 6).trans rfl; have hcz29_7 : w27.cell? ⟨gb121, 7, none⟩ = some (u122007) := (blk_cell BK121.out 7).trans rfl; have hcz29_8 : w27.cell? ⟨gb121, 8, none⟩ = some (u122008) := (blk_cell BK121.out 8).trans rfl; have hcz29_9 : w27.cell? ⟨gb121, 9, none⟩ = some (.slice none 0 0) := (blk_cell BK121.out 9).trans rfl; have hfz29_0 := blk_frozen BK121.out 0; have hfz29_1 := blk_frozen BK121.out 1; have hfz29_2 := blk_frozen BK121.out 2; have hfz29_3 := blk_frozen BK121.out 3; have hfz29_4 := blk_frozen BK121.out 4; have hfz29_5 := blk_frozen BK121.out 5; have hfz29_6 := blk_frozen BK121.out 6; have hfz29_7 := blk_frozen BK121.out 7; have hfz29_8 := blk_frozen BK121.out 8; have hfz29_9 := blk_frozen BK121.out 9; have hcz30_0 : w27.cell? ⟨gb123, 0, none⟩ = some (.string ((rd_T114 l3 x18_1).f0)) := (blk_cell BK123.out 0).trans rfl; have hcz30_1 : w27.cell? ⟨gb123, 1, none⟩ = some (.string ((rd_T114 l3 x18_1).f1)) := (blk_cell BK123.out 1).trans rfl; have hcz30_2 : w27.cell? ⟨gb123, 2, none⟩ = some (.bool ((rd_T114 l3 x18_1).f2)) := (blk_cell BK123.out 2).trans rfl; have hfz30_0 := blk_frozen BK123.out 0; have hfz30_1 := blk_frozen BK123.out 1; have hfz30_2 := blk_frozen BK123.out 2) | ((with_reducible refine gate_builtin (b := .append) (xs := #[.tmp 30, .tmp 33]) rfl ?_); at_builtin; refine Kd.R_append Kd.string (w0 := w) w.heap.size rfl (.tmp 30) (.tmp 33) 33 9 (.string ⟨#[]⟩) 16 rfl Try.underlying33 info9 rfl (by decide) (by omega) u122007 x122007_1 ((rd_T114 l3 x18_1).f1) [.string ((rd_T114 l3 x18_1).f1)] (fun k_ => some k_ ≠ (.slice Ao28 y120.length co28 : Value).ownBlock) (fun _ => False) rfl (by first | (go_simp; done) | (go_simp; rfl)) ?aP (fun _ hk => hk.elim) ?aF ?aO ?aB ?aS ?aL ?_; (case aP => exact rfl); (case aB => exact (by repeat (first | (with_reducible first | exact HB.out | apply below_alloc | apply pw_below_drewN | apply below_drew1 | refine below_set ?_ GE119.out | refine below_set ?_ GE120.out | refine below_set ?_ GE121.out | refine below_set ?_ GE123.out) | exact HB.out))); (case aF => exact (fun k_ hk => Kd.fresh' (Kd.R_lt (by (with_reducible repeat (first | apply Kd.R_alloc | apply Kd.R_drewN | apply Kd.R_drew)); exact (Kd.R_mono (Kd.R_far (p := ⟨gb121, 6, none⟩) (Kd.R_types HO122.out BK121.out (by decide)) (fun _ hk => hk.2) (.slice Ao28 y120.length co28)) (fun _ h_ => h_.1)))) k_ hk)); (case aO => exact (by (with_reducible repeat (first | apply Kd.R_alloc | apply Kd.R_drewN | apply Kd.R_drew)); exact Kd.R_mono (Kd.R_far (p := ⟨gb121, 6, none⟩) (Kd.R_types HO_122007.out BK121.out (by decide)) (fun _ hk => hk.2) (.slice Ao28 y120.length co28)) (fun _ hk => hk.1.2))); (case aS => exact (below_size (by repeat (first | (with_reducible first | exact HB.out | apply below_alloc | apply pw_below_drewN | apply below_drew1 | refine below_set ?_ GE119.out | refine below_set ?_ GE120.out | refine below_set ?_ GE121.out | refine below_set ?_ GE123.out) | exact HB.out)))); (case aL => have := LMc17.out; omega); intro v124 w31 ho hb hg hat; rw [← Ny123.out] at ho; have n0_ := Aside0.mk (Kd.R_over' (by (with_reducible repeat (first | apply Kd.R_alloc | apply Kd.R_drewN | apply Kd.R_drew)); exact (Kd.R_mono (Kd.R_far (p := ⟨gb121, 6, none⟩) (Kd.R_types HO_122008.out BK121.out (by decide)) (fun _ hk => hk.2) (.slice Ao28 y120.length co28)) (fun _ h_ => h_.1))) (Kd.R_typed (by (with_reducible repeat (first | apply Kd.R_alloc | apply Kd.R_drewN | apply Kd.R_drew)); exact (Kd.R_mono (Kd.R_far (p := ⟨gb121, 6, none⟩) (Kd.R_types HO_122007.out BK121.out (by decide)) (fun _ hk => hk.2) (.slice Ao28 y120.length co28)) (fun _ h_ => h_.1)))) (by decide) hg); have n1_ := Aside0.mk (blk_grown (g := gb119) (o := .cells #[.string a2_0, .string a2_1, .bool a2_2] 32 (0, 0)) (by (with_reducible repeat (first | refine blk_drewN ?_ _ | refine blk_drew ?_ | refine blk_alloc ?_ _)); refine blk_far ?_ NB119_121.out _; (with_reducible repeat (first | refine blk_drewN ?_ _ | refine blk_drew ?_ | refine blk_alloc ?_ _)); exact BK119.out) hg (Kd.R_ne HO_122007.out BK119.out (by decide))); have n2_ := Aside0.mk (blk_grown (g := gb120) (o := .cells #[.int .i64 0, .int .i64 0, .string (⟨#[]⟩ : ByteArray), .string (⟨#[]⟩ : ByteArray), .bool false, .bool false, .slice none 0 0, .slice none 0 0, .slice none 0 0, .slice none 0 0] 37 (0, 0)) (by (with_reducible repeat (first | refine blk_drewN ?_ _ | refine blk_drew ?_ | refine blk_alloc ?_ _)); refine blk_far ?_ NB120_121.out _; (with_reducible repeat (first | refine blk_drewN ?_ _ | refine blk_drew ?_ | refine blk_alloc ?_ _)); exact BK120.out) hg (Kd.R_ne HO_122007.out BK120.out (by decide))); have n3_ := Aside0.mk (blk_grown (g := gb121) (o := .cells #[.int .i64 a0, .int .i64 a1, .string a2_0, .string a2_1, .bool a2_2, .bool false, .slice Ao28 y120.length co28, u122007, u122008, .slice none 0 0] 37 (0, 0)) (by (with_reducible repeat (first | refine blk_drewN ?_ _ | refine blk_drew ?_ | refine blk_alloc ?_ _)); refine blk_put (cs := #[.int .i64 a0, .int .i64 a1, .string a2_0, .string a2_1, .bool a2_2, .bool false, u122006, u122007, u122008, .slice none 0 0]) ?_ 6 _ rfl; (with_reducible repeat (first | refine blk_drewN ?_ _ | refine blk_drew ?_ | refine blk_alloc ?_ _)); exact BK121.out) hg (Kd.R_ne HO_122007.out BK121.out (by decide))); have n4_ := Aside0.mk (blk_grown (g := gb123) (o := .cells #[.string ((rd_T114 l3 x18_1).f0), .string ((rd_T114 l3 x18_1).f1), .bool ((rd_T114 l3 x18_1).f2)] 114 (0, 0)) (by (with_reducible repeat (first | refine blk_drewN ?_ _ | refine blk_drew ?_ | refine blk_alloc ?_ _)); refine blk_far ?_ NB123_121.out _; (with_reducible repeat (first | refine blk_drewN ?_ _ | refine blk_drew ?_ | refine blk_alloc ?_ _)); exact BK123.out) hg (Kd.R_ne HO_122007.out BK123.out (by decide))); have n5_ := Aside0.mk (Kd.R_after (ok := (fun _ => True)) (by (with_reducible repeat (first | apply Kd.R_alloc | apply Kd.R_drewN | apply Kd.R_drew)); exact Kd.R_mono (Kd.R_far (p := ⟨gb121, 6, none⟩) (Kd.R_types HO122.out BK121.out (by decide)) (fun _ hk => hk.2) (.slice Ao28 y120.length co28)) (fun _ hk => ⟨trivial, hk.1⟩)) hg hat); have n6_ := Aside0.mk (hb); have n7_ := Aside0.mk (ho); clear HO_122008; clear BK119; clear BK120; clear BK121; clear BK123; clear HO122; clear HB; clear HO_122007; have HO_122008 := n0_; have BK119 := n1_; have BK120 := n2_; have BK121 := n3_; have BK123 := n4_; have HO122 := n5_; have HB := n6_; have HO125 := n7_; clear n0_ n1_ n2_ n3_ n4_ n5_ n6_ n7_; clear ho hb hg hat; obtain ⟨Ao32, co32, eo32⟩ := Kd.R_slice HO125.out; subst eo32; have hcz33_0 : w31.cell? ⟨gb121, 0, none⟩ = some (.int .i64 a0) := (blk_cell BK121.out 0).trans rfl; have hcz33_1 : w31.cell? ⟨gb121, 1, none⟩ = some (.int .i64 a1) := (blk_cell BK121.out 1).trans rfl; have hcz33_2 : w31.cell? ⟨gb121, 2, none⟩ = some (.string a2_0) := (blk_cell BK121.out 2).trans rfl; have hcz33_3 : w31.cell? ⟨gb121, 3, none⟩ = some (.string a2_1) := (blk_cell BK121.out 3).trans rfl; have hcz33_4 : w31.cell? ⟨gb121, 4, none⟩ = some (.bool a2_2) := (blk_cell BK121.out 4).trans rfl; have hcz33_5 : w31.cell? ⟨gb121, 5, none⟩ = some (.bool false) := (blk_cell BK121.out 5).trans rfl; have hcz33_6 : w31.cell? ⟨gb121, 6, none⟩ = some (.slice Ao28 y120.length co28) := (blk_cell BK121.out 6).trans rfl; have hcz33_7 : w31.cell? ⟨gb121, 7, none⟩ = some (u122007) := (blk_cell BK121.out 7).trans rfl; have hcz33_8 : w31.cell? ⟨gb121, 8, none⟩ = some (u122008) := (blk_cell BK121.out 8).trans rfl; have hcz33_9 : w31.cell? ⟨gb121, 9, none⟩ = some (.slice none 0 0) := (blk_cell BK121.out 9).trans rfl; have hfz33_0 := blk_frozen BK121.out 0; have hfz33_1 := blk_frozen BK121.out 1; have hfz33_2 := blk_frozen BK121.out 2; have hfz33_3 := blk_frozen BK121.out 3; have hfz33_4 := blk_frozen BK121.out 4; have hfz33_5 := blk_frozen BK121.out 5; have hfz33_6 := blk_frozen BK121.out 6; have hfz33_7 := blk_frozen BK121.out 7; have hfz33_8 := blk_frozen BK121.out 8; have hfz33_9 := blk_frozen BK121.out 9; have hcz34_0 : w31.cell? ⟨gb123, 0, none⟩ = some (.string ((rd_T114 l3 x18_1).f0)) := (blk_cell BK123.out 0).trans rfl; have hcz34_1 : w31.cell? ⟨gb123, 1, none⟩ = some (.string ((rd_T114 l3 x18_1).f1)) := (blk_cell BK123.out 1).trans rfl; have hcz34_2 : w31.cell? ⟨gb123, 2, none⟩ = some (.bool ((rd_T114 l3 x18_1).f2)) := (blk_cell BK123.out 2).trans rfl; have hfz34_0 := blk_frozen BK123.out 0; have hfz34_1 := blk_frozen BK123.out 1; have hfz34_2 := blk_frozen BK123.out 2) | ((with_reducible refine gate_builtin (b := .append) (xs := #[.tmp 37, .tmp 40]) rfl ?_); at_builtin; refine Kd.R_append Kd.bool (w0 := w) w.heap.size rfl (.tmp 37) (.tmp 40) 34 4 (.bool false) 1 rfl Try.underlying34 info4 rfl (by decide) (by omega) u122008 x122008_1 ((rd_T114 l3 x18_1).f2) [.bool ((rd_T114 l3 x18_1).f2)] (fun _ => True) (fun _ => False) rfl (by first | (go_simp; done) | (go_simp; rfl)) ?aP (fun _ hk => hk.elim) ?aF ?aO ?aB ?aS ?aL ?_; (case aP => exact rfl); (case aB => exact (by repeat (first | (with_reducible first | exact HB.out | apply below_alloc | apply pw_below_drewN | apply below_drew1 | refine below_set ?_ GE119.out | refine below_set ?_ GE120.out | refine below_set ?_ GE121.out | refine below_set ?_ GE123.out) | exact HB.out))); (case aF => exact (fun _ _ => trivial)); (case aO => exact (by (with_reducible repeat (first | apply Kd.R_alloc | apply Kd.R_drewN | apply Kd.R_drew)); exact Kd.R_mono (Kd.R_far (p := ⟨gb121, 7, none⟩) (Kd.R_types HO_122008.out BK121.out (by decide)) (fun _ hk => hk.2) (.slice Ao32 y123.length co32)) (fun _ hk => trivial))); (case aS => exact (below_size (by repeat (first | (with_reducible first | exact HB.out | apply below_alloc | apply pw_below_drewN | apply below_drew1 | refine below_set ?_ GE119.out | refine below_set ?_ GE120.out | refine below_set ?_ GE121.out | refine below_set ?_ GE123.out) | exact HB.out)))); (case aL => have := LMc18.out; omega); intro v127 w35 ho hb hg hat; rw [← Ny126.out] at ho; have n0_ := Aside0.mk (blk_grown (g := gb119) (o := .cells #[.string a2_0, .string a2_1, .bool a2_2] 32 (0, 0)) (by (with_reducible repeat (first | refine blk_drewN ?_ _ | refine blk_drew ?_ | refine blk_alloc ?_ _)); refine blk_far ?_ NB119_121.out _; (with_reducible repeat (first | refine blk_drewN ?_ _ | refine blk_drew ?_ | refine blk_alloc ?_ _)); exact BK119.out) hg (Kd.R_ne HO_122008.out BK119.out (by decide))); have n1_ := Aside0.mk (blk_grown (g := gb120) (o := .cells #[.int .i64 0, .int .i64 0, .string (⟨#[]⟩ : ByteArray), .string (⟨#[]⟩ : ByteArray), .bool false, .bool false, .slice none 0 0, .slice none 0 0, .slice none 0 0, .slice none 0 0] 37 (0, 0)) (by (with_reducible repeat (first | refine blk_drewN ?_ _ | refine blk_drew ?_ | refine blk_alloc ?_ _)); refine blk_far ?_ NB120_121.out _; (with_reducible repeat (first | refine blk_drewN ?_ _ | refine blk_drew ?_ | refine blk_alloc ?_ _)); exact BK120.out) hg (Kd.R_ne HO_122008.out BK120.out (by decide))); have n2_ := Aside0.mk (blk_grown (g := gb121) (o := .cells #[.int .i64 a0, .int .i64 a1, .string a2_0, .string a2_1, .bool a2_2, .bool false, .slice Ao28 y120.length co28, .slice Ao32 y123.length co32, u122008, .slice none 0 0] 37 (0, 0)) (by (with_reducible repeat (first | refine blk_drewN ?_ _ | refine blk_drew ?_ | refine blk_alloc ?_ _)); refine blk_put (cs := #[.int .i64 a0, .int .i64 a1, .string a2_0, .string a2_1, .bool a2_2, .bool false, .slice Ao28 y120.length co28, u122007, u122008, .slice none 0 0]) ?_ 7 _ rfl; (with_reducible repeat (first | refine blk_drewN ?_ _ | refine blk_drew ?_ | refine blk_alloc ?_ _)); exact BK121.out) hg (Kd.R_ne HO_122008.out BK121.out (by decide))); have n3_ := Aside0.mk (blk_grown (g := gb123) (o := .cells #[.string ((rd_T114 l3 x18_1).f0), .string ((rd_T114 l3 x18_1).f1), .bool ((rd_T114 l3 x18_1).f2)] 114 (0, 0)) (by (with_reducible repeat (first | refine blk_drewN ?_ _ | refine blk_drew ?_ | refine blk_alloc ?_ _)); refine blk_far ?_ NB123_121.out _; (with_reducible repeat (first | refine blk_drewN ?_ _ | refine blk_drew ?_ | refine blk_alloc ?_ _)); exact BK123.out) hg (Kd.R_ne HO_122008.out BK123.out (by decide))); have n4_ := Aside0.mk (Kd.R_over' (by (with_reducible repeat (first | apply Kd.R_alloc | apply Kd.R_drewN | apply Kd.R_drew)); exact (Kd.R_mono (Kd.R_far (p := ⟨gb121, 7, none⟩) (Kd.R_types HO122.out BK121.out (by decide)) (fun _ hk => hk.2) (.slice Ao32 y123.length co32)) (fun _ h_ => h_.1))) (Kd.R_typed (by (with_reducible repeat (first | apply Kd.R_alloc | apply Kd.R_drewN | apply Kd.R_drew)); exact (Kd.R_mono (Kd.R_far (p := ⟨gb121, 7, none⟩) (Kd.R_types HO_122008.out BK121.out (by decide)) (fun _ hk => hk.2) (.slice Ao32 y123.length co32)) (fun _ h_ => h_.1)))) (by decide) hg); have n5_ := Aside0.mk (Kd.R_over' (by (with_reducible repeat (first | apply Kd.R_alloc | apply Kd.R_drewN | apply Kd.R_drew)); exact (Kd.R_mono (Kd.R_far (p := ⟨gb121, 7, none⟩) (Kd.R_types HO125.out BK121.out (by decide)) (fun _ hk => hk.2) (.slice Ao32 y123.length co32)) (fun _ h_ => h_.1))) (Kd.R_typed (by (with_reducible repeat (first | apply Kd.R_alloc | apply Kd.R_drewN | apply Kd.R_drew)); exact (Kd.R_mono (Kd.R_far (p := ⟨gb121, 7, none⟩) (Kd.R_types HO_122008.out BK121.out (by decide)) (fun _ hk => hk.2) (.slice Ao32 y123.length co32)) (fun _ h_ => h_.1)))) (by decide) hg); have n6_ := Aside0.mk (hb); have n7_ := Aside0.mk (ho); clear BK119; clear BK120; clear BK121; clear BK123; clear HO122; clear HO125; clear HB; clear HO_122008; have BK119 := n0_; have BK120 := n1_; have BK121 := n2_; have BK123 := n3_; have HO122 := n4_; have HO125 := n5_; have HB := n6_; have HO128 := n7_; clear n0_ n1_ n2_ n3_ n4_ n5_ n6_ n7_; clear ho hb hg hat; obtain ⟨Ao36, co36, eo36⟩ := Kd.R_slice HO128.out; subst eo36; have hcz37_0 : w35.cell? ⟨gb121, 0, none⟩ = some (.int .i64 a0) := (blk_cell BK121.out 0).trans rfl; have hcz37_1 : w35.cell? ⟨gb121, 1, none⟩ = some (.int .i64 a1) := (blk_cell BK121.out 1).trans rfl; have hcz37_2 : w35.cell? ⟨gb121, 2, none⟩ = some (.string a2_0) := (blk_cell BK121.out 2).trans rfl; have hcz37_3 : w35.cell? ⟨gb121, 3, none⟩ = some (.string a2_1) := (blk_cell BK121.out 3).trans rfl; have hcz37_4 : w35.cell? ⟨gb121, 4, none⟩ = some (.bool a2_2) := (blk_cell BK121.out 4).trans rfl; have hcz37_5 : w35.cell? ⟨gb121, 5, none⟩ = some (.bool false) := (blk_cell BK121.out 5).trans rfl; have hcz37_6 : w35.cell? ⟨gb121, 6, none⟩ = some (.slice Ao28 y120.length co28) := (blk_cell BK121.out 6).trans rfl; have hcz37_7 : w35.cell? ⟨gb121, 7, none⟩ = some (.slice Ao32 y123.length co32) := (blk_cell BK121.out 7).trans rfl; have hcz37_8 : w35.cell? ⟨gb121, 8, none⟩ = some (u122008) := (blk_cell BK121.out 8).trans rfl; have hcz37_9 : w35.cell? ⟨gb121, 9, none⟩ = some (.slice none 0 0) := (blk_cell BK121.out 9).trans rfl; have hfz37_0 := blk_frozen BK121.out 0; have hfz37_1 := blk_frozen BK121.out 1; have hfz37_2 := blk_frozen BK121.out 2; have hfz37_3 := blk_frozen BK121.out 3; have hfz37_4 := blk_frozen BK121.out 4; have hfz37_5 := blk_frozen BK121.out 5; have hfz37_6 := blk_frozen BK121.out 6; have hfz37_7 := blk_frozen BK121.out 7; have hfz37_8 := blk_frozen BK121.out 8; have hfz37_9 := blk_frozen BK121.out 9))
                  go_roundg k1
                  case measure => have := HK1.out; omega
                  case rel => exact ⟨(wrap64 (x18_1 + 1)), (y120), (y123), (y126), (.slice Ao28 y120.length co28), (.slice Ao32 y123.length co32), (.slice Ao36 y126.length co36), (by first | rfl | (simp; done) | (simp [*]; done)), H', ⟨by have := HK1.out; omega⟩, ⟨by (with_reducible repeat (first | apply Kd.R_alloc | apply Kd.R_drewN | apply Kd.R_drew)); exact Kd.R_mono (Kd.R_far (p := ⟨gb121, 8, none⟩) (Kd.R_types HO122.out BK121.out (by decide)) (fun _ hk => hk.2) (.slice Ao36 y126.length co36)) (fun _ hk => hk.1.2)⟩, ⟨by (with_reducible repeat (first | apply Kd.R_alloc | apply Kd.R_drewN | apply Kd.R_drew)); exact Kd.R_mono (Kd.R_far (p := ⟨gb121, 8, none⟩) (Kd.R_types HO125.out BK121.out (by decide)) (fun _ hk => hk.2) (.slice Ao36 y126.length co36)) (fun _ hk => hk.1)⟩, ⟨by (with_reducible repeat (first | apply Kd.R_alloc | apply Kd.R_drewN | apply Kd.R_drew)); exact Kd.R_mono (Kd.R_far (p := ⟨gb121, 8, none⟩) (Kd.R_types HO128.out BK121.out (by decide)) (fun _ hk => hk.2) (.slice Ao36 y126.length co36)) (fun _ hk => trivial)⟩, ⟨by (with_reducible repeat (first | refine blk_drewN ?_ _ | refine blk_drew ?_ | refine blk_alloc ?_ _)); refine blk_far ?_ NB119_121.out _; (with_reducible repeat (first | refine blk_drewN ?_ _ | refine blk_drew ?_ | refine blk_alloc ?_ _)); exact BK119.out⟩, ⟨by (with_reducible repeat (first | refine blk_drewN ?_ _ | refine blk_drew ?_ | refine blk_alloc ?_ _)); refine blk_far ?_ NB120_121.out _; (with_reducible repeat (first | refine blk_drewN ?_ _ | refine blk_drew ?_ | refine blk_alloc ?_ _)); exact BK120.out⟩, ⟨by (with_reducible repeat (first | refine blk_drewN ?_ _ | refine blk_drew ?_ | refine blk_alloc ?_ _)); refine blk_put (cs := #[.int .i64 a0, .int .i64 a1, .string a2_0, .string a2_1, .bool a2_2, .bool false, .slice Ao28 y120.length co28, .slice Ao32 y123.length co32, u122008, .slice none 0 0]) ?_ 8 _ rfl; (with_reducible repeat (first | refine blk_drewN ?_ _ | refine blk_drew ?_ | refine blk_alloc ?_ _)); exact BK121.out⟩, ⟨by repeat (first | (with_reducible first | exact HB.out | apply below_alloc | apply pw_below_drewN | apply below_drew1 | refine below_set ?_ GE119.out | refine below_set ?_ GE120.out | refine below_set ?_ GE121.out | refine below_set ?_ GE123.out) | exact HB.out)⟩⟩
                · rw [if_neg c18] at H
                  exact absurd H (by simp)
              · rw [if_neg c17] at H
                exact absurd H (by simp)
            · rw [if_neg c16] at H
              exact absurd H (by simp)
          · rw [if_neg c15] at H
            exact absurd H (by simp)
        · rw [if_neg c14] at H
          exact absurd H (by simp)
      · rw [if_neg c13] at H
        have c13b0 : decide (x18_1 < (l3.length : Int)) = false := decide_eq_false c13
        clear c13
        replace H := Option.bind_eq_some_iff.mp H
        obtain ⟨t129, A380, H⟩ := H
        replace H : (some (a0, a1, a2_0, a2_1, a2_2, false, x122006_1, x122007_1, x122008_1, t129)) = some (r1, r2, r3, r4, r5, r6, r7, r8, r9, r10) := H
        have A38 := Aside0.mk A380
        clear A380
        simp only [Option.some.injEq, Prod.mk.injEq] at H
        obtain ⟨rfl, rfl, rfl, rfl, rfl, rfl, rfl, rfl, rfl, rfl⟩ := H
        have hnb39 := NB121_119.out
        have hnc39 := NB119_121.out
        have hnb40 := NB121_120.out
        have hnc40 := NB120_121.out
        have hcz41_0 : wr.cell? ⟨gb121, 0, none⟩ = some (.int .i64 a0) := (blk_cell BK121.out 0).trans rfl
        have hcz41_1 : wr.cell? ⟨gb121, 1, none⟩ = some (.int .i64 a1) := (blk_cell BK121.out 1).trans rfl
        have hcz41_2 : wr.cell? ⟨gb121, 2, none⟩ = some (.string a2_0) := (blk_cell BK121.out 2).trans rfl
        have hcz41_3 : wr.cell? ⟨gb121, 3, none⟩ = some (.string a2_1) := (blk_cell BK121.out 3).trans rfl
        have hcz41_4 : wr.cell? ⟨gb121, 4, none⟩ = some (.bool a2_2) := (blk_cell BK121.out 4).trans rfl
        have hcz41_5 : wr.cell? ⟨gb121, 5, none⟩ = some (.bool false) := (blk_cell BK121.out 5).trans rfl
        have hcz41_6 : wr.cell? ⟨gb121, 6, none⟩ = some (u122006) := (blk_cell BK121.out 6).trans rfl
        have hcz41_7 : wr.cell? ⟨gb121, 7, none⟩ = some (u122007) := (blk_cell BK121.out 7).trans rfl
        have hcz41_8 : wr.cell? ⟨gb121, 8, none⟩ = some (u122008) := (blk_cell BK121.out 8).trans rfl
        have hcz41_9 : wr.cell? ⟨gb121, 9, none⟩ = some (.slice none 0 0) := (blk_cell BK121.out 9).trans rfl
        have hfz41_0 := blk_frozen BK121.out 0
        have hfz41_1 := blk_frozen BK121.out 1
        have hfz41_2 := blk_frozen BK121.out 2
        have hfz41_3 := blk_frozen BK121.out 3
        have hfz41_4 := blk_frozen BK121.out 4
        have hfz41_5 := blk_frozen BK121.out 5
        have hfz41_6 := blk_frozen BK121.out 6
        have hfz41_7 := blk_frozen BK121.out 7
        have hfz41_8 := blk_frozen BK121.out 8
        have hfz41_9 := blk_frozen BK121.out 9
        obtain ⟨Ao42, co42, eo42⟩ := Kd.R_slice HO_122006.out
        subst eo42
        go_wp2_with (first | ((with_reducible refine gate_callee (f := 85) rfl ?_); refine goesL_ (some 46) rfl rfl Try.func85 (by kernel_rfl) rfl #[.slice Ao42 x122006_1.length co42] rfl (by (try simp only [List.map_toArray, List.map_cons, List.map_nil]); first | done | rfl | (simp only [List.length_drop, List.length_take]; rfl)) ?_; (with_reducible refine (probe_Build.calls k1 _ _ x122006_1 t129 _ ?side1 ?side2 A38.out).mono ?_); (case side1 => repeat (first | exact (Kd.R_reads' HO_122006.out).2.2 | (with_reducible refine Kd.C_alloc ?_ _) | (with_reducible refine Kd.C_drewN ?_ _) | (with_reducible refine Kd.C_drew ?_))); (case side2 => exact (Kd.R_reads' HO_122006.out).2.1); rintro e w43 ⟨v130, rfl, ho0, hb⟩; refine ⟨_, rfl, ?_⟩; have n0_ := Aside0.mk (Kd.R_below (by (with_reducible repeat (first | apply Kd.R_alloc | apply Kd.R_drewN | apply Kd.R_drew)); exact HO_122006.out) hb); have n1_ := Aside0.mk (Kd.R_below (by (with_reducible repeat (first | apply Kd.R_alloc | apply Kd.R_drewN | apply Kd.R_drew)); exact HO_122007.out) hb); have n2_ := Aside0.mk (Kd.R_below (by (with_reducible repeat (first | apply Kd.R_alloc | apply Kd.R_drewN | apply Kd.R_drew)); exact HO_122008.out) hb); have n3_ := Aside0.mk (Kd.R_lower ho0 (below_size (by repeat (first | (with_reducible first | exact HB.out | apply below_alloc | apply pw_below_drewN | apply below_drew1 | refine below_set ?_ GE119.out | refine below_set ?_ GE120.out | refine below_set ?_ GE121.out) | exact HB.out)))); have n4_ := Aside0.mk (blk_below (g := gb119) (o := .cells #[.string a2_0, .string a2_1, .bool a2_2] 32 (0, 0)) (by (with_reducible repeat (first | refine blk_drewN ?_ _ | refine blk_drew ?_ | refine blk_alloc ?_ _)); exact BK119.out) hb); have n5_ := Aside0.mk (blk_below (g := gb120) (o := .cells #[.int .i64 0, .int .i64 0, .string (⟨#[]⟩ : ByteArray), .string (⟨#[]⟩ : ByteArray), .bool false, .bool false, .slice none 0 0, .slice none 0 0, .slice none 0 0, .slice none 0 0] 37 (0, 0)) (by (with_reducible repeat (first | refine blk_drewN ?_ _ | refine blk_drew ?_ | refine blk_alloc ?_ _)); exact BK120.out) hb); have n6_ := Aside0.mk (blk_below (g := gb121) (o := .cells #[.int .i64 a0, .int .i64 a1, .string a2_0, .string a2_1, .bool a2_2, .bool false, .slice Ao42 x122006_1.length co42, u122007, u122008, .slice none 0 0] 37 (0, 0)) (by (with_reducible repeat (first | refine blk_drewN ?_ _ | refine blk_drew ?_ | refine blk_alloc ?_ _)); exact BK121.out) hb); have n7_ := Aside0.mk (below_step (by repeat (first | (with_reducible first | exact HB.out | apply below_alloc | apply pw_below_drewN | apply below_drew1 | refine below_set ?_ GE119.out | refine below_set ?_ GE120.out | refine below_set ?_ GE121.out) | exact HB.out)) hb); clear HO_122006; clear HO_122007; clear HO_122008; clear BK119; clear BK120; clear BK121; clear HB; have HO_122006 := n0_; have HO_122007 := n1_; have HO_122008 := n2_; have HO131 := n3_; have BK119 := n4_; have BK120 := n5_; have BK121 := n6_; have HB := n7_; clear n0_ n1_ n2_ n3_ n4_ n5_ n6_ n7_; (try clear hb); (try clear hb2); (try clear hk); (try clear hi); (try clear ho0); obtain ⟨Ao44, co44, eo44⟩ := Kd.R_slice HO131.out; subst eo44; have hcz45_0 : w43.cell? ⟨gb121, 0, none⟩ = some (.int .i64 a0) := (blk_cell BK121.out 0).trans rfl; have hcz45_1 : w43.cell? ⟨gb121, 1, none⟩ = some (.int .i64 a1) := (blk_cell BK121.out 1).trans rfl; have hcz45_2 : w43.cell? ⟨gb121, 2, none⟩ = some (.string a2_0) := (blk_cell BK121.out 2).trans rfl; have hcz45_3 : w43.cell? ⟨gb121, 3, none⟩ = some (.string a2_1) := (blk_cell BK121.out 3).trans rfl; have hcz45_4 : w43.cell? ⟨gb121, 4, none⟩ = some (.bool a2_2) := (blk_cell BK121.out 4).trans rfl; have hcz45_5 : w43.cell? ⟨gb121, 5, none⟩ = some (.bool false) := (blk_cell BK121.out 5).trans rfl; have hcz45_6 : w43.cell? ⟨gb121, 6, none⟩ = some (.slice Ao42 x122006_1.length co42) := (blk_cell BK121.out 6).trans rfl; have hcz45_7 : w43.cell? ⟨gb121, 7, none⟩ = some (u122007) := (blk_cell BK121.out 7).trans rfl; have hcz45_8 : w43.cell? ⟨gb121, 8, none⟩ = some (u122008) := (blk_cell BK121.out 8).trans rfl; have hcz45_9 : w43.cell? ⟨gb121, 9, none⟩ = some (.slice none 0 0) := (blk_cell BK121.out 9).trans rfl; have hfz45_0 := blk_frozen BK121.out 0; have hfz45_1 := blk_frozen BK121.out 1; have hfz45_2 := blk_frozen BK121.out 2; have hfz45_3 := blk_frozen BK121.out 3; have hfz45_4 := blk_frozen BK121.out 4; have hfz45_5 := blk_frozen BK121.out 5; have hfz45_6 := blk_frozen BK121.out 6; have hfz45_7 := blk_frozen BK121.out 7; have hfz45_8 := blk_frozen BK121.out 8; have hfz45_9 := blk_frozen BK121.out 9; have hnb46 := NB120_119.out; have hnc46 := NB119_120.out; have hcz47_0 : w43.cell? ⟨gb120, 0, none⟩ = some (.int .i64 0) := (blk_cell BK120.out 0).trans rfl; have hcz47_1 : w43.cell? ⟨gb120, 1, none⟩ = some (.int .i64 0) := (blk_cell BK120.out 1).trans rfl; have hcz47_2 : w43.cell? ⟨gb120, 2, none⟩ = some (.string (⟨#[]⟩ : ByteArray)) := (blk_cell BK120.out 2).trans rfl; have hcz47_3 : w43.cell? ⟨gb120, 3, none⟩ = some (.string (⟨#[]⟩ : ByteArray)) := (blk_cell BK120.out 3).trans rfl; have hcz47_4 : w43.cell? ⟨gb120, 4, none⟩ = some (.bool false) := (blk_cell BK120.out 4).trans rfl; have hcz47_5 : w43.cell? ⟨gb120, 5, none⟩ = some (.bool false) := (blk_cell BK120.out 5).trans rfl; have hcz47_6 : w43.cell? ⟨gb120, 6, none⟩ = some (.slice none 0 0) := (blk_cell BK120.out 6).trans rfl; have hcz47_7 : w43.cell? ⟨gb120, 7, none⟩ = some (.slice none 0 0) := (blk_cell BK120.out 7).trans rfl; have hcz47_8 : w43.cell? ⟨gb120, 8, none⟩ = some (.slice none 0 0) := (blk_cell BK120.out 8).trans rfl; have hcz47_9 : w43.cell? ⟨gb120, 9, none⟩ = some (.slice none 0 0) := (blk_cell BK120.out 9).trans rfl; have hfz47_0 := blk_frozen BK120.out 0; have hfz47_1 := blk_frozen BK120.out 1; have hfz47_2 := blk_frozen BK120.out 2; have hfz47_3 := blk_frozen BK120.out 3; have hfz47_4 := blk_frozen BK120.out 4; have hfz47_5 := blk_frozen BK120.out 5; have hfz47_6 := blk_frozen BK120.out 6; have hfz47_7 := blk_frozen BK120.out 7; have hfz47_8 := blk_frozen BK120.out 8; have hfz47_9 := blk_frozen BK120.out 9; obtain ⟨Ao48, co48, eo48⟩ := Kd.R_slice HO_122007.out; subst eo48; obtain ⟨Ao49, co49, eo49⟩ := Kd.R_slice HO_122008.out; subst eo49))
        refine bodyPost_ret (results_cell_row rfl _ _ gb120 37 #[.int .i64 a0, .int .i64 a1, .string a2_0, .string a2_1, .bool a2_2, .bool false, .slice Ao42 x122006_1.length co42, .slice Ao48 x122007_1.length co48, .slice Ao49 x122008_1.length co49, .slice Ao44 t129.length co44] (0, 0) _ rfl (by (with_reducible repeat (first | refine blk_drewN ?_ _ | refine blk_drew ?_ | refine blk_alloc ?_ _)); refine blk_put (cs := #[.int .i64 a0, .int .i64 a1, .string a2_0, .string a2_1, .bool a2_2, .bool false, .slice Ao42 x122006_1.length co42, .slice Ao48 x122007_1.length co48, .slice Ao49 x122008_1.length co49, .slice none 0 0]) ?_ 9 _ rfl; (with_reducible repeat (first | refine blk_drewN ?_ _ | refine blk_drew ?_ | refine blk_alloc ?_ _)); refine blk_put (cs := #[.int .i64 a0, .int .i64 a1, .string a2_0, .string a2_1, .bool a2_2, .bool false, .slice Ao42 x122006_1.length co42, .slice Ao48 x122007_1.length co48, .slice none 0 0, .slice none 0 0]) ?_ 8 _ rfl; (with_reducible repeat (first | refine blk_drewN ?_ _ | refine blk_drew ?_ | refine blk_alloc ?_ _)); refine blk_put (cs := #[.int .i64 a0, .int .i64 a1, .string a2_0, .string a2_1, .bool a2_2, .bool false, .slice Ao42 x122006_1.length co42, .slice none 0 0, .slice none 0 0, .slice none 0 0]) ?_ 7 _ rfl; (with_reducible repeat (first | refine blk_drewN ?_ _ | refine blk_drew ?_ | refine blk_alloc ?_ _)); refine blk_put (cs := #[.int .i64 a0, .int .i64 a1, .string a2_0, .string a2_1, .bool a2_2, .bool false, .slice none 0 0, .slice none 0 0, .slice none 0 0, .slice none 0 0]) ?_ 6 _ rfl; (with_reducible repeat (first | refine blk_drewN ?_ _ | refine blk_drew ?_ | refine blk_alloc ?_ _)); refine blk_put (cs := #[.int .i64 a0, .int .i64 a1, .string a2_0, .string a2_1, .bool a2_2, .bool false, .slice none 0 0, .slice none 0 0, .slice none 0 0, .slice none 0 0]) ?_ 5 _ rfl; (with_reducible repeat (first | refine blk_drewN ?_ _ | refine blk_drew ?_ | refine blk_alloc ?_ _)); refine blk_put (cs := #[.int .i64 a0, .int .i64 a1, .string a2_0, .string a2_1, .bool false, .bool false, .slice none 0 0, .slice none 0 0, .slice none 0 0, .slice none 0 0]) ?_ 4 _ rfl; (with_reducible repeat (first | refine blk_drewN ?_ _ | refine blk_drew ?_ | refine blk_alloc ?_ _)); refine blk_put (cs := #[.int .i64 a0, .int .i64 a1, .string a2_0, .string (⟨#[]⟩ : ByteArray), .bool false, .bool false, .slice none 0 0, .slice none 0 0, .slice none 0 0, .slice none 0 0]) ?_ 3 _ rfl; (with_reducible repeat (first | refine blk_drewN ?_ _ | refine blk_drew ?_ | refine blk_alloc ?_ _)); refine blk_put (cs := #[.int .i64 a0, .int .i64 a1, .string (⟨#[]⟩ : ByteArray), .string (⟨#[]⟩ : ByteArray), .bool false, .bool false, .slice none 0 0, .slice none 0 0, .slice none 0 0, .slice none 0 0]) ?_ 2 _ rfl; (with_reducible repeat (first | refine blk_drewN ?_ _ | refine blk_drew ?_ | refine blk_alloc ?_ _)); refine blk_put (cs := #[.int .i64 a0, .int .i64 0, .string (⟨#[]⟩ : ByteArray), .string (⟨#[]⟩ : ByteArray), .bool false, .bool false, .slice none 0 0, .slice none 0 0, .slice none 0 0, .slice none 0 0]) ?_ 1 _ rfl; (with_reducible repeat (first | refine blk_drewN ?_ _ | refine blk_drew ?_ | refine blk_alloc ?_ _)); refine blk_put (cs := #[.int .i64 0, .int .i64 0, .string (⟨#[]⟩ : ByteArray), .string (⟨#[]⟩ : ByteArray), .bool false, .bool false, .slice none 0 0, .slice none 0 0, .slice none 0 0, .slice none 0 0]) ?_ 0 _ rfl; (with_reducible repeat (first | refine blk_drewN ?_ _ | refine blk_drew ?_ | refine blk_alloc ?_ _)); refine blk_far ?_ NB120_121.out _; (with_reducible repeat (first | refine blk_drewN ?_ _ | refine blk_drew ?_ | refine blk_alloc ?_ _)); exact BK120.out) Try.underlying37 rfl (by kernel_rfl)) rfl ?_
        exact ⟨_, _, _, _, by first | rfl | (simp [errW_none, errW_some] <;> rfl) | (simp [*, errW_none, errW_some] <;> rfl), by (with_reducible repeat (first | apply Kd.R_alloc | apply Kd.R_drewN | apply Kd.R_drew)); exact Kd.R_mono (Kd.R_far (p := ⟨gb120, 9, none⟩) (Kd.R_far (p := ⟨gb120, 8, none⟩) (Kd.R_far (p := ⟨gb120, 7, none⟩) (Kd.R_far (p := ⟨gb120, 6, none⟩) (Kd.R_far (p := ⟨gb120, 5, none⟩) (Kd.R_far (p := ⟨gb120, 4, none⟩) (Kd.R_far (p := ⟨gb120, 3, none⟩) (Kd.R_far (p := ⟨gb120, 2, none⟩) (Kd.R_far (p := ⟨gb120, 1, none⟩) (Kd.R_far (p := ⟨gb120, 0, none⟩) (Kd.R_far (p := ⟨gb121, 9, none⟩) (Kd.R_types (Kd.R_types HO_122006.out BK121.out (by decide)) BK120.out (by decide)) (fun _ hk => hk.1.2) (.slice Ao44 t129.length co44)) (fun _ hk => hk.2) (.int .i64 a0)) (fun _ hk => hk.2) (.int .i64 a1)) (fun _ hk => hk.2) (.string a2_0)) (fun _ hk => hk.2) (.string a2_1)) (fun _ hk => hk.2) (.bool a2_2)) (fun _ hk => hk.2) (.bool false)) (fun _ hk => hk.2) (.slice Ao42 x122006_1.length co42)) (fun _ hk => hk.2) (.slice Ao48 x122007_1.length co48)) (fun _ hk => hk.2) (.slice Ao49 x122008_1.length co49)) (fun _ hk => hk.2) (.slice Ao44 t129.length co44)) (fun _ hk => hk.1.1), by (with_reducible repeat (first | apply Kd.R_alloc | apply Kd.R_drewN | apply Kd.R_drew)); exact Kd.R_mono (Kd.R_far (p := ⟨gb120, 9, none⟩) (Kd.R_far (p := ⟨gb120, 8, none⟩) (Kd.R_far (p := ⟨gb120, 7, none⟩) (Kd.R_far (p := ⟨gb120, 6, none⟩) (Kd.R_far (p := ⟨gb120, 5, none⟩) (Kd.R_far (p := ⟨gb120, 4, none⟩) (Kd.R_far (p := ⟨gb120, 3, none⟩) (Kd.R_far (p := ⟨gb120, 2, none⟩) (Kd.R_far (p := ⟨gb120, 1, none⟩) (Kd.R_far (p := ⟨gb120, 0, none⟩) (Kd.R_far (p := ⟨gb121, 9, none⟩) (Kd.R_types (Kd.R_types HO_122007.out BK121.out (by decide)) BK120.out (by decide)) (fun _ hk => hk.1.2) (.slice Ao44 t129.length co44)) (fun _ hk => hk.2) (.int .i64 a0)) (fun _ hk => hk.2) (.int .i64 a1)) (fun _ hk => hk.2) (.string a2_0)) (fun _ hk => hk.2) (.string a2_1)) (fun _ hk => hk.2) (.bool a2_2)) (fun _ hk => hk.2) (.bool false)) (fun _ hk => hk.2) (.slice Ao42 x122006_1.length co42)) (fun _ hk => hk.2) (.slice Ao48 x122007_1.length co48)) (fun _ hk => hk.2) (.slice Ao49 x122008_1.length co49)) (fun _ hk => hk.2) (.slice Ao44 t129.length co44)) (fun _ hk => hk.1.1), by (with_reducible repeat (first | apply Kd.R_alloc | apply Kd.R_drewN | apply Kd.R_drew)); exact Kd.R_mono (Kd.R_far (p := ⟨gb120, 9, none⟩) (Kd.R_far (p := ⟨gb120, 8, none⟩) (Kd.R_far (p := ⟨gb120, 7, none⟩) (Kd.R_far (p := ⟨gb120, 6, none⟩) (Kd.R_far (p := ⟨gb120, 5, none⟩) (Kd.R_far (p := ⟨gb120, 4, none⟩) (Kd.R_far (p := ⟨gb120, 3, none⟩) (Kd.R_far (p := ⟨gb120, 2, none⟩) (Kd.R_far (p := ⟨gb120, 1, none⟩) (Kd.R_far (p := ⟨gb120, 0, none⟩) (Kd.R_far (p := ⟨gb121, 9, none⟩) (Kd.R_types (Kd.R_types HO_122008.out BK121.out (by decide)) BK120.out (by decide)) (fun _ hk => hk.1.2) (.slice Ao44 t129.length co44)) (fun _ hk => hk.2) (.int .i64 a0)) (fun _ hk => hk.2) (.int .i64 a1)) (fun _ hk => hk.2) (.string a2_0)) (fun _ hk => hk.2) (.string a2_1)) (fun _ hk => hk.2) (.bool a2_2)) (fun _ hk => hk.2) (.bool false)) (fun _ hk => hk.2) (.slice Ao42 x122006_1.length co42)) (fun _ hk => hk.2) (.slice Ao48 x122007_1.length co48)) (fun _ hk => hk.2) (.slice Ao49 x122008_1.length co49)) (fun _ hk => hk.2) (.slice Ao44 t129.length co44)) (fun _ hk => trivial), by (with_reducible repeat (first | apply Kd.R_alloc | apply Kd.R_drewN | apply Kd.R_drew)); exact Kd.R_mono (Kd.R_far (p := ⟨gb120, 9, none⟩) (Kd.R_far (p := ⟨gb120, 8, none⟩) (Kd.R_far (p := ⟨gb120, 7, none⟩) (Kd.R_far (p := ⟨gb120, 6, none⟩) (Kd.R_far (p := ⟨gb120, 5, none⟩) (Kd.R_far (p := ⟨gb120, 4, none⟩) (Kd.R_far (p := ⟨gb120, 3, none⟩) (Kd.R_far (p := ⟨gb120, 2, none⟩) (Kd.R_far (p := ⟨gb120, 1, none⟩) (Kd.R_far (p := ⟨gb120, 0, none⟩) (Kd.R_far (p := ⟨gb121, 9, none⟩) (Kd.R_types (Kd.R_types HO131.out BK121.out (by decide)) BK120.out (by decide)) (fun _ hk => hk.1.2) (.slice Ao44 t129.length co44)) (fun _ hk => hk.2) (.int .i64 a0)) (fun _ hk => hk.2) (.int .i64 a1)) (fun _ hk => hk.2) (.string a2_0)) (fun _ hk => hk.2) (.string a2_1)) (fun _ hk => hk.2) (.bool a2_2)) (fun _ hk => hk.2) (.bool false)) (fun _ hk => hk.2) (.slice Ao42 x122006_1.length co42)) (fun _ hk => hk.2) (.slice Ao48 x122007_1.length co48)) (fun _ hk => hk.2) (.slice Ao49 x122008_1.length co49)) (fun _ hk => hk.2) (.slice Ao44 t129.length co44)) (fun _ hk => trivial), by repeat (first | (with_reducible first | exact HB.out | apply below_alloc | apply pw_below_drewN | apply below_drew1 | refine below_set ?_ GE119.out | refine below_set ?_ GE120.out | refine below_set ?_ GE121.out) | exact HB.out)⟩
/-! ### rev_New: function 16 -/
def rev_New.f (k : Nat) (a0 : Int) (a1 : Int) (a2_0 : ByteArray) (a2_1 : ByteArray) (a2_2 : Bool) (l3 : List (S114)) : Option (Int × Int × ByteArray × ByteArray × Bool × Bool × List ByteArray × List ByteArray × List Bool × List Int × Int) := (rev_rises.f k a2_0 a2_1 a2_2 l3).bind fun t134 => (if t134 = true then ((rev_laid.f k a0 a1 a2_0 a2_1 a2_2 l3).bind fun bt135 => (some (bt135.1, bt135.2.1, bt135.2.2.1, bt135.2.2.2.1, bt135.2.2.2.2.1, bt135.2.2.2.2.2.1, bt135.2.2.2.2.2.2.1, bt135.2.2.2.2.2.2.2.1, bt135.2.2.2.2.2.2.2.2.1, bt135.2.2.2.2.2.2.2.2.2, 0))) else (some (0, 0, (⟨#[]⟩ : ByteArray), (⟨#[]⟩ : ByteArray), false, false, ([] : List ByteArray), ([] : List ByteArray), ([] : List Bool), ([] : List Int), 1)))
theorem rev_New.mono : ∀ a0 a1 a2 a3 a4 a5 k, LeO (rev_New.f k a0 a1 a2 a3 a4 a5) (rev_New.f (k + 1) a0 a1 a2 a3 a4 a5) := by
  intro a0 a1 a2 a3 a4 a5 k
  unfold rev_New.f
  repeat' first
      | (with_reducible exact rev_laid.mono _ _ _ _ _ _ _)
      | (with_reducible exact rev_rises.mono _ _ _ _ _)
      | (with_reducible exact LeO.refl _)
      | (with_reducible exact LeO.none _)
      | (with_reducible refine LeO.ite ?_ ?_)
      | (with_reducible refine LeO.bind ?_ (fun _ => ?_))
      | exact rev_laid.mono _ _ _ _ _ _ _
      | exact rev_rises.mono _ _ _ _ _
      | exact LeO.none _
      | refine LeO.ite ?_ ?_
      | refine LeO.bind ?_ (fun _ => ?_)
set_option maxHeartbeats 8000000 in
set_option maxRecDepth 100000 in
theorem rev_New.calls (k : Nat) (a0 : Int) (a1 : Int) (a2_0 : ByteArray) (a2_1 : ByteArray) (a2_2 : Bool) (A3 : Option Addr) (c3 : Nat) (l3 : List (S114)) (r1 : Int) (r2 : Int) (r3 : ByteArray) (r4 : ByteArray) (r5 : Bool) (r6 : Bool) (r7 : List ByteArray) (r8 : List ByteArray) (r9 : List Bool) (r10 : List Int) (r11 : Int) (w : World) (hr3 : Kd.C k114 w A3 l3.length l3) (hc3 : l3.length ≤ c3) (h : rev_New.f k a0 a1 a2_0 a2_1 a2_2 l3 = some (r1, r2, r3, r4, r5, r6, r7, r8, r9, r10, r11)) :
    Calls Try.prog 16 #[.int .i64 a0, .int .i64 a1, .agg #[.string a2_0, .string a2_1, .bool a2_2], .slice A3 l3.length c3] w fun e w' => ∃ v6_ v7_ v8_ v9_ : Value, e = .returned (.tuple #[.agg #[.int .i64 r1, .int .i64 r2, .string r3, .string r4, .bool r5, .bool r6, v6_, v7_, v8_, v9_], .int .i64 r11]) ∧ Kd.R Kd.string 9 w' w.heap.size (fun k_ => some k_ ≠ (v7_ : Value).ownBlock) v6_ r7 ∧ Kd.R Kd.string 9 w' w.heap.size (fun k_ => some k_ ≠ (v6_ : Value).ownBlock) v7_ r8 ∧ Kd.R Kd.bool 4 w' w.heap.size (fun _ => True) v8_ r9 ∧ Kd.R (Kd.int .i64) 3 w' w.heap.size (fun _ => True) v9_ r10 ∧ Below w.heap.size w w' := by
  have hu32 := Try.underlying32
  have hu37 := Try.underlying37
  have HR3 := Aside0.mk hr3
  have HC3 := Aside0.mk hc3
  clear hr3 hc3
  have HB := Aside0.mk (Below.refl w.heap.size w)
  have H : ((rev_rises.f k a2_0 a2_1 a2_2 l3).bind fun t134 => (if t134 = true then ((rev_laid.f k a0 a1 a2_0 a2_1 a2_2 l3).bind fun bt135 => (some (bt135.1, bt135.2.1, bt135.2.2.1, bt135.2.2.2.1, bt135.2.2.2.2.1, bt135.2.2.2.2.2.1, bt135.2.2.2.2.2.2.1, bt135.2.2.2.2.2.2.2.1, bt135.2.2.2.2.2.2.2.2.1, bt135.2.2.2.2.2.2.2.2.2, 0))) else (some (0, 0, (⟨#[]⟩ : ByteArray), (⟨#[]⟩ : ByteArray), false, false, ([] : List ByteArray), ([] : List ByteArray), ([] : List Bool), ([] : List Int), 1)))) = some (r1, r2, r3, r4, r5, r6, r7, r8, r9, r10, r11) := h
  clear h
  replace H := Option.bind_eq_some_iff.mp H
  obtain ⟨t134, A50, H⟩ := H
  replace H : (if t134 = true then ((rev_laid.f k a0 a1 a2_0 a2_1 a2_2 l3).bind fun bt135 => (some (bt135.1, bt135.2.1, bt135.2.2.1, bt135.2.2.2.1, bt135.2.2.2.2.1, bt135.2.2.2.2.2.1, bt135.2.2.2.2.2.2.1, bt135.2.2.2.2.2.2.2.1, bt135.2.2.2.2.2.2.2.2.1, bt135.2.2.2.2.2.2.2.2.2, 0))) else (some (0, 0, (⟨#[]⟩ : ByteArray), (⟨#[]⟩ : ByteArray), false, false, ([] : List ByteArray), ([] : List ByteArray), ([] : List Bool), ([] : List Int), 1))) = some (r1, r2, r3, r4, r5, r6, r7, r8, r9, r10, r11) := H
  have A5 := Aside0.mk A50
  clear A50
  by_cases c6 : t134 = true
  · subst c6
    have H1 : ((rev_laid.f k a0 a1 a2_0 a2_1 a2_2 l3).bind fun bt135 => (some (bt135.1, bt135.2.1, bt135.2.2.1, bt135.2.2.2.1, bt135.2.2.2.2.1, bt135.2.2.2.2.2.1, bt135.2.2.2.2.2.2.1, bt135.2.2.2.2.2.2.2.1, bt135.2.2.2.2.2.2.2.2.1, bt135.2.2.2.2.2.2.2.2.2, 0))) = some (r1, r2, r3, r4, r5, r6, r7, r8, r9, r10, r11) := by rw [if_pos rfl] at H; exact H
    clear H
    have H := H1
    clear H1
    replace H := Option.bind_eq_some_iff.mp H
    obtain ⟨⟨t135, t136, t137, t138, t139, t140, t141, t144, t147, t150⟩, A70, H⟩ := H
    replace H : (some (t135, t136, t137, t138, t139, t140, t141, t144, t147, t150, 0)) = some (r1, r2, r3, r4, r5, r6, r7, r8, r9, r10, r11) := H
    have A7 := Aside0.mk A70
    clear A70
    simp only [Option.some.injEq, Prod.mk.injEq] at H
    obtain ⟨rfl, rfl, rfl, rfl, rfl, rfl, rfl, rfl, rfl, rfl, rfl⟩ := H
    go_enter Try.func16, Try.ntmps16
    go_wp2_with (first | ((with_reducible refine gate_dst (N := 6) rfl ?_); refine box_event ?hg (N := 6) ?hd (cs := #[.string a2_0, .string a2_1, .bool a2_2]) (t := 32) ?hr ?_; (case hd => rfl); (case hg => rfl); (case hr => first | (go_simp; done) | (go_simp; rfl)); intro gb132 hg w8 hbox hb; have n0_ := Aside0.mk (below_step (by repeat (first | (with_reducible first | exact HB.out | apply below_alloc | apply pw_below_drewN | apply below_drew1) | exact HB.out)) hb); have n1_ := Aside0.mk (hbox); have n2_ := Aside0.mk ((by rw [hg]; exact (below_size (by repeat (first | (with_reducible first | exact HB.out | apply below_alloc | apply pw_below_drewN | apply below_drew1) | exact HB.out))) : w.heap.size ≤ gb132)); have n3_ := Aside0.mk ((by rw [hg]; exact (below_size (by repeat (first | (with_reducible first | exact HB.out | apply below_alloc | apply pw_below_drewN | apply below_drew1) | exact HB.out))) : w.heap.size ≤ gb132)); clear HB; have HB := n0_; have BK132 := n1_; have GW132 := n2_; have GE132 := n3_; clear n0_ n1_ n2_ n3_; clear hb hbox hg) | ((with_reducible refine gate_dst (N := 8) rfl ?_); refine box_event ?hg (N := 8) ?hd (cs := #[.int .i64 0, .int .i64 0, .string (⟨#[]⟩ : ByteArray), .string (⟨#[]⟩ : ByteArray), .bool false, .bool false, .slice none 0 0, .slice none 0 0, .slice none 0 0, .slice none 0 0]) (t := 37) ?hr ?_; (case hd => rfl); (case hg => rfl); (case hr => first | (go_simp; done) | (go_simp; rfl)); intro gb133 hg w9 hbox hb; have n0_ := Aside0.mk (blk_below (g := gb132) (o := .cells #[.string a2_0, .string a2_1, .bool a2_2] 32 (0, 0)) (by (with_reducible repeat (first | refine blk_drewN ?_ _ | refine blk_drew ?_ | refine blk_alloc ?_ _)); exact BK132.out) hb); have n1_ := Aside0.mk (below_step (by repeat (first | (with_reducible first | exact HB.out | apply below_alloc | apply pw_below_drewN | apply below_drew1 | refine below_set ?_ GE132.out) | exact HB.out)) hb); have n2_ := Aside0.mk (hbox); have n3_ := Aside0.mk ((by rw [hg]; exact (below_size (by repeat (first | (with_reducible first | exact HB.out | apply below_alloc | apply pw_below_drewN | apply below_drew1 | refine below_set ?_ GE132.out) | exact HB.out))) : w.heap.size ≤ gb133)); have n4_ := Aside0.mk ((by rw [hg]; exact (below_size (by repeat (first | (with_reducible first | exact HB.out | apply below_alloc | apply pw_below_drewN | apply below_drew1 | refine below_set ?_ GE132.out) | exact HB.out))) : w.heap.size ≤ gb133)); have n5_ := Aside0.mk ((by rw [hg]; exact Nat.ne_of_lt (blk_lt (g := gb132) (o := .cells #[.string a2_0, .string a2_1, .bool a2_2] 32 (0, 0)) (by (with_reducible repeat (first | refine blk_drewN ?_ _ | refine blk_drew ?_ | refine blk_alloc ?_ _)); exact BK132.out)) : gb132 ≠ gb133)); have n6_ := Aside0.mk ((by rw [hg]; exact Nat.ne_of_gt (blk_lt (g := gb132) (o := .cells #[.string a2_0, .string a2_1, .bool a2_2] 32 (0, 0)) (by (with_reducible repeat (first | refine blk_drewN ?_ _ | refine blk_drew ?_ | refine blk_alloc ?_ _)); exact BK132.out)) : gb133 ≠ gb132)); clear BK132; clear HB; have BK132 := n0_; have HB := n1_; have BK133 := n2_; have GW133 := n3_; have GE133 := n4_; have NB132_133 := n5_; have NB133_132 := n6_; clear n0_ n1_ n2_ n3_ n4_ n5_ n6_; clear hb hbox hg; have hnb10 := NB132_133.out; have hnc10 := NB133_132.out; have hcz11_0 : w9.cell? ⟨gb132, 0, none⟩ = some (.string a2_0) := (blk_cell BK132.out 0).trans rfl; have hcz11_1 : w9.cell? ⟨gb132, 1, none⟩ = some (.string a2_1) := (blk_cell BK132.out 1).trans rfl; have hcz11_2 : w9.cell? ⟨gb132, 2, none⟩ = some (.bool a2_2) := (blk_cell BK132.out 2).trans rfl; have hfz11_0 := blk_frozen BK132.out 0; have hfz11_1 := blk_frozen BK132.out 1; have hfz11_2 := blk_frozen BK132.out 2) | ((with_reducible refine gate_callee (f := 54) rfl ?_); refine goesL_ (some 12) rfl rfl Try.func54 (by kernel_rfl) rfl #[.agg #[.string a2_0, .string a2_1, .bool a2_2], .slice A3 l3.length c3] rfl (by (try simp only [List.map_toArray, List.map_cons, List.map_nil]); first | done | rfl | (simp only [List.length_drop, List.length_take]; rfl)) ?_; (with_reducible refine (rev_rises.calls k a2_0 a2_1 a2_2 _ _ l3 true _ ?side1 ?side2 A5.out).mono ?_); (case side1 => repeat (first | exact (Kd.C_below HR3.out HB.out) | (with_reducible refine Kd.C_alloc ?_ _) | (with_reducible refine Kd.C_drewN ?_ _) | (with_reducible refine Kd.C_drew ?_))); (case side2 => exact HC3.out); rintro e w12 ⟨rfl, hb⟩; refine ⟨_, rfl, ?_⟩; have n0_ := Aside0.mk (blk_below (g := gb132) (o := .cells #[.string a2_0, .string a2_1, .bool a2_2] 32 (0, 0)) (by (with_reducible repeat (first | refine blk_drewN ?_ _ | refine blk_drew ?_ | refine blk_alloc ?_ _)); exact BK132.out) hb); have n1_ := Aside0.mk (blk_below (g := gb133) (o := .cells #[.int .i64 0, .int .i64 0, .string (⟨#[]⟩ : ByteArray), .string (⟨#[]⟩ : ByteArray), .bool false, .bool false, .slice none 0 0, .slice none 0 0, .slice none 0 0, .slice none 0 0] 37 (0, 0)) (by (with_reducible repeat (first | refine blk_drewN ?_ _ | refine blk_drew ?_ | refine blk_alloc ?_ _)); exact BK133.out) hb); have n2_ := Aside0.mk (below_step (by repeat (first | (with_reducible first | exact HB.out | apply below_alloc | apply pw_below_drewN | apply below_drew1 | refine below_set ?_ GE132.out | refine below_set ?_ GE133.out) | exact HB.out)) hb); clear BK132; clear BK133; clear HB; have BK132 := n0_; have BK133 := n1_; have HB := n2_; clear n0_ n1_ n2_; (try clear hb); (try clear hb2); (try clear hk); (try clear hi); have hcz13_0 : w12.cell? ⟨gb132, 0, none⟩ = some (.string a2_0) := (blk_cell BK132.out 0).trans rfl; have hcz13_1 : w12.cell? ⟨gb132, 1, none⟩ = some (.string a2_1) := (blk_cell BK132.out 1).trans rfl; have hcz13_2 : w12.cell? ⟨gb132, 2, none⟩ = some (.bool a2_2) := (blk_cell BK132.out 2).trans rfl; have hfz13_0 := blk_frozen BK132.out 0; have hfz13_1 := blk_frozen BK132.out 1; have hfz13_2 := blk_frozen BK132.out 2) | ((with_reducible refine gate_callee (f := 55) rfl ?_); refine goesL_ (some 19) rfl rfl Try.func55 (by kernel_rfl) rfl #[.int .i64 a0, .int .i64 a1, .agg #[.string a2_0, .string a2_1, .bool a2_2], .slice A3 l3.length c3] rfl (by (try simp only [List.map_toArray, List.map_cons, List.map_nil]); first | done | rfl | (simp only [List.length_drop, List.length_take]; rfl)) ?_; (with_reducible refine (rev_laid.calls k a0 a1 a2_0 a2_1 a2_2 _ _ l3 t135 t136 t137 t138 t139 t140 t141 t144 t147 t150 _ ?side1 ?side2 A7.out).mono ?_); (case side1 => repeat (first | exact (Kd.C_below HR3.out HB.out) | (with_reducible refine Kd.C_alloc ?_ _) | (with_reducible refine Kd.C_drewN ?_ _) | (with_reducible refine Kd.C_drew ?_))); (case side2 => exact HC3.out); rintro e w14 ⟨v142, v145, v148, v151, rfl, ho0, ho1, ho2, ho3, hb⟩; refine ⟨_, rfl, ?_⟩; have n0_ := Aside0.mk (Kd.R_lower ho0 (below_size (by repeat (first | (with_reducible first | exact HB.out | apply below_alloc | apply pw_below_drewN | apply below_drew1 | refine below_set ?_ GE132.out | refine below_set ?_ GE133.out) | exact HB.out)))); have n1_ := Aside0.mk (Kd.R_lower ho1 (below_size (by repeat (first | (with_reducible first | exact HB.out | apply below_alloc | apply pw_below_drewN | apply below_drew1 | refine below_set ?_ GE132.out | refine below_set ?_ GE133.out) | exact HB.out)))); have n2_ := Aside0.mk (Kd.R_lower ho2 (below_size (by repeat (first | (with_reducible first | exact HB.out | apply below_alloc | apply pw_below_drewN | apply below_drew1 | refine below_set ?_ GE132.out | refine below_set ?_ GE133.out) | exact HB.out)))); have n3_ := Aside0.mk (Kd.R_lower ho3 (below_size (by repeat (first | (with_reducible first | exact HB.out | apply below_alloc | apply pw_below_drewN | apply below_drew1 | refine below_set ?_ GE132.out | refine below_set ?_ GE133.out) | exact HB.out)))); have n4_ := Aside0.mk (blk_below (g := gb132) (o := .cells #[.string a2_0, .string a2_1, .bool a2_2] 32 (0, 0)) (by (with_reducible repeat (first | refine blk_drewN ?_ _ | refine blk_drew ?_ | refine blk_alloc ?_ _)); exact BK132.out) hb); have n5_ := Aside0.mk (blk_below (g := gb133) (o := .cells #[.int .i64 0, .int .i64 0, .string (⟨#[]⟩ : ByteArray), .string (⟨#[]⟩ : ByteArray), .bool false, .bool false, .slice none 0 0, .slice none 0 0, .slice none 0 0, .slice none 0 0] 37 (0, 0)) (by (with_reducible repeat (first | refine blk_drewN ?_ _ | refine blk_drew ?_ | refine blk_alloc ?_ _)); exact BK133.out) hb); have n6_ := Aside0.mk (below_step (by repeat (first | (with_reducible first | exact HB.out | apply below_alloc | apply pw_below_drewN | apply below_drew1 | refine below_set ?_ GE132.out | refine below_set ?_ GE133.out) | exact HB.out)) hb); clear BK132; clear BK133; clear HB; have HO143 := n0_; have HO146 := n1_; have HO149 := n2_; have HO152 := n3_; have BK132 := n4_; have BK133 := n5_; have HB := n6_; clear n0_ n1_ n2_ n3_ n4_ n5_ n6_; (try clear hb); (try clear hb2); (try clear hk); (try clear hi); (try clear ho0); (try clear ho1); (try clear ho2); (try clear ho3); have hcz15_0 : w14.cell? ⟨gb133, 0, none⟩ = some (.int .i64 0) := (blk_cell BK133.out 0).trans rfl; have hcz15_1 : w14.cell? ⟨gb133, 1, none⟩ = some (.int .i64 0) := (blk_cell BK133.out 1).trans rfl; have hcz15_2 : w14.cell? ⟨gb133, 2, none⟩ = some (.string (⟨#[]⟩ : ByteArray)) := (blk_cell BK133.out 2).trans rfl; have hcz15_3 : w14.cell? ⟨gb133, 3, none⟩ = some (.string (⟨#[]⟩ : ByteArray)) := (blk_cell BK133.out 3).trans rfl; have hcz15_4 : w14.cell? ⟨gb133, 4, none⟩ = some (.bool false) := (blk_cell BK133.out 4).trans rfl; have hcz15_5 : w14.cell? ⟨gb133, 5, none⟩ = some (.bool false) := (blk_cell BK133.out 5).trans rfl; have hcz15_6 : w14.cell? ⟨gb133, 6, none⟩ = some (.slice none 0 0) := (blk_cell BK133.out 6).trans rfl; have hcz15_7 : w14.cell? ⟨gb133, 7, none⟩ = some (.slice none 0 0) := (blk_cell BK133.out 7).trans rfl; have hcz15_8 : w14.cell? ⟨gb133, 8, none⟩ = some (.slice none 0 0) := (blk_cell BK133.out 8).trans rfl; have hcz15_9 : w14.cell? ⟨gb133, 9, none⟩ = some (.slice none 0 0) := (blk_cell BK133.out 9).trans rfl; have hfz15_0 := blk_frozen BK133.out 0; have hfz15_1 := blk_frozen BK133.out 1; have hfz15_2 := blk_frozen BK133.out 2; have hfz15_3 := blk_frozen BK133.out 3; have hfz15_4 := blk_frozen BK133.out 4; have hfz15_5 := blk_frozen BK133.out 5; have hfz15_6 := blk_frozen BK133.out 6; have hfz15_7 := blk_frozen BK133.out 7; have hfz15_8 := blk_frozen BK133.out 8; have hfz15_9 := blk_frozen BK133.out 9; obtain ⟨Ao16, co16, eo16⟩ := Kd.R_slice HO143.out; subst eo16; obtain ⟨Ao17, co17, eo17⟩ := Kd.R_slice HO146.out; subst eo17; obtain ⟨Ao18, co18, eo18⟩ := Kd.R_slice HO149.out; subst eo18; obtain ⟨Ao19, co19, eo19⟩ := Kd.R_slice HO152.out; subst eo19))
    refine bodyPost_ret (results_ct rfl _ _ gb133 37 #[.int .i64 t135, .int .i64 t136, .string t137, .string t138, .bool t139, .bool t140, .slice Ao16 t141.length co16, .slice Ao17 t144.length co17, .slice Ao18 t147.length co18, .slice Ao19 t150.length co19] (0, 0) _ rfl (by (with_reducible repeat (first | refine blk_drewN ?_ _ | refine blk_drew ?_ | refine blk_alloc ?_ _)); refine blk_put (cs := #[.int .i64 t135, .int .i64 t136, .string t137, .string t138, .bool t139, .bool t140, .slice Ao16 t141.length co16, .slice Ao17 t144.length co17, .slice Ao18 t147.length co18, .slice none 0 0]) ?_ 9 _ rfl; (with_reducible repeat (first | refine blk_drewN ?_ _ | refine blk_drew ?_ | refine blk_alloc ?_ _)); refine blk_put (cs := #[.int .i64 t135, .int .i64 t136, .string t137, .string t138, .bool t139, .bool t140, .slice Ao16 t141.length co16, .slice Ao17 t144.length co17, .slice none 0 0, .slice none 0 0]) ?_ 8 _ rfl; (with_reducible repeat (first | refine blk_drewN ?_ _ | refine blk_drew ?_ | refine blk_alloc ?_ _)); refine blk_put (cs := #[.int .i64 t135, .int .i64 t136, .string t137, .string t138, .bool t139, .bool t140, .slice Ao16 t141.length co16, .slice none 0 0, .slice none 0 0, .slice none 0 0]) ?_ 7 _ rfl; (with_reducible repeat (first | refine blk_drewN ?_ _ | refine blk_drew ?_ | refine blk_alloc ?_ _)); refine blk_put (cs := #[.int .i64 t135, .int .i64 t136, .string t137, .string t138, .bool t139, .bool t140, .slice none 0 0, .slice none 0 0, .slice none 0 0, .slice none 0 0]) ?_ 6 _ rfl; (with_reducible repeat (first | refine blk_drewN ?_ _ | refine blk_drew ?_ | refine blk_alloc ?_ _)); refine blk_put (cs := #[.int .i64 t135, .int .i64 t136, .string t137, .string t138, .bool t139, .bool false, .slice none 0 0, .slice none 0 0, .slice none 0 0, .slice none 0 0]) ?_ 5 _ rfl; (with_reducible repeat (first | refine blk_drewN ?_ _ | refine blk_drew ?_ | refine blk_alloc ?_ _)); refine blk_put (cs := #[.int .i64 t135, .int .i64 t136, .string t137, .string t138, .bool false, .bool false, .slice none 0 0, .slice none 0 0, .slice none 0 0, .slice none 0 0]) ?_ 4 _ rfl; (with_reducible repeat (first | refine blk_drewN ?_ _ | refine blk_drew ?_ | refine blk_alloc ?_ _)); refine blk_put (cs := #[.int .i64 t135, .int .i64 t136, .string t137, .string (⟨#[]⟩ : ByteArray), .bool false, .bool false, .slice none 0 0, .slice none 0 0, .slice none 0 0, .slice none 0 0]) ?_ 3 _ rfl; (with_reducible repeat (first | refine blk_drewN ?_ _ | refine blk_drew ?_ | refine blk_alloc ?_ _)); refine blk_put (cs := #[.int .i64 t135, .int .i64 t136, .string (⟨#[]⟩ : ByteArray), .string (⟨#[]⟩ : ByteArray), .bool false, .bool false, .slice none 0 0, .slice none 0 0, .slice none 0 0, .slice none 0 0]) ?_ 2 _ rfl; (with_reducible repeat (first | refine blk_drewN ?_ _ | refine blk_drew ?_ | refine blk_alloc ?_ _)); refine blk_put (cs := #[.int .i64 t135, .int .i64 0, .string (⟨#[]⟩ : ByteArray), .string (⟨#[]⟩ : ByteArray), .bool false, .bool false, .slice none 0 0, .slice none 0 0, .slice none 0 0, .slice none 0 0]) ?_ 1 _ rfl; (with_reducible repeat (first | refine blk_drewN ?_ _ | refine blk_drew ?_ | refine blk_alloc ?_ _)); refine blk_put (cs := #[.int .i64 0, .int .i64 0, .string (⟨#[]⟩ : ByteArray), .string (⟨#[]⟩ : ByteArray), .bool false, .bool false, .slice none 0 0, .slice none 0 0, .slice none 0 0, .slice none 0 0]) ?_ 0 _ rfl; (with_reducible repeat (first | refine blk_drewN ?_ _ | refine blk_drew ?_ | refine blk_alloc ?_ _)); exact BK133.out) Try.underlying37 rfl (by kernel_rfl)) rfl ?_
    exact ⟨_, _, _, _, by first | rfl | (simp [errW_none, errW_some] <;> rfl) | (simp [*, errW_none, errW_some] <;> rfl), by (with_reducible repeat (first | apply Kd.R_alloc | apply Kd.R_drewN | apply Kd.R_drew)); exact Kd.R_mono (Kd.R_far (p := ⟨gb133, 9, none⟩) (Kd.R_far (p := ⟨gb133, 8, none⟩) (Kd.R_far (p := ⟨gb133, 7, none⟩) (Kd.R_far (p := ⟨gb133, 6, none⟩) (Kd.R_far (p := ⟨gb133, 5, none⟩) (Kd.R_far (p := ⟨gb133, 4, none⟩) (Kd.R_far (p := ⟨gb133, 3, none⟩) (Kd.R_far (p := ⟨gb133, 2, none⟩) (Kd.R_far (p := ⟨gb133, 1, none⟩) (Kd.R_far (p := ⟨gb133, 0, none⟩) (Kd.R_types HO143.out BK133.out (by decide)) (fun _ hk => hk.2) (.int .i64 t135)) (fun _ hk => hk.2) (.int .i64 t136)) (fun _ hk => hk.2) (.string t137)) (fun _ hk => hk.2) (.string t138)) (fun _ hk => hk.2) (.bool t139)) (fun _ hk => hk.2) (.bool t140)) (fun _ hk => hk.2) (.slice Ao16 t141.length co16)) (fun _ hk => hk.2) (.slice Ao17 t144.length co17)) (fun _ hk => hk.2) (.slice Ao18 t147.length co18)) (fun _ hk => hk.2) (.slice Ao19 t150.length co19)) (fun _ hk => hk.1), by (with_reducible repeat (first | apply Kd.R_alloc | apply Kd.R_drewN | apply Kd.R_drew)); exact Kd.R_mono (Kd.R_far (p := ⟨gb133, 9, none⟩) (Kd.R_far (p := ⟨gb133, 8, none⟩) (Kd.R_far (p := ⟨gb133, 7, none⟩) (Kd.R_far (p := ⟨gb133, 6, none⟩) (Kd.R_far (p := ⟨gb133, 5, none⟩) (Kd.R_far (p := ⟨gb133, 4, none⟩) (Kd.R_far (p := ⟨gb133, 3, none⟩) (Kd.R_far (p := ⟨gb133, 2, none⟩) (Kd.R_far (p := ⟨gb133, 1, none⟩) (Kd.R_far (p := ⟨gb133, 0, none⟩) (Kd.R_types HO146.out BK133.out (by decide)) (fun _ hk => hk.2) (.int .i64 t135)) (fun _ hk => hk.2) (.int .i64 t136)) (fun _ hk => hk.2) (.string t137)) (fun _ hk => hk.2) (.string t138)) (fun _ hk => hk.2) (.bool t139)) (fun _ hk => hk.2) (.bool t140)) (fun _ hk => hk.2) (.slice Ao16 t141.length co16)) (fun _ hk => hk.2) (.slice Ao17 t144.length co17)) (fun _ hk => hk.2) (.slice Ao18 t147.length co18)) (fun _ hk => hk.2) (.slice Ao19 t150.length co19)) (fun _ hk => hk.1), by (with_reducible repeat (first | apply Kd.R_alloc | apply Kd.R_drewN | apply Kd.R_drew)); exact Kd.R_mono (Kd.R_far (p := ⟨gb133, 9, none⟩) (Kd.R_far (p := ⟨gb133, 8, none⟩) (Kd.R_far (p := ⟨gb133, 7, none⟩) (Kd.R_far (p := ⟨gb133, 6, none⟩) (Kd.R_far (p := ⟨gb133, 5, none⟩) (Kd.R_far (p := ⟨gb133, 4, none⟩) (Kd.R_far (p := ⟨gb133, 3, none⟩) (Kd.R_far (p := ⟨gb133, 2, none⟩) (Kd.R_far (p := ⟨gb133, 1, none⟩) (Kd.R_far (p := ⟨gb133, 0, none⟩) (Kd.R_types HO149.out BK133.out (by decide)) (fun _ hk => hk.2) (.int .i64 t135)) (fun _ hk => hk.2) (.int .i64 t136)) (fun _ hk => hk.2) (.string t137)) (fun _ hk => hk.2) (.string t138)) (fun _ hk => hk.2) (.bool t139)) (fun _ hk => hk.2) (.bool t140)) (fun _ hk => hk.2) (.slice Ao16 t141.length co16)) (fun _ hk => hk.2) (.slice Ao17 t144.length co17)) (fun _ hk => hk.2) (.slice Ao18 t147.length co18)) (fun _ hk => hk.2) (.slice Ao19 t150.length co19)) (fun _ hk => trivial), by (with_reducible repeat (first | apply Kd.R_alloc | apply Kd.R_drewN | apply Kd.R_drew)); exact Kd.R_mono (Kd.R_far (p := ⟨gb133, 9, none⟩) (Kd.R_far (p := ⟨gb133, 8, none⟩) (Kd.R_far (p := ⟨gb133, 7, none⟩) (Kd.R_far (p := ⟨gb133, 6, none⟩) (Kd.R_far (p := ⟨gb133, 5, none⟩) (Kd.R_far (p := ⟨gb133, 4, none⟩) (Kd.R_far (p := ⟨gb133, 3, none⟩) (Kd.R_far (p := ⟨gb133, 2, none⟩) (Kd.R_far (p := ⟨gb133, 1, none⟩) (Kd.R_far (p := ⟨gb133, 0, none⟩) (Kd.R_types HO152.out BK133.out (by decide)) (fun _ hk => hk.2) (.int .i64 t135)) (fun _ hk => hk.2) (.int .i64 t136)) (fun _ hk => hk.2) (.string t137)) (fun _ hk => hk.2) (.string t138)) (fun _ hk => hk.2) (.bool t139)) (fun _ hk => hk.2) (.bool t140)) (fun _ hk => hk.2) (.slice Ao16 t141.length co16)) (fun _ hk => hk.2) (.slice Ao17 t144.length co17)) (fun _ hk => hk.2) (.slice Ao18 t147.length co18)) (fun _ hk => hk.2) (.slice Ao19 t150.length co19)) (fun _ hk => trivial), by repeat (first | (with_reducible first | exact HB.out | apply below_alloc | apply pw_below_drewN | apply below_drew1 | refine below_set ?_ GE132.out | refine below_set ?_ GE133.out) | exact HB.out)⟩
  · replace c6 := Bool.eq_false_iff.mpr c6
    subst c6
    have H1 : (some (0, 0, (⟨#[]⟩ : ByteArray), (⟨#[]⟩ : ByteArray), false, false, ([] : List ByteArray), ([] : List ByteArray), ([] : List Bool), ([] : List Int), 1)) = some (r1, r2, r3, r4, r5, r6, r7, r8, r9, r10, r11) := by rw [if_neg (show ¬ (false = true) by decide)] at H; exact H
    clear H
    have H := H1
    clear H1
    simp only [Option.some.injEq, Prod.mk.injEq] at H
    obtain ⟨rfl, rfl, rfl, rfl, rfl, rfl, rfl, rfl, rfl, rfl, rfl⟩ := H
    go_enter Try.func16, Try.ntmps16
    go_wp2_with (first | ((with_reducible refine gate_dst (N := 6) rfl ?_); refine box_event ?hg (N := 6) ?hd (cs := #[.string a2_0, .string a2_1, .bool a2_2]) (t := 32) ?hr ?_; (case hd => rfl); (case hg => rfl); (case hr => first | (go_simp; done) | (go_simp; rfl)); intro gb132 hg w20 hbox hb; have n0_ := Aside0.mk (below_step (by repeat (first | (with_reducible first | exact HB.out | apply below_alloc | apply pw_below_drewN | apply below_drew1) | exact HB.out)) hb); have n1_ := Aside0.mk (hbox); have n2_ := Aside0.mk ((by rw [hg]; exact (below_size (by repeat (first | (with_reducible first | exact HB.out | apply below_alloc | apply pw_below_drewN | apply below_drew1) | exact HB.out))) : w.heap.size ≤ gb132)); have n3_ := Aside0.mk ((by rw [hg]; exact (below_size (by repeat (first | (with_reducible first | exact HB.out | apply below_alloc | apply pw_below_drewN | apply below_drew1) | exact HB.out))) : w.heap.size ≤ gb132)); clear HB; have HB := n0_; have BK132 := n1_; have GW132 := n2_; have GE132 := n3_; clear n0_ n1_ n2_ n3_; clear hb hbox hg) | ((with_reducible refine gate_dst (N := 8) rfl ?_); refine box_event ?hg (N := 8) ?hd (cs := #[.int .i64 0, .int .i64 0, .string (⟨#[]⟩ : ByteArray), .string (⟨#[]⟩ : ByteArray), .bool false, .bool false, .slice none 0 0, .slice none 0 0, .slice none 0 0, .slice none 0 0]) (t := 37) ?hr ?_; (case hd => rfl); (case hg => rfl); (case hr => first | (go_simp; done) | (go_simp; rfl)); intro gb133 hg w21 hbox hb; have n0_ := Aside0.mk (blk_below (g := gb132) (o := .cells #[.string a2_0, .string a2_1, .bool a2_2] 32 (0, 0)) (by (with_reducible repeat (first | refine blk_drewN ?_ _ | refine blk_drew ?_ | refine blk_alloc ?_ _)); exact BK132.out) hb); have n1_ := Aside0.mk (below_step (by repeat (first | (with_reducible first | exact HB.out | apply below_alloc | apply pw_below_drewN | apply below_drew1 | refine below_set ?_ GE132.out) | exact HB.out)) hb); have n2_ := Aside0.mk (hbox); have n3_ := Aside0.mk ((by rw [hg]; exact (below_size (by repeat (first | (with_reducible first | exact HB.out | apply below_alloc | apply pw_below_drewN | apply below_drew1 | refine below_set ?_ GE132.out) | exact HB.out))) : w.heap.size ≤ gb133)); have n4_ := Aside0.mk ((by rw [hg]; exact (below_size (by repeat (first | (with_reducible first | exact HB.out | apply below_alloc | apply pw_below_drewN | apply below_drew1 | refine below_set ?_ GE132.out) | exact HB.out))) : w.heap.size ≤ gb133)); have n5_ := Aside0.mk ((by rw [hg]; exact Nat.ne_of_lt (blk_lt (g := gb132) (o := .cells #[.string a2_0, .string a2_1, .bool a2_2] 32 (0, 0)) (by (with_reducible repeat (first | refine blk_drewN ?_ _ | refine blk_drew ?_ | refine blk_alloc ?_ _)); exact BK132.out)) : gb132 ≠ gb133)); have n6_ := Aside0.mk ((by rw [hg]; exact Nat.ne_of_gt (blk_lt (g := gb132) (o := .cells #[.string a2_0, .string a2_1, .bool a2_2] 32 (0, 0)) (by (with_reducible repeat (first | refine blk_drewN ?_ _ | refine blk_drew ?_ | refine blk_alloc ?_ _)); exact BK132.out)) : gb133 ≠ gb132)); clear BK132; clear HB; have BK132 := n0_; have HB := n1_; have BK133 := n2_; have GW133 := n3_; have GE133 := n4_; have NB132_133 := n5_; have NB133_132 := n6_; clear n0_ n1_ n2_ n3_ n4_ n5_ n6_; clear hb hbox hg; have hnb22 := NB132_133.out; have hnc22 := NB133_132.out; have hcz23_0 : w21.cell? ⟨gb132, 0, none⟩ = some (.string a2_0) := (blk_cell BK132.out 0).trans rfl; have hcz23_1 : w21.cell? ⟨gb132, 1, none⟩ = some (.string a2_1) := (blk_cell BK132.out 1).trans rfl; have hcz23_2 : w21.cell? ⟨gb132, 2, none⟩ = some (.bool a2_2) := (blk_cell BK132.out 2).trans rfl; have hfz23_0 := blk_frozen BK132.out 0; have hfz23_1 := blk_frozen BK132.out 1; have hfz23_2 := blk_frozen BK132.out 2) | ((with_reducible refine gate_callee (f := 54) rfl ?_); refine goesL_ (some 12) rfl rfl Try.func54 (by kernel_rfl) rfl #[.agg #[.string a2_0, .string a2_1, .bool a2_2], .slice A3 l3.length c3] rfl (by (try simp only [List.map_toArray, List.map_cons, List.map_nil]); first | done | rfl | (simp only [List.length_drop, List.length_take]; rfl)) ?_; (with_reducible refine (rev_rises.calls k a2_0 a2_1 a2_2 _ _ l3 false _ ?side1 ?side2 A5.out).mono ?_); (case side1 => repeat (first | exact (Kd.C_below HR3.out HB.out) | (with_reducible refine Kd.C_alloc ?_ _) | (with_reducible refine Kd.C_drewN ?_ _) | (with_reducible refine Kd.C_drew ?_))); (case side2 => exact HC3.out); rintro e w24 ⟨rfl, hb⟩; refine ⟨_, rfl, ?_⟩; have n0_ := Aside0.mk (blk_below (g := gb132) (o := .cells #[.string a2_0, .string a2_1, .bool a2_2] 32 (0, 0)) (by (with_reducible repeat (first | refine blk_drewN ?_ _ | refine blk_drew ?_ | refine blk_alloc ?_ _)); exact BK132.out) hb); have n1_ := Aside0.mk (blk_below (g := gb133) (o := .cells #[.int .i64 0, .int .i64 0, .string (⟨#[]⟩ : ByteArray), .string (⟨#[]⟩ : ByteArray), .bool false, .bool false, .slice none 0 0, .slice none 0 0, .slice none 0 0, .slice none 0 0] 37 (0, 0)) (by (with_reducible repeat (first | refine blk_drewN ?_ _ | refine blk_drew ?_ | refine blk_alloc ?_ _)); exact BK133.out) hb); have n2_ := Aside0.mk (below_step (by repeat (first | (with_reducible first | exact HB.out | apply below_alloc | apply pw_below_drewN | apply below_drew1 | refine below_set ?_ GE132.out | refine below_set ?_ GE133.out) | exact HB.out)) hb); clear BK132; clear BK133; clear HB; have BK132 := n0_; have BK133 := n1_; have HB := n2_; clear n0_ n1_ n2_; (try clear hb); (try clear hb2); (try clear hk); (try clear hi); have hcz25_0 : w24.cell? ⟨gb133, 0, none⟩ = some (.int .i64 0) := (blk_cell BK133.out 0).trans rfl; have hcz25_1 : w24.cell? ⟨gb133, 1, none⟩ = some (.int .i64 0) := (blk_cell BK133.out 1).trans rfl; have hcz25_2 : w24.cell? ⟨gb133, 2, none⟩ = some (.string (⟨#[]⟩ : ByteArray)) := (blk_cell BK133.out 2).trans rfl; have hcz25_3 : w24.cell? ⟨gb133, 3, none⟩ = some (.string (⟨#[]⟩ : ByteArray)) := (blk_cell BK133.out 3).trans rfl; have hcz25_4 : w24.cell? ⟨gb133, 4, none⟩ = some (.bool false) := (blk_cell BK133.out 4).trans rfl; have hcz25_5 : w24.cell? ⟨gb133, 5, none⟩ = some (.bool false) := (blk_cell BK133.out 5).trans rfl; have hcz25_6 : w24.cell? ⟨gb133, 6, none⟩ = some (.slice none 0 0) := (blk_cell BK133.out 6).trans rfl; have hcz25_7 : w24.cell? ⟨gb133, 7, none⟩ = some (.slice none 0 0) := (blk_cell BK133.out 7).trans rfl; have hcz25_8 : w24.cell? ⟨gb133, 8, none⟩ = some (.slice none 0 0) := (blk_cell BK133.out 8).trans rfl; have hcz25_9 : w24.cell? ⟨gb133, 9, none⟩ = some (.slice none 0 0) := (blk_cell BK133.out 9).trans rfl; have hfz25_0 := blk_frozen BK133.out 0; have hfz25_1 := blk_frozen BK133.out 1; have hfz25_2 := blk_frozen BK133.out 2; have hfz25_3 := blk_frozen BK133.out 3; have hfz25_4 := blk_frozen BK133.out 4; have hfz25_5 := blk_frozen BK133.out 5; have hfz25_6 := blk_frozen BK133.out 6; have hfz25_7 := blk_frozen BK133.out 7; have hfz25_8 := blk_frozen BK133.out 8; have hfz25_9 := blk_frozen BK133.out 9))
    refine bodyPost_ret (results_ct rfl _ _ gb133 37 #[.int .i64 0, .int .i64 0, .string (⟨#[]⟩ : ByteArray), .string (⟨#[]⟩ : ByteArray), .bool false, .bool false, .slice none 0 0, .slice none 0 0, .slice none 0 0, .slice none 0 0] (0, 0) _ rfl (by (with_reducible repeat (first | refine blk_drewN ?_ _ | refine blk_drew ?_ | refine blk_alloc ?_ _)); refine blk_put (cs := #[.int .i64 0, .int .i64 0, .string (⟨#[]⟩ : ByteArray), .string (⟨#[]⟩ : ByteArray), .bool false, .bool false, .slice none 0 0, .slice none 0 0, .slice none 0 0, .slice none 0 0]) ?_ 9 _ rfl; (with_reducible repeat (first | refine blk_drewN ?_ _ | refine blk_drew ?_ | refine blk_alloc ?_ _)); refine blk_put (cs := #[.int .i64 0, .int .i64 0, .string (⟨#[]⟩ : ByteArray), .string (⟨#[]⟩ : ByteArray), .bool false, .bool false, .slice none 0 0, .slice none 0 0, .slice none 0 0, .slice none 0 0]) ?_ 8 _ rfl; (with_reducible repeat (first | refine blk_drewN ?_ _ | refine blk_drew ?_ | refine blk_alloc ?_ _)); refine blk_put (cs := #[.int .i64 0, .int .i64 0, .string (⟨#[]⟩ : ByteArray), .string (⟨#[]⟩ : ByteArray), .bool false, .bool false, .slice none 0 0, .slice none 0 0, .slice none 0 0, .slice none 0 0]) ?_ 7 _ rfl; (with_reducible repeat (first | refine blk_drewN ?_ _ | refine blk_drew ?_ | refine blk_alloc ?_ _)); refine blk_put (cs := #[.int .i64 0, .int .i64 0, .string (⟨#[]⟩ : ByteArray), .string (⟨#[]⟩ : ByteArray), .bool false, .bool false, .slice none 0 0, .slice none 0 0, .slice none 0 0, .slice none 0 0]) ?_ 6 _ rfl; (with_reducible repeat (first | refine blk_drewN ?_ _ | refine blk_drew ?_ | refine blk_alloc ?_ _)); refine blk_put (cs := #[.int .i64 0, .int .i64 0, .string (⟨#[]⟩ : ByteArray), .string (⟨#[]⟩ : ByteArray), .bool false, .bool false, .slice none 0 0, .slice none 0 0, .slice none 0 0, .slice none 0 0]) ?_ 5 _ rfl; (with_reducible repeat (first | refine blk_drewN ?_ _ | refine blk_drew ?_ | refine blk_alloc ?_ _)); refine blk_put (cs := #[.int .i64 0, .int .i64 0, .string (⟨#[]⟩ : ByteArray), .string (⟨#[]⟩ : ByteArray), .bool false, .bool false, .slice none 0 0, .slice none 0 0, .slice none 0 0, .slice none 0 0]) ?_ 4 _ rfl; (with_reducible repeat (first | refine blk_drewN ?_ _ | refine blk_drew ?_ | refine blk_alloc ?_ _)); refine blk_put (cs := #[.int .i64 0, .int .i64 0, .string (⟨#[]⟩ : ByteArray), .string (⟨#[]⟩ : ByteArray), .bool false, .bool false, .slice none 0 0, .slice none 0 0, .slice none 0 0, .slice none 0 0]) ?_ 3 _ rfl; (with_reducible repeat (first | refine blk_drewN ?_ _ | refine blk_drew ?_ | refine blk_alloc ?_ _)); refine blk_put (cs := #[.int .i64 0, .int .i64 0, .string (⟨#[]⟩ : ByteArray), .string (⟨#[]⟩ : ByteArray), .bool false, .bool false, .slice none 0 0, .slice none 0 0, .slice none 0 0, .slice none 0 0]) ?_ 2 _ rfl; (with_reducible repeat (first | refine blk_drewN ?_ _ | refine blk_drew ?_ | refine blk_alloc ?_ _)); refine blk_put (cs := #[.int .i64 0, .int .i64 0, .string (⟨#[]⟩ : ByteArray), .string (⟨#[]⟩ : ByteArray), .bool false, .bool false, .slice none 0 0, .slice none 0 0, .slice none 0 0, .slice none 0 0]) ?_ 1 _ rfl; (with_reducible repeat (first | refine blk_drewN ?_ _ | refine blk_drew ?_ | refine blk_alloc ?_ _)); refine blk_put (cs := #[.int .i64 0, .int .i64 0, .string (⟨#[]⟩ : ByteArray), .string (⟨#[]⟩ : ByteArray), .bool false, .bool false, .slice none 0 0, .slice none 0 0, .slice none 0 0, .slice none 0 0]) ?_ 0 _ rfl; (with_reducible repeat (first | refine blk_drewN ?_ _ | refine blk_drew ?_ | refine blk_alloc ?_ _)); exact BK133.out) Try.underlying37 rfl (by kernel_rfl)) rfl ?_
    exact ⟨_, _, _, _, by first | rfl | (simp [errW_none, errW_some] <;> rfl) | (simp [*, errW_none, errW_some] <;> rfl), by first | exact Kd.R_nil _ _ _ _ _ | exact Kd.N_nil _ _ _ _ _ | exact Kd.V_nil _ _ _ _ _ | exact Kd.Q_nil _ _ _ _ _ | exact Kd.S_nil _ _ _ _ _, by first | exact Kd.R_nil _ _ _ _ _ | exact Kd.N_nil _ _ _ _ _ | exact Kd.V_nil _ _ _ _ _ | exact Kd.Q_nil _ _ _ _ _ | exact Kd.S_nil _ _ _ _ _, by first | exact Kd.R_nil _ _ _ _ _ | exact Kd.N_nil _ _ _ _ _ | exact Kd.V_nil _ _ _ _ _ | exact Kd.Q_nil _ _ _ _ _ | exact Kd.S_nil _ _ _ _ _, by first | exact Kd.R_nil _ _ _ _ _ | exact Kd.N_nil _ _ _ _ _ | exact Kd.V_nil _ _ _ _ _ | exact Kd.Q_nil _ _ _ _ _ | exact Kd.S_nil _ _ _ _ _, by repeat (first | (with_reducible first | exact HB.out | apply below_alloc | apply pw_below_drewN | apply below_drew1 | refine below_set ?_ GE132.out | refine below_set ?_ GE133.out) | exact HB.out)⟩
end Go.Proofs.Ytoaacdjcjicemaa.PRevChanges
