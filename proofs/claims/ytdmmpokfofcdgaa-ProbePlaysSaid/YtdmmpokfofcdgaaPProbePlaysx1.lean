-- PRINTED BY print.sh 35421559b90ae4d0a3588c463048766b98c2df88dd9212a6774a882060cdf62d: not written by this session
import Derived.Test.YtdmmpokfofcdgaaPProbePlaysx0
namespace Go.Proofs.Ytdmmpokfofcdgaa.PProbePlays
open Go.RowKit Go.Proofs.YtdmmpokfofcdgaaW.PrintWords Go.Proofs.YtdmmpokfofcdgaaW.PrintLast Go.Proofs.YtdmmpokfofcdgaaW.PrintMore
attribute [local go_sem] max2_int min2_int max_two min_two max_three min_three max_four min_four   -- for this text's walks alone
set_option linter.unusedVariables false
set_option linter.unusedSimpArgs false

/-! ### probe_Size: function 38 -/
def probe_Size.l0 : Nat → Int → Int → Option (Int)
  | 0, _, _ => none
  | k + 1, x0, x3 => if (wrap64 (Int.tdiv x3 2)) < x0 then (probe_Size.l0 k x0 (wrap64 (x3 * 2))) else (some x3)
def probe_Size.f (k : Nat) (a0 : Int) : Option (Int) := probe_Size.l0 k a0 2
theorem probe_Size.mono_l : ∀ k, (∀ y0 y1, LeO (probe_Size.l0 k y0 y1) (probe_Size.l0 (k + 1) y0 y1))
  | 0 => fun _ _ r h => by simp [probe_Size.l0] at h
  | k + 1 => by
    have ih0 := probe_Size.mono_l k
    · intro y0 y1
      unfold probe_Size.l0
      repeat' first
      | (with_reducible exact ih0 _ _)
      | (with_reducible exact LeO.refl _)
      | (with_reducible exact LeO.none _)
      | (with_reducible refine LeO.ite ?_ ?_)
      | (with_reducible refine LeO.bind ?_ (fun _ => ?_))
      | exact ih0 _ _
      | exact LeO.none _
      | refine LeO.ite ?_ ?_
      | refine LeO.bind ?_ (fun _ => ?_)
theorem probe_Size.mono : ∀ a0 k, LeO (probe_Size.f k a0) (probe_Size.f (k + 1) a0) := by
  intro a0 k
  have ih0 := probe_Size.mono_l k
  unfold probe_Size.f
  repeat' first
      | (with_reducible exact ih0 _ _)
      | (with_reducible exact LeO.refl _)
      | (with_reducible exact LeO.none _)
      | (with_reducible refine LeO.ite ?_ ?_)
      | (with_reducible refine LeO.bind ?_ (fun _ => ?_))
      | exact ih0 _ _
      | exact LeO.none _
      | refine LeO.ite ?_ ?_
      | refine LeO.bind ?_ (fun _ => ?_)
set_option maxHeartbeats 8000000 in
set_option maxRecDepth 100000 in
theorem probe_Size.calls (k : Nat) (a0 : Int) (r : Int) (w : World) (h : probe_Size.f k a0 = some r) :
    Calls Try.prog 38 #[.int .i64 a0] w fun e w' => e = .returned (.int .i64 r) ∧ Drawn0 w w' := by
  have H : (probe_Size.l0 k a0 2) = some r := h
  clear h
  have H' := Aside0.mk H
  clear H
  go_enter Try.func38, Try.ntmps38
  go_wp2
  go_loopg [3] k (fun kq v3 w' => ∃ (x3_1 : Int), v3 = .int .i64 x3_1 ∧ Aside0 (probe_Size.l0 kq a0 x3_1 = some r) ∧ Aside0 (kq ≤ k) ∧ Drawn0 w w')
  case atStart => exact ⟨(2), (by first | rfl | (simp; done) | (simp [*]; done)), H', ⟨Nat.le_refl _⟩, by repeat (first | exact Drawn0.refl _ | apply Drawn0.step)⟩
  case round =>
    clear H'
    obtain ⟨x3_1, rfl, HA, HK1, ⟨m1, rfl⟩⟩ := hrel
    cases gk with
    | zero => exact absurd HA.out (by simp [probe_Size.l0])
    | succ k1 =>
      have H := HA.out
      clear HA
      simp only [probe_Size.l0] at H
      by_cases c2 : (wrap64 (Int.tdiv x3_1 2)) < a0
      · rw [if_pos c2] at H
        have c2b0 : decide ((wrap64 (Int.tdiv x3_1 2)) < a0) = true := decide_eq_true c2
        clear c2
        have H' := Aside0.mk H
        clear H
        go_wp2
        go_roundg k1
        case measure => have := HK1.out; omega
        case rel => exact ⟨(wrap64 (x3_1 * 2)), (by first | rfl | (simp; done) | (simp [*]; done)), H', ⟨by have := HK1.out; omega⟩, by repeat (first | exact Drawn0.refl _ | apply Drawn0.step)⟩
      · rw [if_neg c2] at H
        have c2b0 : decide ((wrap64 (Int.tdiv x3_1 2)) < a0) = false := decide_eq_false c2
        clear c2
        obtain rfl := Option.some.inj H
        go_wp2
        go_ret
        exact ⟨by first | rfl | (simp; done) | (simp [*]; done), by repeat (first | exact Drawn0.refl _ | apply Drawn0.step)⟩

/-! ### hash_End: function 46 -/
def hash_End.f (a0 : Int) : Option (Int) := some (((Go.bits .xor .u32 ((a0 + ((a0 * 8) % 4294967296)) % 4294967296) (((a0 + ((a0 * 8) % 4294967296)) % 4294967296) / 2048)) + (((Go.bits .xor .u32 ((a0 + ((a0 * 8) % 4294967296)) % 4294967296) (((a0 + ((a0 * 8) % 4294967296)) % 4294967296) / 2048)) * 32768) % 4294967296)) % 4294967296)
set_option maxHeartbeats 8000000 in
set_option maxRecDepth 100000 in
theorem hash_End.calls (a0 : Int) (r : Int) (w : World) (h : hash_End.f a0 = some r) :
    Calls Try.prog 46 #[.int .u32 a0] w fun e w' => e = .returned (.int .u32 r) ∧ Drawn0 w w' := by
  have H : (some (((Go.bits .xor .u32 ((a0 + ((a0 * 8) % 4294967296)) % 4294967296) (((a0 + ((a0 * 8) % 4294967296)) % 4294967296) / 2048)) + (((Go.bits .xor .u32 ((a0 + ((a0 * 8) % 4294967296)) % 4294967296) (((a0 + ((a0 * 8) % 4294967296)) % 4294967296) / 2048)) * 32768) % 4294967296)) % 4294967296)) = some r := h
  clear h
  obtain rfl := Option.some.inj H
  go_enter Try.func46, Try.ntmps46
  go_wp2
  go_ret
  exact ⟨by first | rfl | (simp; done) | (simp [*]; done), by repeat (first | exact Drawn0.refl _ | apply Drawn0.step)⟩

/-! ### hash_Add: function 47 -/
def hash_Add.l0 : Nat → Int → ByteArray → Int → Int → Option (Int)
  | 0, _, _, _, _ => none
  | k + 1, x0, x1, x7, x8 => if x8 < x7 then (if 0 ≤ x8 then (if x8 < (x1.size : Int) then (hash_Add.l0 k (Go.bits .xor .u32 ((((x0 + ((bt x1 x8) % 4294967296)) % 4294967296) + ((((x0 + ((bt x1 x8) % 4294967296)) % 4294967296) * 1024) % 4294967296)) % 4294967296) (((((x0 + ((bt x1 x8) % 4294967296)) % 4294967296) + ((((x0 + ((bt x1 x8) % 4294967296)) % 4294967296) * 1024) % 4294967296)) % 4294967296) / 64)) x1 x7 (wrap64 (x8 + 1))) else (none)) else (none)) else (some x0)
def hash_Add.f (k : Nat) (a0 : Int) (a1 : ByteArray) : Option (Int) := hash_Add.l0 k a0 a1 (a1.size : Int) 0
theorem hash_Add.mono_l : ∀ k, (∀ y0 y1 y2 y3, LeO (hash_Add.l0 k y0 y1 y2 y3) (hash_Add.l0 (k + 1) y0 y1 y2 y3))
  | 0 => fun _ _ _ _ r h => by simp [hash_Add.l0] at h
  | k + 1 => by
    have ih0 := hash_Add.mono_l k
    · intro y0 y1 y2 y3
      unfold hash_Add.l0
      repeat' first
      | (with_reducible exact ih0 _ _ _ _)
      | (with_reducible exact LeO.refl _)
      | (with_reducible exact LeO.none _)
      | (with_reducible refine LeO.ite ?_ ?_)
      | (with_reducible refine LeO.bind ?_ (fun _ => ?_))
      | exact ih0 _ _ _ _
      | exact LeO.none _
      | refine LeO.ite ?_ ?_
      | refine LeO.bind ?_ (fun _ => ?_)
theorem hash_Add.mono : ∀ a0 a1 k, LeO (hash_Add.f k a0 a1) (hash_Add.f (k + 1) a0 a1) := by
  intro a0 a1 k
  have ih0 := hash_Add.mono_l k
  unfold hash_Add.f
  repeat' first
      | (with_reducible exact ih0 _ _ _ _)
      | (with_reducible exact LeO.refl _)
      | (with_reducible exact LeO.none _)
      | (with_reducible refine LeO.ite ?_ ?_)
      | (with_reducible refine LeO.bind ?_ (fun _ => ?_))
      | exact ih0 _ _ _ _
      | exact LeO.none _
      | refine LeO.ite ?_ ?_
      | refine LeO.bind ?_ (fun _ => ?_)
set_option maxHeartbeats 8000000 in
set_option maxRecDepth 100000 in
theorem hash_Add.calls (k : Nat) (a0 : Int) (a1 : ByteArray) (r : Int) (w : World) (h : hash_Add.f k a0 a1 = some r) :
    Calls Try.prog 47 #[.int .u32 a0, .string a1] w fun e w' => e = .returned (.int .u32 r) ∧ Drawn0 w w' := by
  have H : (hash_Add.l0 k a0 a1 (a1.size : Int) 0) = some r := h
  clear h
  have H' := Aside0.mk H
  clear H
  go_enter Try.func47, Try.ntmps47
  go_wp2
  go_loopg [0, 8] k (fun kq v0 v8 w' => ∃ (x0_1 : Int) (x8_1 : Int), v0 = .int .u32 x0_1 ∧ v8 = .int .i64 x8_1 ∧ Aside0 (hash_Add.l0 kq x0_1 a1 (a1.size : Int) x8_1 = some r) ∧ Aside0 (kq ≤ k) ∧ Drawn0 w w')
  case atStart => exact ⟨(a0), (0), (by first | rfl | (simp; done) | (simp [*]; done)), (by first | rfl | (simp; done) | (simp [*]; done)), H', ⟨Nat.le_refl _⟩, by repeat (first | exact Drawn0.refl _ | apply Drawn0.step)⟩
  case round =>
    clear H'
    try clear p2
    obtain ⟨x0_1, x8_1, rfl, rfl, HA, HK1, ⟨m1, rfl⟩⟩ := hrel
    cases gk with
    | zero => exact absurd HA.out (by simp [hash_Add.l0])
    | succ k1 =>
      have H := HA.out
      clear HA
      simp only [hash_Add.l0] at H
      by_cases c3 : x8_1 < (a1.size : Int)
      · rw [if_pos c3] at H
        have c3b0 : decide (x8_1 < (a1.size : Int)) = true := decide_eq_true c3
        clear c3
        by_cases c4 : 0 ≤ x8_1
        · rw [if_pos c4] at H
          have c4b0 : decide (0 ≤ x8_1) = true := decide_eq_true c4
          clear c4
          by_cases c5 : x8_1 < (a1.size : Int)
          · rw [if_pos c5] at H
            have c5b0 : decide (x8_1 < (a1.size : Int)) = true := decide_eq_true c5
            clear c5
            have H' := Aside0.mk H
            clear H
            have p6 : 0 ≤ (x8_1 : Int) := of_decide_eq_true (by first | (with_reducible assumption) | assumption)
            have q6 : x8_1 < (a1.size : Int) := of_decide_eq_true (by first | (with_reducible assumption) | assumption)
            have hx6 := bt_at a1 x8_1
            replace p6 := eq_true p6
            replace q6 := eq_true q6
            go_wp2
            go_roundg k1
            case measure => have := HK1.out; omega
            case rel => exact ⟨(Go.bits .xor .u32 ((((x0_1 + ((bt a1 x8_1) % 4294967296)) % 4294967296) + ((((x0_1 + ((bt a1 x8_1) % 4294967296)) % 4294967296) * 1024) % 4294967296)) % 4294967296) (((((x0_1 + ((bt a1 x8_1) % 4294967296)) % 4294967296) + ((((x0_1 + ((bt a1 x8_1) % 4294967296)) % 4294967296) * 1024) % 4294967296)) % 4294967296) / 64)), (wrap64 (x8_1 + 1)), (by first | rfl | (simp; done) | (simp [*]; done)), (by first | rfl | (simp; done) | (simp [*]; done)), H', ⟨by have := HK1.out; omega⟩, by repeat (first | exact Drawn0.refl _ | apply Drawn0.step)⟩
          · rw [if_neg c5] at H
            exact absurd H (by simp)
        · rw [if_neg c4] at H
          exact absurd H (by simp)
      · rw [if_neg c3] at H
        have c3b0 : decide (x8_1 < (a1.size : Int)) = false := decide_eq_false c3
        clear c3
        obtain rfl := Option.some.inj H
        go_wp2
        go_ret
        exact ⟨by first | rfl | (simp; done) | (simp [*]; done), by repeat (first | exact Drawn0.refl _ | apply Drawn0.step)⟩

/-! ### hash_Of: function 43 -/
def hash_Of.f (k : Nat) (a0 : ByteArray) : Option (Int) := (hash_Add.f k 0 a0).bind fun t101 => ((hash_End.f t101).bind fun t102 => (some t102))
theorem hash_Of.mono : ∀ a0 k, LeO (hash_Of.f k a0) (hash_Of.f (k + 1) a0) := by
  intro a0 k
  unfold hash_Of.f
  repeat' first
      | (with_reducible exact hash_Add.mono _ _ _)
      | (with_reducible exact LeO.refl _)
      | (with_reducible exact LeO.none _)
      | (with_reducible refine LeO.ite ?_ ?_)
      | (with_reducible refine LeO.bind ?_ (fun _ => ?_))
      | exact hash_Add.mono _ _ _
      | exact LeO.none _
      | refine LeO.ite ?_ ?_
      | refine LeO.bind ?_ (fun _ => ?_)
set_option maxHeartbeats 8000000 in
set_option maxRecDepth 100000 in
theorem hash_Of.calls (k : Nat) (a0 : ByteArray) (r : Int) (w : World) (h : hash_Of.f k a0 = some r) :
    Calls Try.prog 43 #[.string a0] w fun e w' => e = .returned (.int .u32 r) ∧ Drawn0 w w' := by
  have H : ((hash_Add.f k 0 a0).bind fun t101 => ((hash_End.f t101).bind fun t102 => (some t102))) = some r := h
  clear h
  replace H := Option.bind_eq_some_iff.mp H
  obtain ⟨t101, A20, H⟩ := H
  replace H : ((hash_End.f t101).bind fun t102 => (some t102)) = some r := H
  have A2 := Aside0.mk A20
  clear A20
  replace H := Option.bind_eq_some_iff.mp H
  obtain ⟨t102, A30, H⟩ := H
  replace H : (some t102) = some r := H
  have A3 := Aside0.mk A30
  clear A30
  obtain rfl := Option.some.inj H
  go_enter Try.func43, Try.ntmps43
  go_wp2_with (first | ((with_reducible refine gate_callee (f := 47) rfl ?_); refine goesL_ (some 4) rfl rfl Try.func47 (by kernel_rfl) rfl #[.int .u32 0, .string a0] rfl (by (try simp only [List.map_toArray, List.map_cons, List.map_nil]); first | done | rfl | (simp only [List.length_drop, List.length_take]; rfl)) ?_; (with_reducible refine (hash_Add.calls k 0 a0 t101 _ A2.out).mono ?_); rintro e w' ⟨rfl, ⟨nd, rfl⟩⟩; refine ⟨_, rfl, ?_⟩) | ((with_reducible refine gate_callee (f := 46) rfl ?_); refine goesL_ (some 5) rfl rfl Try.func46 (by kernel_rfl) rfl #[.int .u32 t101] rfl (by (try simp only [List.map_toArray, List.map_cons, List.map_nil]); first | done | rfl | (simp only [List.length_drop, List.length_take]; rfl)) ?_; (with_reducible refine (hash_End.calls t101 t102 _ A3.out).mono ?_); rintro e w' ⟨rfl, ⟨nd, rfl⟩⟩; refine ⟨_, rfl, ?_⟩))
  go_ret
  exact ⟨by first | rfl | (simp; done) | (simp [*]; done), by repeat (first | exact Drawn0.refl _ | apply Drawn0.step)⟩

/-! ### probe_first: function 40 -/
def probe_first.f (k : Nat) (a0 : Int) (a1 : ByteArray) : Option (Int) := (hash_Of.f k a1).bind fun t103 => (some (Go.bits .and .i64 (wrap64 (t103)) (wrap64 (a0 - 1))))
theorem probe_first.mono : ∀ a0 a1 k, LeO (probe_first.f k a0 a1) (probe_first.f (k + 1) a0 a1) := by
  intro a0 a1 k
  unfold probe_first.f
  repeat' first
      | (with_reducible exact hash_Of.mono _ _)
      | (with_reducible exact LeO.refl _)
      | (with_reducible exact LeO.none _)
      | (with_reducible refine LeO.ite ?_ ?_)
      | (with_reducible refine LeO.bind ?_ (fun _ => ?_))
      | exact hash_Of.mono _ _
      | exact LeO.none _
      | refine LeO.ite ?_ ?_
      | refine LeO.bind ?_ (fun _ => ?_)
set_option maxHeartbeats 8000000 in
set_option maxRecDepth 100000 in
theorem probe_first.calls (k : Nat) (a0 : Int) (a1 : ByteArray) (r : Int) (w : World) (h : probe_first.f k a0 a1 = some r) :
    Calls Try.prog 40 #[.int .i64 a0, .string a1] w fun e w' => e = .returned (.int .i64 r) ∧ Drawn0 w w' := by
  have H : ((hash_Of.f k a1).bind fun t103 => (some (Go.bits .and .i64 (wrap64 (t103)) (wrap64 (a0 - 1))))) = some r := h
  clear h
  replace H := Option.bind_eq_some_iff.mp H
  obtain ⟨t103, A30, H⟩ := H
  replace H : (some (Go.bits .and .i64 (wrap64 (t103)) (wrap64 (a0 - 1)))) = some r := H
  have A3 := Aside0.mk A30
  clear A30
  obtain rfl := Option.some.inj H
  go_enter Try.func40, Try.ntmps40
  go_wp2_with (first | ((with_reducible refine gate_callee (f := 43) rfl ?_); refine goesL_ (some 6) rfl rfl Try.func43 (by kernel_rfl) rfl #[.string a1] rfl (by (try simp only [List.map_toArray, List.map_cons, List.map_nil]); first | done | rfl | (simp only [List.length_drop, List.length_take]; rfl)) ?_; (with_reducible refine (hash_Of.calls k a1 t103 _ A3.out).mono ?_); rintro e w' ⟨rfl, ⟨nd, rfl⟩⟩; refine ⟨_, rfl, ?_⟩))
  go_ret
  exact ⟨by first | rfl | (simp; done) | (simp [*]; done), by repeat (first | exact Drawn0.refl _ | apply Drawn0.step)⟩

/-! ### probe_Build: function 33 -/
mutual
def probe_Build.l0 : Nat → List Int → List ByteArray → Int → Int → Option (List Int)
  | 0, _, _, _, _ => none
  | k + 1, x3, x11, x12, x13 => if x13 < x12 then (if 0 ≤ x13 then (if x13 < (x11.length : Int) then ((probe_first.f k (x3.length : Int) (rdOf ByteArray.empty x11 x13)).bind fun t109 => (probe_Build.l1 k x3 x13 t109 x11 x12 x13)) else (none)) else (none)) else (some x3)
def probe_Build.l1 : Nat → List Int → Int → Int → List ByteArray → Int → Int → Option (List Int)
  | 0, _, _, _, _, _, _ => none
  | k + 1, x3, x4, x6, x11, x12, x13 => if 0 ≤ x6 then (if x6 < (x3.length : Int) then (if (rd x3 x6) = 0 then (probe_Build.l0 k (x3.set (x6 : Int).toNat (wrap64 (x4 + 1))) x11 x12 (wrap64 (x13 + 1))) else (probe_Build.l1 k x3 x4 (Go.bits .and .i64 (wrap64 (x6 + 1)) (wrap64 ((x3.length : Int) - 1))) x11 x12 x13)) else (none)) else (none)
end
def probe_Build.f (k : Nat) (l0 : List ByteArray) : Option (List Int) := (probe_Size.f k (l0.length : Int)).bind fun t104 => (if 0 ≤ t104 then (if (t104 : Int).toNat ≤ 35184372088832 then (probe_Build.l0 k (List.replicate (t104 : Int).toNat 0) l0 (l0.length : Int) 0) else (none)) else (none))
theorem probe_Build.mono_l : ∀ k, (∀ y0 y1 y2 y3, LeO (probe_Build.l0 k y0 y1 y2 y3) (probe_Build.l0 (k + 1) y0 y1 y2 y3)) ∧ (∀ y0 y1 y2 y3 y4 y5, LeO (probe_Build.l1 k y0 y1 y2 y3 y4 y5) (probe_Build.l1 (k + 1) y0 y1 y2 y3 y4 y5))
  | 0 => ⟨fun _ _ _ _ r h => by simp [probe_Build.l0] at h, fun _ _ _ _ _ _ r h => by simp [probe_Build.l1] at h⟩
  | k + 1 => by
    obtain ⟨ih0, ih1⟩ := probe_Build.mono_l k
    refine ⟨?_, ?_⟩
    · intro y0 y1 y2 y3
      unfold probe_Build.l0
      repeat' first
      | (with_reducible exact ih0 _ _ _ _)
      | (with_reducible exact ih1 _ _ _ _ _ _)
      | (with_reducible exact probe_Size.mono _ _)
      | (with_reducible exact probe_first.mono _ _ _)
      | (with_reducible exact LeO.refl _)
      | (with_reducible exact LeO.none _)
      | (with_reducible refine LeO.ite ?_ ?_)
      | (with_reducible refine LeO.bind ?_ (fun _ => ?_))
      | exact ih0 _ _ _ _
      | exact ih1 _ _ _ _ _ _
      | exact probe_Size.mono _ _
      | exact probe_first.mono _ _ _
      | exact LeO.none _
      | refine LeO.ite ?_ ?_
      | refine LeO.bind ?_ (fun _ => ?_)
    · intro y0 y1 y2 y3 y4 y5
      unfold probe_Build.l1
      repeat' first
      | (with_reducible exact ih0 _ _ _ _)
      | (with_reducible exact ih1 _ _ _ _ _ _)
      | (with_reducible exact probe_Size.mono _ _)
      | (with_reducible exact probe_first.mono _ _ _)
      | (with_reducible exact LeO.refl _)
      | (with_reducible exact LeO.none _)
      | (with_reducible refine LeO.ite ?_ ?_)
      | (with_reducible refine LeO.bind ?_ (fun _ => ?_))
      | exact ih0 _ _ _ _
      | exact ih1 _ _ _ _ _ _
      | exact probe_Size.mono _ _
      | exact probe_first.mono _ _ _
      | exact LeO.none _
      | refine LeO.ite ?_ ?_
      | refine LeO.bind ?_ (fun _ => ?_)
theorem probe_Build.mono : ∀ a0 k, LeO (probe_Build.f k a0) (probe_Build.f (k + 1) a0) := by
  intro a0 k
  obtain ⟨ih0, ih1⟩ := probe_Build.mono_l k
  unfold probe_Build.f
  repeat' first
      | (with_reducible exact ih0 _ _ _ _)
      | (with_reducible exact ih1 _ _ _ _ _ _)
      | (with_reducible exact probe_Size.mono _ _)
      | (with_reducible exact probe_first.mono _ _ _)
      | (with_reducible exact LeO.refl _)
      | (with_reducible exact LeO.none _)
      | (with_reducible refine LeO.ite ?_ ?_)
      | (with_reducible refine LeO.bind ?_ (fun _ => ?_))
      | exact ih0 _ _ _ _
      | exact ih1 _ _ _ _ _ _
      | exact probe_Size.mono _ _
      | exact probe_first.mono _ _ _
      | exact LeO.none _
      | refine LeO.ite ?_ ?_
      | refine LeO.bind ?_ (fun _ => ?_)
set_option maxHeartbeats 8000000 in
set_option maxRecDepth 100000 in
theorem probe_Build.calls (k : Nat) (A0 : Option Addr) (c0 : Nat) (l0 : List ByteArray) (r : List Int) (w : World) (hr0 : Kd.C Kd.string w A0 l0.length l0) (hc0 : l0.length ≤ c0) (h : probe_Build.f k l0 = some r) :
    Calls Try.prog 33 #[.slice A0 l0.length c0] w fun e w' => ∃ v0_ : Value, e = .returned (v0_) ∧ Kd.R (Kd.int .i64) 3 w' w.heap.size (fun _ => True) v0_ r ∧ Below w.heap.size w w' := by
  have HR0 := Aside0.mk hr0
  have HC0 := Aside0.mk hc0
  clear hr0 hc0
  have HB := Aside0.mk (Below.refl w.heap.size w)
  have H : ((probe_Size.f k (l0.length : Int)).bind fun t104 => (if 0 ≤ t104 then (if (t104 : Int).toNat ≤ 35184372088832 then (probe_Build.l0 k (List.replicate (t104 : Int).toNat 0) l0 (l0.length : Int) 0) else (none)) else (none))) = some r := h
  clear h
  replace H := Option.bind_eq_some_iff.mp H
  obtain ⟨t104, A20, H⟩ := H
  replace H : (if 0 ≤ t104 then (if (t104 : Int).toNat ≤ 35184372088832 then (probe_Build.l0 k (List.replicate (t104 : Int).toNat 0) l0 (l0.length : Int) 0) else (none)) else (none)) = some r := H
  have A2 := Aside0.mk A20
  clear A20
  by_cases c3 : 0 ≤ t104
  · rw [if_pos c3] at H
    have c3b0 := eq_true c3
    have c3b1 : decide (0 ≤ t104) = true := decide_eq_true c3
    clear c3
    by_cases c4 : (t104 : Int).toNat ≤ 35184372088832
    · rw [if_pos c4] at H
      have c4b0 := eq_true c4
      have c4b1 : decide ((t104 : Int).toNat ≤ 35184372088832) = true := decide_eq_true c4
      clear c4
      obtain ⟨y105, hy105⟩ : ∃ y_ : List Int, y_ = (List.replicate (t104 : Int).toNat 0) := ⟨_, rfl⟩
      replace H : (probe_Build.l0 k y105 l0 (l0.length : Int) 0) = some r := by first | (rw [hy105]; with_reducible exact H) | (have H2_ := (Option.bind_some _ _).symm.trans H; rw [hy105]; with_reducible exact H2_) | (have H2_ := (Option.bind_some _ _).symm.trans H; with_reducible exact H2_) | with_reducible exact H | (rw [hy105]; exact H) | exact H
      have Ny105 := Aside0.mk hy105
      clear hy105
      have H' := Aside0.mk H
      clear H
      go_enter Try.func33, Try.ntmps33
      go_wp2_with (first | ((with_reducible refine gate_callee (f := 38) rfl ?_); refine goesL_ (some 9) rfl rfl Try.func38 (by kernel_rfl) rfl #[.int .i64 (l0.length : Int)] rfl (by (try simp only [List.map_toArray, List.map_cons, List.map_nil]); first | done | rfl | (simp only [List.length_drop, List.length_take]; rfl)) ?_; (with_reducible refine (probe_Size.calls k (l0.length : Int) t104 _ A2.out).mono ?_); rintro e w' ⟨rfl, ⟨nd, rfl⟩⟩; refine ⟨_, rfl, ?_⟩) | ((with_reducible refine gate_dst (N := 10) rfl ?_); refine Kd.R_make (Kd.int .i64) _ 3 rfl (N := 10) rfl 48 _ _ rfl t104 rfl rfl Try.underlying48 (.int .i64 0) 8 info3 rfl (by decide) (by omega) 0 (ok := fun _ => True) (okp := fun _ => True) rfl (fun _ hk => hk) trivial (of_decide_eq_true (by first | (with_reducible assumption) | assumption)) (Nat.le_trans (Nat.mul_le_mul_right _ (of_decide_eq_true (by first | (with_reducible assumption) | assumption) : t104.toNat ≤ 35184372088832)) (by omega)) (Below.refl _ _) (Nat.le_refl _) ?_; intro v106 w5 ho6 hb hg_ hnew_; clear hg_ hnew_; (first | rw [← Ny105.out] at ho6 | (simp only [Int.reduceToNat] at ho6; rw [← Ny105.out] at ho6)); have n0_ := Aside0.mk (Kd.R_lower ho6 (below_size (by repeat (first | (with_reducible first | exact HB.out | apply below_alloc | apply pw_below_drewN | apply below_drew1) | exact HB.out)))); have n1_ := Aside0.mk (below_step (by repeat (first | (with_reducible first | exact HB.out | apply below_alloc | apply pw_below_drewN | apply below_drew1) | exact HB.out)) hb); clear HB; have HO107 := n0_; have HB := n1_; clear n0_ n1_; clear hb ho6))
      go_loopg [13] k (fun kq v13 w' => ∃ (x3_1 : List Int) (x13_1 : Int), v13 = .int .i64 x13_1 ∧ Aside0 (probe_Build.l0 kq x3_1 l0 (l0.length : Int) x13_1 = some r) ∧ Aside0 (kq ≤ k) ∧ Aside0 (Kd.R (Kd.int .i64) 3 w' w.heap.size (fun _ => True) v106 x3_1) ∧ Aside0 (Below w.heap.size w w'))
      case atStart => exact ⟨(y105), (0), (by first | rfl | (simp; done) | (simp [*]; done)), H', ⟨Nat.le_refl _⟩, ⟨by (with_reducible repeat (first | apply Kd.R_alloc | apply Kd.R_drewN | apply Kd.R_drew)); exact HO107.out⟩, ⟨by repeat (first | (with_reducible first | exact HB.out | apply below_alloc | apply pw_below_drewN | apply below_drew1) | exact HB.out)⟩⟩
      case round =>
        clear H'
        try clear p2
        try clear c3
        try clear c3b0
        try clear c3b1
        try clear c4
        try clear c4b0
        try clear c4b1
        obtain ⟨x3_1, x13_1, rfl, HA, HK1, HO_3, HB⟩ := hrel
        cases gk with
        | zero => exact absurd HA.out (by simp [probe_Build.l0])
        | succ k1 =>
          have H := HA.out
          clear HA
          simp only [probe_Build.l0] at H
          by_cases c7 : x13_1 < (l0.length : Int)
          · rw [if_pos c7] at H
            have c7b0 : decide (x13_1 < (l0.length : Int)) = true := decide_eq_true c7
            clear c7
            by_cases c8 : 0 ≤ x13_1
            · rw [if_pos c8] at H
              have c8b0 : decide (0 ≤ x13_1) = true := decide_eq_true c8
              clear c8
              by_cases c9 : x13_1 < (l0.length : Int)
              · rw [if_pos c9] at H
                have c9b0 : decide (x13_1 < (l0.length : Int)) = true := decide_eq_true c9
                clear c9
                replace H := Option.bind_eq_some_iff.mp H
                obtain ⟨t109, A100, H⟩ := H
                replace H : (probe_Build.l1 k1 x3_1 x13_1 t109 l0 (l0.length : Int) x13_1) = some r := H
                have A10 := Aside0.mk A100
                clear A100
                have H' := Aside0.mk H
                clear H
                have p108 : 0 ≤ (x13_1 : Int) := of_decide_eq_true (by first | (with_reducible assumption) | assumption)
                have q108 : x13_1 < (l0.length : Int) := of_decide_eq_true (by first | (with_reducible assumption) | assumption)
                obtain ⟨ad108, e108, hx108_0⟩ := Kd.at_string HR0.out x13_1 p108 q108
                cases e108
                replace hx108_0 := (HB.out.cell (World.block_lt_of_cell? w _ hx108_0)).trans hx108_0
                replace p108 := eq_true p108
                replace q108 := eq_true q108
                obtain ⟨Ao11, co11, eo11⟩ := Kd.R_slice HO_3.out
                subst eo11
                go_wp2_with (first | ((with_reducible refine gate_callee (f := 40) rfl ?_); refine goesL_ (some 21) rfl rfl Try.func40 (by kernel_rfl) rfl #[.int .i64 (x3_1.length : Int), .string (rdOf ByteArray.empty l0 x13_1)] rfl (by (try simp only [List.map_toArray, List.map_cons, List.map_nil]); first | done | rfl | (simp only [List.length_drop, List.length_take]; rfl)) ?_; (with_reducible refine (probe_first.calls k1 (x3_1.length : Int) (rdOf ByteArray.empty l0 x13_1) t109 _ A10.out).mono ?_); rintro e w' ⟨rfl, ⟨nd, rfl⟩⟩; refine ⟨_, rfl, ?_⟩))
                go_loopg [6] k1 (fun kq v6 w' => ∃ (x6_2 : Int), v6 = .int .i64 x6_2 ∧ Aside0 (probe_Build.l1 kq x3_1 x13_1 x6_2 l0 (l0.length : Int) x13_1 = some r) ∧ Aside0 (kq ≤ k1) ∧ Aside0 (Kd.R (Kd.int .i64) 3 w' w.heap.size (fun _ => True) (.slice Ao11 x3_1.length co11) x3_1) ∧ Aside0 (Below w.heap.size w w'))
                case atStart => exact ⟨(t109), (by first | rfl | (simp; done) | (simp [*]; done)), H', ⟨Nat.le_refl _⟩, ⟨by (with_reducible repeat (first | apply Kd.R_alloc | apply Kd.R_drewN | apply Kd.R_drew)); exact HO_3.out⟩, ⟨by repeat (first | (with_reducible first | exact HB.out | apply below_alloc | apply pw_below_drewN | apply below_drew1) | exact HB.out)⟩⟩
                case round =>
                  clear H'
                  try clear p1
                  try clear q1
                  try clear hx1
                  try clear p2
                  try clear c3
                  try clear c3b0
                  try clear c3b1
                  try clear c4
                  try clear c4b0
                  try clear c4b1
                  try clear c7
                  try clear c7b0
                  try clear c8
                  try clear c8b0
                  try clear c9
                  try clear c9b0
                  try clear p10
                  try clear q10
                  try clear hx10
                  try clear hx108_0
                  try clear p108
                  try clear p2
                  try clear q108
                  obtain ⟨x6_2, rfl, HA, HK2, HO_3, HB⟩ := hrel
                  cases gk with
                  | zero => exact absurd HA.out (by simp [probe_Build.l1])
                  | succ k2 =>
                    have H := HA.out
                    clear HA
                    simp only [probe_Build.l1] at H
                    by_cases c12 : 0 ≤ x6_2
                    · rw [if_pos c12] at H
                      have c12b0 : decide (0 ≤ x6_2) = true := decide_eq_true c12
                      clear c12
                      by_cases c13 : x6_2 < (x3_1.length : Int)
                      · rw [if_pos c13] at H
                        have c13b0 : decide (x6_2 < (x3_1.length : Int)) = true := decide_eq_true c13
                        clear c13
                        by_cases c14 : (rd x3_1 x6_2) = 0
                        · rw [if_pos c14] at H
                          have c14b0 : ((rd x3_1 x6_2) == 0) = true := beq_iff_eq.mpr c14
                          have c14b1 : ((rd x3_1 x6_2) != 0) = false := bne_eq_false_iff_eq.mpr c14
                          clear c14
                          obtain ⟨y111, hy111⟩ : ∃ y_ : List Int, y_ = (x3_1.set (x6_2 : Int).toNat (wrap64 (x13_1 + 1))) := ⟨_, rfl⟩
                          replace H : (probe_Build.l0 k2 y111 l0 (l0.length : Int) (wrap64 (x13_1 + 1))) = some r := by first | (rw [hy111]; with_reducible exact H) | (have H2_ := (Option.bind_some _ _).symm.trans H; rw [hy111]; with_reducible exact H2_) | (have H2_ := (Option.bind_some _ _).symm.trans H; with_reducible exact H2_) | with_reducible exact H | (rw [hy111]; exact H) | exact H
                          have Ny111 := Aside0.mk hy111
                          clear hy111
                          have H' := Aside0.mk H
                          clear H
                          have p110 : 0 ≤ (x6_2 : Int) := of_decide_eq_true (by first | (with_reducible assumption) | assumption)
                          have q110 : x6_2 < (x3_1.length : Int) := of_decide_eq_true (by first | (with_reducible assumption) | assumption)
                          obtain ⟨ad110, e110, hx110_0⟩ := Kd.at_int (Kd.R_reads' HO_3.out).2.2 x6_2 p110 q110
                          cases e110
                          replace p110 := eq_true p110
                          replace q110 := eq_true q110
                          have p15 : 0 ≤ (x6_2 : Int) := of_decide_eq_true (by first | (with_reducible assumption) | assumption)
                          have q15 : (x6_2 : Int) < ((x3_1.length : Int) : Int) := of_decide_eq_true (by first | (with_reducible assumption) | assumption)
                          obtain ⟨go15, co15, eo15, gb15, gl15, cl15, HG15⟩ := Kd.R_form HO_3.out (by omega)
                          (first | cases eo15 | (injection eo15 with ea_ en_ ec_; (first | subst ea_ | (injection ea_ with ea_; subst ea_)); subst ec_; clear en_))
                          have GB15 := Aside0.mk gb15
                          have GG15 := Aside0.mk HG15
                          clear gb15 gl15 HG15
                          (first | simp only [add_plain] at hx110_0 | skip)
                          obtain ⟨hx15_0, hf15_0⟩ := Kd.R_celln 0 HO_3.out (x6_2 : Int) p15 q15
                          replace p15 := eq_true p15
                          replace q15 := eq_true q15
                          have HP16 := Kd.R_putg HO_3.out (x6_2 : Int) (wrap64 (x13_1 + 1))
                          go_wp2_with (first | ((with_reducible refine gate_store (t := 3) (p := 37) rfl ?_); refine store_event (t := 3) (p := 37) (v := ?vo_w17) (w1 := (wr.setCell ⟨go15, (x6_2 : Int).toNat, none⟩ (.int .i64 (wrap64 (x13_1 + 1))))) ?hg ?ho ?hn ?hr ?_; (case ho => rfl); (case hg => rfl); (case hn => rfl); (case hr => first | (go_simp; done) | (go_simp; rfl)); intro w17 hw; have hg : wr.grownBy w17 (some go15) := (by rw [hw]; exact HP16.2); have hp_ : Kd.R (Kd.int .i64) 3 w17 w.heap.size (fun _ => True) (.slice (some ⟨go15, 0, none⟩) x3_1.length co11) y111 := (by rw [hw, Ny111.out]; exact HP16.1); clear HP16; have n0_ := Aside0.mk (hp_); have n1_ := Aside0.mk ((by rw [hw]; exact below_set (HB.out) GB15.out : Below w.heap.size w w17)); clear HO_3; clear HB; have HO_3 := n0_; have HB := n1_; clear n0_ n1_; clear hg hw hp_))
                          go_roundg k2
                          case measure => have := HK1.out; have := HK2.out; omega
                          case rel => exact ⟨(y111), (wrap64 (x13_1 + 1)), (by first | rfl | (simp; done) | (simp [*]; done)), H', ⟨by have := HK1.out; have := HK2.out; omega⟩, ⟨by (with_reducible repeat (first | apply Kd.R_alloc | apply Kd.R_drewN | apply Kd.R_drew)); exact HO_3.out⟩, ⟨by repeat (first | (with_reducible first | exact HB.out | apply below_alloc | apply pw_below_drewN | apply below_drew1) | exact HB.out)⟩⟩
                        · rw [if_neg c14] at H
                          have c14b0 : ((rd x3_1 x6_2) == 0) = false := beq_eq_false_iff_ne.mpr c14
                          have c14b1 : ((rd x3_1 x6_2) != 0) = true := bne_iff_ne.mpr c14
                          have H' := Aside0.mk H
                          clear H
                          have p110 : 0 ≤ (x6_2 : Int) := of_decide_eq_true (by first | (with_reducible assumption) | assumption)
                          have q110 : x6_2 < (x3_1.length : Int) := of_decide_eq_true (by first | (with_reducible assumption) | assumption)
                          obtain ⟨ad110, e110, hx110_0⟩ := Kd.at_int (Kd.R_reads' HO_3.out).2.2 x6_2 p110 q110
                          cases e110
                          replace p110 := eq_true p110
                          replace q110 := eq_true q110
                          go_wp2
                          go_roundg k2
                          case measure => have := HK1.out; have := HK2.out; omega
                          case rel => exact ⟨(Go.bits .and .i64 (wrap64 (x6_2 + 1)) (wrap64 ((x3_1.length : Int) - 1))), (by first | rfl | (simp; done) | (simp [*]; done)), H', ⟨by have := HK1.out; have := HK2.out; omega⟩, ⟨by (with_reducible repeat (first | apply Kd.R_alloc | apply Kd.R_drewN | apply Kd.R_drew)); exact HO_3.out⟩, ⟨by repeat (first | (with_reducible first | exact HB.out | apply below_alloc | apply pw_below_drewN | apply below_drew1) | exact HB.out)⟩⟩
                      · rw [if_neg c13] at H
                        exact absurd H (by simp)
                    · rw [if_neg c12] at H
                      exact absurd H (by simp)
              · rw [if_neg c9] at H
                exact absurd H (by simp)
            · rw [if_neg c8] at H
              exact absurd H (by simp)
          · rw [if_neg c7] at H
            have c7b0 : decide (x13_1 < (l0.length : Int)) = false := decide_eq_false c7
            clear c7
            obtain rfl := Option.some.inj H
            go_wp2
            go_ret
            exact ⟨_, by first | rfl | (simp [errW_none, errW_some] <;> rfl) | (simp [*, errW_none, errW_some] <;> rfl), by (with_reducible repeat (first | apply Kd.R_alloc | apply Kd.R_drewN | apply Kd.R_drew)); exact HO_3.out, by repeat (first | (with_reducible first | exact HB.out | apply below_alloc | apply pw_below_drewN | apply below_drew1) | exact HB.out)⟩
    · rw [if_neg c4] at H
      exact absurd H (by simp)
  · rw [if_neg c3] at H
    exact absurd H (by simp)

/-! ### probe_Find: function 34 -/
def probe_Find.l0 : Nat → List Int → List ByteArray → ByteArray → Int → Int → Option (Int × Int)
  | 0, _, _, _, _, _ => none
  | k + 1, x0, x1, x2, x8, x9 => if x9 ≤ (x0.length : Int) then (if 0 ≤ x8 then (if x8 < (x0.length : Int) then (if (rd x0 x8) = 0 then (some ((-1), x9)) else (if (rd x0 x8) > 0 then (if (rd x0 x8) ≤ (x1.length : Int) then (if 0 ≤ (wrap64 ((rd x0 x8) - 1)) then (if (wrap64 ((rd x0 x8) - 1)) < (x1.length : Int) then (if (rdOf ByteArray.empty x1 (wrap64 ((rd x0 x8) - 1))).toList = x2.toList then (some (wrap64 ((rd x0 x8) - 1), x9)) else (probe_Find.l0 k x0 x1 x2 (Go.bits .and .i64 (wrap64 (x8 + 1)) (wrap64 ((x0.length : Int) - 1))) (wrap64 (x9 + 1)))) else (none)) else (none)) else (probe_Find.l0 k x0 x1 x2 (Go.bits .and .i64 (wrap64 (x8 + 1)) (wrap64 ((x0.length : Int) - 1))) (wrap64 (x9 + 1)))) else (probe_Find.l0 k x0 x1 x2 (Go.bits .and .i64 (wrap64 (x8 + 1)) (wrap64 ((x0.length : Int) - 1))) (wrap64 (x9 + 1))))) else (none)) else (none)) else (some ((-1), (x0.length : Int)))
def probe_Find.f (k : Nat) (l0 : List Int) (l1 : List ByteArray) (a2 : ByteArray) : Option (Int × Int) := (probe_Size.f k (l1.length : Int)).bind fun t112 => (if (l0.length : Int) = t112 then ((probe_first.f k (l0.length : Int) a2).bind fun t113 => (probe_Find.l0 k l0 l1 a2 t113 1)) else (some ((-1), 0)))
theorem probe_Find.mono_l : ∀ k, (∀ y0 y1 y2 y3 y4, LeO (probe_Find.l0 k y0 y1 y2 y3 y4) (probe_Find.l0 (k + 1) y0 y1 y2 y3 y4))
  | 0 => fun _ _ _ _ _ r h => by simp [probe_Find.l0] at h
  | k + 1 => by
    have ih0 := probe_Find.mono_l k
    · intro y0 y1 y2 y3 y4
      unfold probe_Find.l0
      repeat' first
      | (with_reducible exact ih0 _ _ _ _ _)
      | (with_reducible exact probe_Size.mono _ _)
      | (with_reducible exact probe_first.mono _ _ _)
      | (with_reducible exact LeO.refl _)
      | (with_reducible exact LeO.none _)
      | (with_reducible refine LeO.ite ?_ ?_)
      | (with_reducible refine LeO.bind ?_ (fun _ => ?_))
      | exact ih0 _ _ _ _ _
      | exact probe_Size.mono _ _
      | exact probe_first.mono _ _ _
      | exact LeO.none _
      | refine LeO.ite ?_ ?_
      | refine LeO.bind ?_ (fun _ => ?_)
theorem probe_Find.mono : ∀ a0 a1 a2 k, LeO (probe_Find.f k a0 a1 a2) (probe_Find.f (k + 1) a0 a1 a2) := by
  intro a0 a1 a2 k
  have ih0 := probe_Find.mono_l k
  unfold probe_Find.f
  repeat' first
      | (with_reducible exact ih0 _ _ _ _ _)
      | (with_reducible exact probe_Size.mono _ _)
      | (with_reducible exact probe_first.mono _ _ _)
      | (with_reducible exact LeO.refl _)
      | (with_reducible exact LeO.none _)
      | (with_reducible refine LeO.ite ?_ ?_)
      | (with_reducible refine LeO.bind ?_ (fun _ => ?_))
      | exact ih0 _ _ _ _ _
      | exact probe_Size.mono _ _
      | exact probe_first.mono _ _ _
      | exact LeO.none _
      | refine LeO.ite ?_ ?_
      | refine LeO.bind ?_ (fun _ => ?_)
set_option maxHeartbeats 8000000 in
set_option maxRecDepth 100000 in
theorem probe_Find.calls (k : Nat) (A0 : Option Addr) (c0 : Nat) (l0 : List Int) (A1 : Option Addr) (c1 : Nat) (l1 : List ByteArray) (a2 : ByteArray) (r1 : Int) (r2 : Int) (w : World) (hr0 : Kd.C (Kd.int .i64) w A0 l0.length l0) (hc0 : l0.length ≤ c0) (hr1 : Kd.C Kd.string w A1 l1.length l1) (hc1 : l1.length ≤ c1) (h : probe_Find.f k l0 l1 a2 = some (r1, r2)) :
    Calls Try.prog 34 #[.slice A0 l0.length c0, .slice A1 l1.length c1, .string a2] w fun e w' => e = .returned (.tuple #[.int .i64 r1, .int .i64 r2]) ∧ Drawn0 w w' := by
  have HR0 := Aside0.mk hr0
  have HC0 := Aside0.mk hc0
  clear hr0 hc0
  have HR1 := Aside0.mk hr1
  have HC1 := Aside0.mk hc1
  clear hr1 hc1
  have H : ((probe_Size.f k (l1.length : Int)).bind fun t112 => (if (l0.length : Int) = t112 then ((probe_first.f k (l0.length : Int) a2).bind fun t113 => (probe_Find.l0 k l0 l1 a2 t113 1)) else (some ((-1), 0)))) = some (r1, r2) := h
  clear h
  replace H := Option.bind_eq_some_iff.mp H
  obtain ⟨t112, A40, H⟩ := H
  replace H : (if (l0.length : Int) = t112 then ((probe_first.f k (l0.length : Int) a2).bind fun t113 => (probe_Find.l0 k l0 l1 a2 t113 1)) else (some ((-1), 0))) = some (r1, r2) := H
  have A4 := Aside0.mk A40
  clear A40
  by_cases c5 : (l0.length : Int) = t112
  · rw [if_pos c5] at H
    have c5b0 : ((l0.length : Int) == t112) = true := beq_iff_eq.mpr c5
    have c5b1 : ((l0.length : Int) != t112) = false := bne_eq_false_iff_eq.mpr c5
    clear c5
    replace H := Option.bind_eq_some_iff.mp H
    obtain ⟨t113, A60, H⟩ := H
    replace H : (probe_Find.l0 k l0 l1 a2 t113 1) = some (r1, r2) := H
    have A6 := Aside0.mk A60
    clear A60
    have H' := Aside0.mk H
    clear H
    go_enter Try.func34, Try.ntmps34
    go_wp2_with (first | ((with_reducible refine gate_callee (f := 38) rfl ?_); refine goesL_ (some 15) rfl rfl Try.func38 (by kernel_rfl) rfl #[.int .i64 (l1.length : Int)] rfl (by (try simp only [List.map_toArray, List.map_cons, List.map_nil]); first | done | rfl | (simp only [List.length_drop, List.length_take]; rfl)) ?_; (with_reducible refine (probe_Size.calls k (l1.length : Int) t112 _ A4.out).mono ?_); rintro e w' ⟨rfl, ⟨nd, rfl⟩⟩; refine ⟨_, rfl, ?_⟩) | ((with_reducible refine gate_callee (f := 40) rfl ?_); refine goesL_ (some 20) rfl rfl Try.func40 (by kernel_rfl) rfl #[.int .i64 (l0.length : Int), .string a2] rfl (by (try simp only [List.map_toArray, List.map_cons, List.map_nil]); first | done | rfl | (simp only [List.length_drop, List.length_take]; rfl)) ?_; (with_reducible refine (probe_first.calls k (l0.length : Int) a2 t113 _ A6.out).mono ?_); rintro e w' ⟨rfl, ⟨nd, rfl⟩⟩; refine ⟨_, rfl, ?_⟩))
    go_loopg [8, 9] k (fun kq v8 v9 w' => ∃ (x8_1 : Int) (x9_1 : Int), v8 = .int .i64 x8_1 ∧ v9 = .int .i64 x9_1 ∧ Aside0 (probe_Find.l0 kq l0 l1 a2 x8_1 x9_1 = some (r1, r2)) ∧ Aside0 (kq ≤ k) ∧ Drawn0 w w')
    case atStart => exact ⟨(t113), (1), (by first | rfl | (simp; done) | (simp [*]; done)), (by first | rfl | (simp; done) | (simp [*]; done)), H', ⟨Nat.le_refl _⟩, by repeat (first | exact Drawn0.refl _ | apply Drawn0.step)⟩
    case round =>
      clear H'
      try clear c1
      try clear p2
      try clear c3
      try clear c4
      try clear c5
      try clear c5b0
      try clear c5b1
      obtain ⟨x8_1, x9_1, rfl, rfl, HA, HK1, ⟨m1, rfl⟩⟩ := hrel
      cases gk with
      | zero => exact absurd HA.out (by simp [probe_Find.l0])
      | succ k1 =>
        have H := HA.out
        clear HA
        simp only [probe_Find.l0] at H
        by_cases c7 : x9_1 ≤ (l0.length : Int)
        · rw [if_pos c7] at H
          have c7b0 : decide (x9_1 ≤ (l0.length : Int)) = true := decide_eq_true c7
          clear c7
          by_cases c8 : 0 ≤ x8_1
          · rw [if_pos c8] at H
            have c8b0 : decide (0 ≤ x8_1) = true := decide_eq_true c8
            clear c8
            by_cases c9 : x8_1 < (l0.length : Int)
            · rw [if_pos c9] at H
              have c9b0 : decide (x8_1 < (l0.length : Int)) = true := decide_eq_true c9
              clear c9
              by_cases c10 : (rd l0 x8_1) = 0
              · rw [if_pos c10] at H
                have c10b0 : ((rd l0 x8_1) == 0) = true := beq_iff_eq.mpr c10
                have c10b1 : ((rd l0 x8_1) != 0) = false := bne_eq_false_iff_eq.mpr c10
                clear c10
                simp only [Option.some.injEq, Prod.mk.injEq] at H
                obtain ⟨rfl, rfl⟩ := H
                have p114 : 0 ≤ (x8_1 : Int) := of_decide_eq_true (by first | (with_reducible assumption) | assumption)
                have q114 : x8_1 < (l0.length : Int) := of_decide_eq_true (by first | (with_reducible assumption) | assumption)
                obtain ⟨ad114, e114, hx114_0⟩ := Kd.at_int HR0.out x8_1 p114 q114
                cases e114
                replace p114 := eq_true p114
                replace q114 := eq_true q114
                go_wp2
                go_ret2
                exact ⟨by first | rfl | (simp; done) | (simp [*]; done), by repeat (first | exact Drawn0.refl _ | apply Drawn0.step)⟩
              · rw [if_neg c10] at H
                have c10b0 : ((rd l0 x8_1) == 0) = false := beq_eq_false_iff_ne.mpr c10
                have c10b1 : ((rd l0 x8_1) != 0) = true := bne_iff_ne.mpr c10
                by_cases c11 : (rd l0 x8_1) > 0
                · rw [if_pos c11] at H
                  have c11b0 : decide (0 < (rd l0 x8_1)) = true := decide_eq_true c11
                  clear c11
                  by_cases c12 : (rd l0 x8_1) ≤ (l1.length : Int)
                  · rw [if_pos c12] at H
                    have c12b0 : decide ((rd l0 x8_1) ≤ (l1.length : Int)) = true := decide_eq_true c12
                    clear c12
                    obtain ⟨ji13, hji13⟩ : ∃ j_ : Int, (wrap64 ((rd l0 x8_1) - 1)) = j_ := ⟨_, rfl⟩
                    replace H : (if 0 ≤ (ji13) then (if (ji13) < (l1.length : Int) then (if (rdOf ByteArray.empty l1 (ji13)).toList = a2.toList then (some (ji13, x9_1)) else (probe_Find.l0 k1 l0 l1 a2 (Go.bits .and .i64 (wrap64 (x8_1 + 1)) (wrap64 ((l0.length : Int) - 1))) (wrap64 (x9_1 + 1)))) else (none)) else (none)) = some (r1, r2) := by first | (rw [hji13] at H; exact H) | (simp only [hji13] at H ⊢; exact H)
                    have hji13w : (IntKind.i64.wrap ((rd l0 x8_1) - 1)) = ji13 := (i64_w _).trans hji13
                    by_cases c14 : 0 ≤ (ji13)
                    · rw [if_pos c14] at H
                      have c14b0 : decide (0 ≤ (ji13)) = true := decide_eq_true c14
                      clear c14
                      by_cases c15 : (ji13) < (l1.length : Int)
                      · rw [if_pos c15] at H
                        have c15b0 : decide ((ji13) < (l1.length : Int)) = true := decide_eq_true c15
                        clear c15
                        by_cases c16 : (rdOf ByteArray.empty l1 (ji13)).toList = a2.toList
                        · rw [if_pos c16] at H
                          have c16b0 : ((rdOf ByteArray.empty l1 (ji13)).toList == a2.toList) = true := beq_iff_eq.mpr c16
                          have c16b1 : ((rdOf ByteArray.empty l1 (ji13)).toList != a2.toList) = false := bne_eq_false_iff_eq.mpr c16
                          clear c16
                          simp only [Option.some.injEq, Prod.mk.injEq] at H
                          obtain ⟨rfl, rfl⟩ := H
                          have p114 : 0 ≤ (x8_1 : Int) := of_decide_eq_true (by first | (with_reducible assumption) | assumption)
                          have q114 : x8_1 < (l0.length : Int) := of_decide_eq_true (by first | (with_reducible assumption) | assumption)
                          obtain ⟨ad114, e114, hx114_0⟩ := Kd.at_int HR0.out x8_1 p114 q114
                          cases e114
                          replace p114 := eq_true p114
                          replace q114 := eq_true q114
                          have p115 : 0 ≤ ((ji13) : Int) := of_decide_eq_true (by first | (with_reducible assumption) | assumption)
                          have q115 : (ji13) < (l1.length : Int) := of_decide_eq_true (by first | (with_reducible assumption) | assumption)
                          obtain ⟨ad115, e115, hx115_0⟩ := Kd.at_string HR1.out (ji13) p115 q115
                          cases e115
                          replace p115 := eq_true p115
                          replace q115 := eq_true q115
                          go_wp2
                          go_ret2
                          exact ⟨by first | rfl | (simp; done) | (simp only [← hji13] <;> (first | rfl | simp)) | (simp [*]; done), by repeat (first | exact Drawn0.refl _ | apply Drawn0.step)⟩
                        · rw [if_neg c16] at H
                          have c16b0 : ((rdOf ByteArray.empty l1 (ji13)).toList == a2.toList) = false := beq_eq_false_iff_ne.mpr c16
                          have c16b1 : ((rdOf ByteArray.empty l1 (ji13)).toList != a2.toList) = true := bne_iff_ne.mpr c16
                          have H' := Aside0.mk H
                          clear H
                          have p114 : 0 ≤ (x8_1 : Int) := of_decide_eq_true (by first | (with_reducible assumption) | assumption)
                          have q114 : x8_1 < (l0.length : Int) := of_decide_eq_true (by first | (with_reducible assumption) | assumption)
                          obtain ⟨ad114, e114, hx114_0⟩ := Kd.at_int HR0.out x8_1 p114 q114
                          cases e114
                          replace p114 := eq_true p114
                          replace q114 := eq_true q114
                          have p115 : 0 ≤ ((ji13) : Int) := of_decide_eq_true (by first | (with_reducible assumption) | assumption)
                          have q115 : (ji13) < (l1.length : Int) := of_decide_eq_true (by first | (with_reducible assumption) | assumption)
                          obtain ⟨ad115, e115, hx115_0⟩ := Kd.at_string HR1.out (ji13) p115 q115
                          cases e115
                          replace p115 := eq_true p115
                          replace q115 := eq_true q115
                          go_wp2
                          go_roundg k1
                          case measure => have := HK1.out; omega
                          case rel => exact ⟨(Go.bits .and .i64 (wrap64 (x8_1 + 1)) (wrap64 ((l0.length : Int) - 1))), (wrap64 (x9_1 + 1)), (by first | rfl | (simp; done) | (simp [*]; done)), (by first | rfl | (simp; done) | (simp [*]; done)), H', ⟨by have := HK1.out; omega⟩, by repeat (first | exact Drawn0.refl _ | apply Drawn0.step)⟩
                      · rw [if_neg c15] at H
                        exact absurd H (by simp)
                    · rw [if_neg c14] at H
                      exact absurd H (by simp)
                  · rw [if_neg c12] at H
                    have c12b0 : decide ((rd l0 x8_1) ≤ (l1.length : Int)) = false := decide_eq_false c12
                    clear c12
                    have H' := Aside0.mk H
                    clear H
                    have p114 : 0 ≤ (x8_1 : Int) := of_decide_eq_true (by first | (with_reducible assumption) | assumption)
                    have q114 : x8_1 < (l0.length : Int) := of_decide_eq_true (by first | (with_reducible assumption) | assumption)
                    obtain ⟨ad114, e114, hx114_0⟩ := Kd.at_int HR0.out x8_1 p114 q114
                    cases e114
                    replace p114 := eq_true p114
                    replace q114 := eq_true q114
                    go_wp2
                    go_roundg k1
                    case measure => have := HK1.out; omega
                    case rel => exact ⟨(Go.bits .and .i64 (wrap64 (x8_1 + 1)) (wrap64 ((l0.length : Int) - 1))), (wrap64 (x9_1 + 1)), (by first | rfl | (simp; done) | (simp [*]; done)), (by first | rfl | (simp; done) | (simp [*]; done)), H', ⟨by have := HK1.out; omega⟩, by repeat (first | exact Drawn0.refl _ | apply Drawn0.step)⟩
                · rw [if_neg c11] at H
                  have c11b0 : decide (0 < (rd l0 x8_1)) = false := decide_eq_false c11
                  clear c11
                  have H' := Aside0.mk H
                  clear H
                  have p114 : 0 ≤ (x8_1 : Int) := of_decide_eq_true (by first | (with_reducible assumption) | assumption)
                  have q114 : x8_1 < (l0.length : Int) := of_decide_eq_true (by first | (with_reducible assumption) | assumption)
                  obtain ⟨ad114, e114, hx114_0⟩ := Kd.at_int HR0.out x8_1 p114 q114
                  cases e114
                  replace p114 := eq_true p114
                  replace q114 := eq_true q114
                  go_wp2
                  go_roundg k1
                  case measure => have := HK1.out; omega
                  case rel => exact ⟨(Go.bits .and .i64 (wrap64 (x8_1 + 1)) (wrap64 ((l0.length : Int) - 1))), (wrap64 (x9_1 + 1)), (by first | rfl | (simp; done) | (simp [*]; done)), (by first | rfl | (simp; done) | (simp [*]; done)), H', ⟨by have := HK1.out; omega⟩, by repeat (first | exact Drawn0.refl _ | apply Drawn0.step)⟩
            · rw [if_neg c9] at H
              exact absurd H (by simp)
          · rw [if_neg c8] at H
            exact absurd H (by simp)
        · rw [if_neg c7] at H
          have c7b0 : decide (x9_1 ≤ (l0.length : Int)) = false := decide_eq_false c7
          clear c7
          simp only [Option.some.injEq, Prod.mk.injEq] at H
          obtain ⟨rfl, rfl⟩ := H
          go_wp2
          go_ret2
          exact ⟨by first | rfl | (simp; done) | (simp [*]; done), by repeat (first | exact Drawn0.refl _ | apply Drawn0.step)⟩
  · rw [if_neg c5] at H
    have c5b0 : ((l0.length : Int) == t112) = false := beq_eq_false_iff_ne.mpr c5
    have c5b1 : ((l0.length : Int) != t112) = true := bne_iff_ne.mpr c5
    simp only [Option.some.injEq, Prod.mk.injEq] at H
    obtain ⟨rfl, rfl⟩ := H
    go_enter Try.func34, Try.ntmps34
    go_wp2_with (first | ((with_reducible refine gate_callee (f := 38) rfl ?_); refine goesL_ (some 15) rfl rfl Try.func38 (by kernel_rfl) rfl #[.int .i64 (l1.length : Int)] rfl (by (try simp only [List.map_toArray, List.map_cons, List.map_nil]); first | done | rfl | (simp only [List.length_drop, List.length_take]; rfl)) ?_; (with_reducible refine (probe_Size.calls k (l1.length : Int) t112 _ A4.out).mono ?_); rintro e w' ⟨rfl, ⟨nd, rfl⟩⟩; refine ⟨_, rfl, ?_⟩))
    go_ret2
    exact ⟨by first | rfl | (simp; done) | (simp [*]; done), by repeat (first | exact Drawn0.refl _ | apply Drawn0.step)⟩

/-! ### rundlelaw06_awake: function 31 -/
def rundlelaw06_awake.f (k : Nat)  : Option (Bool) := (probe_Build.f k ([] : List ByteArray)).bind fun t116 => ((probe_Find.f k t116 ([] : List ByteArray) (⟨#[97]⟩ : ByteArray)).bind fun bt119 => (if (t116.length : Int) = 2 then (if 0 < (t116.length : Int) then (if (rd t116 0) = 0 then (if 1 < (t116.length : Int) then (if (rd t116 1) = 0 then (if bt119.1 = (-1) then (some (bt119.2 == 1)) else (some false)) else (some false)) else (none)) else (some false)) else (none)) else (some false)))
theorem rundlelaw06_awake.mono : ∀ k, LeO (rundlelaw06_awake.f k ) (rundlelaw06_awake.f (k + 1) ) := by
  intro  k
  unfold rundlelaw06_awake.f
  repeat' first
      | (with_reducible exact probe_Build.mono _ _)
      | (with_reducible exact probe_Find.mono _ _ _ _)
      | (with_reducible exact LeO.refl _)
      | (with_reducible exact LeO.none _)
      | (with_reducible refine LeO.ite ?_ ?_)
      | (with_reducible refine LeO.bind ?_ (fun _ => ?_))
      | exact probe_Build.mono _ _
      | exact probe_Find.mono _ _ _ _
      | exact LeO.none _
      | refine LeO.ite ?_ ?_
      | refine LeO.bind ?_ (fun _ => ?_)
set_option maxHeartbeats 8000000 in
set_option maxRecDepth 100000 in
theorem rundlelaw06_awake.calls (k : Nat)  (r : Bool) (w : World) (h : rundlelaw06_awake.f k  = some r) :
    Calls Try.prog 31 #[] w fun e w' => e = .returned (.bool r) ∧ Below w.heap.size w w' := by
  have HB := Aside0.mk (Below.refl w.heap.size w)
  have H : ((probe_Build.f k ([] : List ByteArray)).bind fun t116 => ((probe_Find.f k t116 ([] : List ByteArray) (⟨#[97]⟩ : ByteArray)).bind fun bt119 => (if (t116.length : Int) = 2 then (if 0 < (t116.length : Int) then (if (rd t116 0) = 0 then (if 1 < (t116.length : Int) then (if (rd t116 1) = 0 then (if bt119.1 = (-1) then (some (bt119.2 == 1)) else (some false)) else (some false)) else (none)) else (some false)) else (none)) else (some false)))) = some r := h
  clear h
  replace H := Option.bind_eq_some_iff.mp H
  obtain ⟨t116, A10, H⟩ := H
  replace H : ((probe_Find.f k t116 ([] : List ByteArray) (⟨#[97]⟩ : ByteArray)).bind fun bt119 => (if (t116.length : Int) = 2 then (if 0 < (t116.length : Int) then (if (rd t116 0) = 0 then (if 1 < (t116.length : Int) then (if (rd t116 1) = 0 then (if bt119.1 = (-1) then (some (bt119.2 == 1)) else (some false)) else (some false)) else (none)) else (some false)) else (none)) else (some false))) = some r := H
  have A1 := Aside0.mk A10
  clear A10
  replace H := Option.bind_eq_some_iff.mp H
  obtain ⟨⟨t119, t120⟩, A20, H⟩ := H
  replace H : (if (t116.length : Int) = 2 then (if 0 < (t116.length : Int) then (if (rd t116 0) = 0 then (if 1 < (t116.length : Int) then (if (rd t116 1) = 0 then (if t119 = (-1) then (some (t120 == 1)) else (some false)) else (some false)) else (none)) else (some false)) else (none)) else (some false)) = some r := H
  have A2 := Aside0.mk A20
  clear A20
  by_cases c3 : (t116.length : Int) = 2
  · rw [if_pos c3] at H
    have c3b0 : ((t116.length : Int) == 2) = true := beq_iff_eq.mpr c3
    have c3b1 : ((t116.length : Int) != 2) = false := bne_eq_false_iff_eq.mpr c3
    clear c3
    by_cases c4 : 0 < (t116.length : Int)
    · rw [if_pos c4] at H
      have c4b0 : decide (0 < (t116.length : Int)) = true := decide_eq_true c4
      have c4b1 : decide (0 < t116.length) = true := decide_eq_true (by omega)
      clear c4
      by_cases c5 : (rd t116 0) = 0
      · rw [if_pos c5] at H
        have c5b0 : ((rd t116 0) == 0) = true := beq_iff_eq.mpr c5
        have c5b1 : ((rd t116 0) != 0) = false := bne_eq_false_iff_eq.mpr c5
        clear c5
        by_cases c6 : 1 < (t116.length : Int)
        · rw [if_pos c6] at H
          have c6b0 : decide (1 < (t116.length : Int)) = true := decide_eq_true c6
          have c6b1 : decide (1 < t116.length) = true := decide_eq_true (by omega)
          clear c6
          by_cases c7 : (rd t116 1) = 0
          · rw [if_pos c7] at H
            have c7b0 : ((rd t116 1) == 0) = true := beq_iff_eq.mpr c7
            have c7b1 : ((rd t116 1) != 0) = false := bne_eq_false_iff_eq.mpr c7
            clear c7
            by_cases c8 : t119 = (-1)
            · rw [if_pos c8] at H
              have c8b0 : (t119 == (-1)) = true := beq_iff_eq.mpr c8
              have c8b1 : (t119 != (-1)) = false := bne_eq_false_iff_eq.mpr c8
              clear c8
              obtain rfl := Option.some.inj H
              go_enter Try.func31, Try.ntmps31
              go_wp2_with (first | ((with_reducible refine gate_callee (f := 33) rfl ?_); refine goesL_ (some 4) rfl rfl Try.func33 (by kernel_rfl) rfl #[.slice none 0 0] rfl (by (try simp only [List.map_toArray, List.map_cons, List.map_nil]); first | done | rfl | (simp only [List.length_drop, List.length_take]; rfl)) ?_; (refine (probe_Build.calls k _ _ ([] : List ByteArray) t116 _ ?side1 ?side2 A1.out).mono ?_); (case side1 => exact Kd.C_nil _ _); (case side2 => exact Nat.le_refl _); rintro e w9 ⟨v117, rfl, ho0, hb⟩; refine ⟨_, rfl, ?_⟩; have n0_ := Aside0.mk (Kd.R_lower ho0 (below_size (by repeat (first | (with_reducible first | exact HB.out | apply below_alloc | apply pw_below_drewN | apply below_drew1) | exact HB.out)))); have n1_ := Aside0.mk (below_step (by repeat (first | (with_reducible first | exact HB.out | apply below_alloc | apply pw_below_drewN | apply below_drew1) | exact HB.out)) hb); clear HB; have HO118 := n0_; have HB := n1_; clear n0_ n1_; (try clear hb); (try clear hb2); (try clear hk); (try clear hi); (try clear ho0); obtain ⟨Ao10, co10, eo10⟩ := Kd.R_slice HO118.out; subst eo10) | ((with_reducible refine gate_callee (f := 34) rfl ?_); refine goesL_ (some 7) rfl rfl Try.func34 (by kernel_rfl) rfl #[.slice Ao10 t116.length co10, .slice none 0 0, .string (⟨#[97]⟩ : ByteArray)] rfl (by (try simp only [List.map_toArray, List.map_cons, List.map_nil]); first | done | rfl | (simp only [List.length_drop, List.length_take]; rfl)) ?_; (refine (probe_Find.calls k _ _ t116 _ _ ([] : List ByteArray) (⟨#[97]⟩ : ByteArray) t119 t120 _ ?side1 ?side2 ?side3 ?side4 A2.out).mono ?_); (case side1 => repeat (first | exact (Kd.R_reads' HO118.out).2.2 | (with_reducible refine Kd.C_alloc ?_ _) | (with_reducible refine Kd.C_drewN ?_ _) | (with_reducible refine Kd.C_drew ?_))); (case side2 => exact (Kd.R_reads' HO118.out).2.1); (case side3 => exact Kd.C_nil _ _); (case side4 => exact Nat.le_refl _); rintro e w' ⟨rfl, ⟨nd, rfl⟩⟩; refine ⟨_, rfl, ?_⟩; have p121 : 0 ≤ (0 : Int) := (by omega); have q121 : 0 < (t116.length : Int) := of_decide_eq_true (by first | (with_reducible assumption) | assumption); obtain ⟨ad121, e121, hx121_0⟩ := Kd.at_int (Kd.R_reads' HO118.out).2.2 0 p121 q121; cases e121; have qi121 : (0 < t116.length) = True := eq_true (by omega); (try rw [show ((0 : Int)).toNat = 0 from rfl] at hx121_0); (try rw [Addr.add_zero'] at hx121_0); replace p121 := eq_true p121; replace q121 := eq_true q121; have p122 : 0 ≤ (1 : Int) := (by omega); have q122 : 1 < (t116.length : Int) := of_decide_eq_true (by first | (with_reducible assumption) | assumption); obtain ⟨ad122, e122, hx122_0⟩ := Kd.at_int (Kd.R_reads' HO118.out).2.2 1 p122 q122; obtain rfl : ad121 = ad122 := (by injection e122); (try simp only [show (1 : Int).toNat = 1 from rfl, Nat.reduceMul, Nat.reduceEqDiff, Go.Addr.add, ↓reduceIte] at hx122_0); have qi122 : (1 < t116.length) = True := eq_true (by omega); (try rw [show ((1 : Int)).toNat = 1 from rfl] at hx122_0); replace p122 := eq_true p122; replace q122 := eq_true q122))
              go_ret
              exact ⟨by first | rfl | (simp [errW_none, errW_some] <;> rfl) | (simp [*, errW_none, errW_some] <;> rfl), by repeat (first | (with_reducible first | exact HB.out | apply below_alloc | apply pw_below_drewN | apply below_drew1) | exact HB.out)⟩
            · rw [if_neg c8] at H
              have c8b0 : (t119 == (-1)) = false := beq_eq_false_iff_ne.mpr c8
              have c8b1 : (t119 != (-1)) = true := bne_iff_ne.mpr c8
              obtain rfl := Option.some.inj H
              go_enter Try.func31, Try.ntmps31
              go_wp2_with (first | ((with_reducible refine gate_callee (f := 33) rfl ?_); refine goesL_ (some 4) rfl rfl Try.func33 (by kernel_rfl) rfl #[.slice none 0 0] rfl (by (try simp only [List.map_toArray, List.map_cons, List.map_nil]); first | done | rfl | (simp only [List.length_drop, List.length_take]; rfl)) ?_; (refine (probe_Build.calls k _ _ ([] : List ByteArray) t116 _ ?side1 ?side2 A1.out).mono ?_); (case side1 => exact Kd.C_nil _ _); (case side2 => exact Nat.le_refl _); rintro e w11 ⟨v117, rfl, ho0, hb⟩; refine ⟨_, rfl, ?_⟩; have n0_ := Aside0.mk (Kd.R_lower ho0 (below_size (by repeat (first | (with_reducible first | exact HB.out | apply below_alloc | apply pw_below_drewN | apply below_drew1) | exact HB.out)))); have n1_ := Aside0.mk (below_step (by repeat (first | (with_reducible first | exact HB.out | apply below_alloc | apply pw_below_drewN | apply below_drew1) | exact HB.out)) hb); clear HB; have HO118 := n0_; have HB := n1_; clear n0_ n1_; (try clear hb); (try clear hb2); (try clear hk); (try clear hi); (try clear ho0); obtain ⟨Ao12, co12, eo12⟩ := Kd.R_slice HO118.out; subst eo12) | ((with_reducible refine gate_callee (f := 34) rfl ?_); refine goesL_ (some 7) rfl rfl Try.func34 (by kernel_rfl) rfl #[.slice Ao12 t116.length co12, .slice none 0 0, .string (⟨#[97]⟩ : ByteArray)] rfl (by (try simp only [List.map_toArray, List.map_cons, List.map_nil]); first | done | rfl | (simp only [List.length_drop, List.length_take]; rfl)) ?_; (refine (probe_Find.calls k _ _ t116 _ _ ([] : List ByteArray) (⟨#[97]⟩ : ByteArray) t119 t120 _ ?side1 ?side2 ?side3 ?side4 A2.out).mono ?_); (case side1 => repeat (first | exact (Kd.R_reads' HO118.out).2.2 | (with_reducible refine Kd.C_alloc ?_ _) | (with_reducible refine Kd.C_drewN ?_ _) | (with_reducible refine Kd.C_drew ?_))); (case side2 => exact (Kd.R_reads' HO118.out).2.1); (case side3 => exact Kd.C_nil _ _); (case side4 => exact Nat.le_refl _); rintro e w' ⟨rfl, ⟨nd, rfl⟩⟩; refine ⟨_, rfl, ?_⟩; have p121 : 0 ≤ (0 : Int) := (by omega); have q121 : 0 < (t116.length : Int) := of_decide_eq_true (by first | (with_reducible assumption) | assumption); obtain ⟨ad121, e121, hx121_0⟩ := Kd.at_int (Kd.R_reads' HO118.out).2.2 0 p121 q121; cases e121; have qi121 : (0 < t116.length) = True := eq_true (by omega); (try rw [show ((0 : Int)).toNat = 0 from rfl] at hx121_0); (try rw [Addr.add_zero'] at hx121_0); replace p121 := eq_true p121; replace q121 := eq_true q121; have p122 : 0 ≤ (1 : Int) := (by omega); have q122 : 1 < (t116.length : Int) := of_decide_eq_true (by first | (with_reducible assumption) | assumption); obtain ⟨ad122, e122, hx122_0⟩ := Kd.at_int (Kd.R_reads' HO118.out).2.2 1 p122 q122; obtain rfl : ad121 = ad122 := (by injection e122); (try simp only [show (1 : Int).toNat = 1 from rfl, Nat.reduceMul, Nat.reduceEqDiff, Go.Addr.add, ↓reduceIte] at hx122_0); have qi122 : (1 < t116.length) = True := eq_true (by omega); (try rw [show ((1 : Int)).toNat = 1 from rfl] at hx122_0); replace p122 := eq_true p122; replace q122 := eq_true q122))
              go_ret
              exact ⟨by first | rfl | (simp [errW_none, errW_some] <;> rfl) | (simp [*, errW_none, errW_some] <;> rfl), by repeat (first | (with_reducible first | exact HB.out | apply below_alloc | apply pw_below_drewN | apply below_drew1) | exact HB.out)⟩
          · rw [if_neg c7] at H
            have c7b0 : ((rd t116 1) == 0) = false := beq_eq_false_iff_ne.mpr c7
            have c7b1 : ((rd t116 1) != 0) = true := bne_iff_ne.mpr c7
            obtain rfl := Option.some.inj H
            go_enter Try.func31, Try.ntmps31
            go_wp2_with (first | ((with_reducible refine gate_callee (f := 33) rfl ?_); refine goesL_ (some 4) rfl rfl Try.func33 (by kernel_rfl) rfl #[.slice none 0 0] rfl (by (try simp only [List.map_toArray, List.map_cons, List.map_nil]); first | done | rfl | (simp only [List.length_drop, List.length_take]; rfl)) ?_; (refine (probe_Build.calls k _ _ ([] : List ByteArray) t116 _ ?side1 ?side2 A1.out).mono ?_); (case side1 => exact Kd.C_nil _ _); (case side2 => exact Nat.le_refl _); rintro e w13 ⟨v117, rfl, ho0, hb⟩; refine ⟨_, rfl, ?_⟩; have n0_ := Aside0.mk (Kd.R_lower ho0 (below_size (by repeat (first | (with_reducible first | exact HB.out | apply below_alloc | apply pw_below_drewN | apply below_drew1) | exact HB.out)))); have n1_ := Aside0.mk (below_step (by repeat (first | (with_reducible first | exact HB.out | apply below_alloc | apply pw_below_drewN | apply below_drew1) | exact HB.out)) hb); clear HB; have HO118 := n0_; have HB := n1_; clear n0_ n1_; (try clear hb); (try clear hb2); (try clear hk); (try clear hi); (try clear ho0); obtain ⟨Ao14, co14, eo14⟩ := Kd.R_slice HO118.out; subst eo14) | ((with_reducible refine gate_callee (f := 34) rfl ?_); refine goesL_ (some 7) rfl rfl Try.func34 (by kernel_rfl) rfl #[.slice Ao14 t116.length co14, .slice none 0 0, .string (⟨#[97]⟩ : ByteArray)] rfl (by (try simp only [List.map_toArray, List.map_cons, List.map_nil]); first | done | rfl | (simp only [List.length_drop, List.length_take]; rfl)) ?_; (refine (probe_Find.calls k _ _ t116 _ _ ([] : List ByteArray) (⟨#[97]⟩ : ByteArray) t119 t120 _ ?side1 ?side2 ?side3 ?side4 A2.out).mono ?_); (case side1 => repeat (first | exact (Kd.R_reads' HO118.out).2.2 | (with_reducible refine Kd.C_alloc ?_ _) | (with_reducible refine Kd.C_drewN ?_ _) | (with_reducible refine Kd.C_drew ?_))); (case side2 => exact (Kd.R_reads' HO118.out).2.1); (case side3 => exact Kd.C_nil _ _); (case side4 => exact Nat.le_refl _); rintro e w' ⟨rfl, ⟨nd, rfl⟩⟩; refine ⟨_, rfl, ?_⟩; have p121 : 0 ≤ (0 : Int) := (by omega); have q121 : 0 < (t116.length : Int) := of_decide_eq_true (by first | (with_reducible assumption) | assumption); obtain ⟨ad121, e121, hx121_0⟩ := Kd.at_int (Kd.R_reads' HO118.out).2.2 0 p121 q121; cases e121; have qi121 : (0 < t116.length) = True := eq_true (by omega); (try rw [show ((0 : Int)).toNat = 0 from rfl] at hx121_0); (try rw [Addr.add_zero'] at hx121_0); replace p121 := eq_true p121; replace q121 := eq_true q121; have p122 : 0 ≤ (1 : Int) := (by omega); have q122 : 1 < (t116.length : Int) := of_decide_eq_true (by first | (with_reducible assumption) | assumption); obtain ⟨ad122, e122, hx122_0⟩ := Kd.at_int (Kd.R_reads' HO118.out).2.2 1 p122 q122; obtain rfl : ad121 = ad122 := (by injection e122); (try simp only [show (1 : Int).toNat = 1 from rfl, Nat.reduceMul, Nat.reduceEqDiff, Go.Addr.add, ↓reduceIte] at hx122_0); have qi122 : (1 < t116.length) = True := eq_true (by omega); (try rw [show ((1 : Int)).toNat = 1 from rfl] at hx122_0); replace p122 := eq_true p122; replace q122 := eq_true q122))
            go_ret
            exact ⟨by first | rfl | (simp [errW_none, errW_some] <;> rfl) | (simp [*, errW_none, errW_some] <;> rfl), by repeat (first | (with_reducible first | exact HB.out | apply below_alloc | apply pw_below_drewN | apply below_drew1) | exact HB.out)⟩
        · rw [if_neg c6] at H
          exact absurd H (by simp)
      · rw [if_neg c5] at H
        have c5b0 : ((rd t116 0) == 0) = false := beq_eq_false_iff_ne.mpr c5
        have c5b1 : ((rd t116 0) != 0) = true := bne_iff_ne.mpr c5
        obtain rfl := Option.some.inj H
        go_enter Try.func31, Try.ntmps31
        go_wp2_with (first | ((with_reducible refine gate_callee (f := 33) rfl ?_); refine goesL_ (some 4) rfl rfl Try.func33 (by kernel_rfl) rfl #[.slice none 0 0] rfl (by (try simp only [List.map_toArray, List.map_cons, List.map_nil]); first | done | rfl | (simp only [List.length_drop, List.length_take]; rfl)) ?_; (refine (probe_Build.calls k _ _ ([] : List ByteArray) t116 _ ?side1 ?side2 A1.out).mono ?_); (case side1 => exact Kd.C_nil _ _); (case side2 => exact Nat.le_refl _); rintro e w15 ⟨v117, rfl, ho0, hb⟩; refine ⟨_, rfl, ?_⟩; have n0_ := Aside0.mk (Kd.R_lower ho0 (below_size (by repeat (first | (with_reducible first | exact HB.out | apply below_alloc | apply pw_below_drewN | apply below_drew1) | exact HB.out)))); have n1_ := Aside0.mk (below_step (by repeat (first | (with_reducible first | exact HB.out | apply below_alloc | apply pw_below_drewN | apply below_drew1) | exact HB.out)) hb); clear HB; have HO118 := n0_; have HB := n1_; clear n0_ n1_; (try clear hb); (try clear hb2); (try clear hk); (try clear hi); (try clear ho0); obtain ⟨Ao16, co16, eo16⟩ := Kd.R_slice HO118.out; subst eo16) | ((with_reducible refine gate_callee (f := 34) rfl ?_); refine goesL_ (some 7) rfl rfl Try.func34 (by kernel_rfl) rfl #[.slice Ao16 t116.length co16, .slice none 0 0, .string (⟨#[97]⟩ : ByteArray)] rfl (by (try simp only [List.map_toArray, List.map_cons, List.map_nil]); first | done | rfl | (simp only [List.length_drop, List.length_take]; rfl)) ?_; (refine (probe_Find.calls k _ _ t116 _ _ ([] : List ByteArray) (⟨#[97]⟩ : ByteArray) t119 t120 _ ?side1 ?side2 ?side3 ?side4 A2.out).mono ?_); (case side1 => repeat (first | exact (Kd.R_reads' HO118.out).2.2 | (with_reducible refine Kd.C_alloc ?_ _) | (with_reducible refine Kd.C_drewN ?_ _) | (with_reducible refine Kd.C_drew ?_))); (case side2 => exact (Kd.R_reads' HO118.out).2.1); (case side3 => exact Kd.C_nil _ _); (case side4 => exact Nat.le_refl _); rintro e w' ⟨rfl, ⟨nd, rfl⟩⟩; refine ⟨_, rfl, ?_⟩; have p121 : 0 ≤ (0 : Int) := (by omega); have q121 : 0 < (t116.length : Int) := of_decide_eq_true (by first | (with_reducible assumption) | assumption); obtain ⟨ad121, e121, hx121_0⟩ := Kd.at_int (Kd.R_reads' HO118.out).2.2 0 p121 q121; cases e121; have qi121 : (0 < t116.length) = True := eq_true (by omega); (try rw [show ((0 : Int)).toNat = 0 from rfl] at hx121_0); (try rw [Addr.add_zero'] at hx121_0); replace p121 := eq_true p121; replace q121 := eq_true q121))
        go_ret
        exact ⟨by first | rfl | (simp [errW_none, errW_some] <;> rfl) | (simp [*, errW_none, errW_some] <;> rfl), by repeat (first | (with_reducible first | exact HB.out | apply below_alloc | apply pw_below_drewN | apply below_drew1) | exact HB.out)⟩
    · rw [if_neg c4] at H
      exact absurd H (by simp)
  · rw [if_neg c3] at H
    have c3b0 : ((t116.length : Int) == 2) = false := beq_eq_false_iff_ne.mpr c3
    have c3b1 : ((t116.length : Int) != 2) = true := bne_iff_ne.mpr c3
    obtain rfl := Option.some.inj H
    go_enter Try.func31, Try.ntmps31
    go_wp2_with (first | ((with_reducible refine gate_callee (f := 33) rfl ?_); refine goesL_ (some 4) rfl rfl Try.func33 (by kernel_rfl) rfl #[.slice none 0 0] rfl (by (try simp only [List.map_toArray, List.map_cons, List.map_nil]); first | done | rfl | (simp only [List.length_drop, List.length_take]; rfl)) ?_; (refine (probe_Build.calls k _ _ ([] : List ByteArray) t116 _ ?side1 ?side2 A1.out).mono ?_); (case side1 => exact Kd.C_nil _ _); (case side2 => exact Nat.le_refl _); rintro e w17 ⟨v117, rfl, ho0, hb⟩; refine ⟨_, rfl, ?_⟩; have n0_ := Aside0.mk (Kd.R_lower ho0 (below_size (by repeat (first | (with_reducible first | exact HB.out | apply below_alloc | apply pw_below_drewN | apply below_drew1) | exact HB.out)))); have n1_ := Aside0.mk (below_step (by repeat (first | (with_reducible first | exact HB.out | apply below_alloc | apply pw_below_drewN | apply below_drew1) | exact HB.out)) hb); clear HB; have HO118 := n0_; have HB := n1_; clear n0_ n1_; (try clear hb); (try clear hb2); (try clear hk); (try clear hi); (try clear ho0); obtain ⟨Ao18, co18, eo18⟩ := Kd.R_slice HO118.out; subst eo18) | ((with_reducible refine gate_callee (f := 34) rfl ?_); refine goesL_ (some 7) rfl rfl Try.func34 (by kernel_rfl) rfl #[.slice Ao18 t116.length co18, .slice none 0 0, .string (⟨#[97]⟩ : ByteArray)] rfl (by (try simp only [List.map_toArray, List.map_cons, List.map_nil]); first | done | rfl | (simp only [List.length_drop, List.length_take]; rfl)) ?_; (refine (probe_Find.calls k _ _ t116 _ _ ([] : List ByteArray) (⟨#[97]⟩ : ByteArray) t119 t120 _ ?side1 ?side2 ?side3 ?side4 A2.out).mono ?_); (case side1 => repeat (first | exact (Kd.R_reads' HO118.out).2.2 | (with_reducible refine Kd.C_alloc ?_ _) | (with_reducible refine Kd.C_drewN ?_ _) | (with_reducible refine Kd.C_drew ?_))); (case side2 => exact (Kd.R_reads' HO118.out).2.1); (case side3 => exact Kd.C_nil _ _); (case side4 => exact Nat.le_refl _); rintro e w' ⟨rfl, ⟨nd, rfl⟩⟩; refine ⟨_, rfl, ?_⟩))
    go_ret
    exact ⟨by first | rfl | (simp [errW_none, errW_some] <;> rfl) | (simp [*, errW_none, errW_some] <;> rfl), by repeat (first | (with_reducible first | exact HB.out | apply below_alloc | apply pw_below_drewN | apply below_drew1) | exact HB.out)⟩

end Go.Proofs.Ytdmmpokfofcdgaa.PProbePlays
