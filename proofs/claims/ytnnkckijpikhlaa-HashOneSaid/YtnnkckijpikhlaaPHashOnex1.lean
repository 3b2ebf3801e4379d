-- PRINTED BY print.sh 35421559b90ae4d0a3588c463048766b98c2df88dd9212a6774a882060cdf62d: not written by this session
import Derived.Test.YtnnkckijpikhlaaPHashOnex0
namespace Go.Proofs.Ytnnkckijpikhlaa.PHashOne
open Go.RowKit Go.Proofs.YtnnkckijpikhlaaW.PrintWords Go.Proofs.YtnnkckijpikhlaaW.PrintLast Go.Proofs.YtnnkckijpikhlaaW.PrintMore
attribute [local go_sem] max2_int min2_int max_two min_two max_three min_three max_four min_four   -- for this text's walks alone
set_option linter.unusedVariables false
set_option linter.unusedSimpArgs false

/-! ### hash_Add: function 24 -/
def hash_Add.l0 : Nat → Int → ByteArray → Int → Int → Option (Int)
  | 0, _, _, _, _ => none
  | k + 1, x0, x1, x7, x8 => if x8 < x7 then (if 0 ≤ x8 then (if x8 < (x1.size : Int) then (hash_Add.l0 k (Go.bits .xor .u32 ((((x0 + ((bt x1 x8) % 4294967296)) % 4294967296) + ((((x0 + ((bt x1 x8) % 4294967296)) % 4294967296) * 1024) % 4294967296)) % 4294967296) (((((x0 + ((bt x1 x8) % 4294967296)) % 4294967296) + ((((x0 + ((bt x1 x8) % 4294967296)) % 4294967296) * 1024) % 4294967296)) % 4294967296) / 64)) x1 x7 (wrap64 (x8 + 1))) else (none)) else (none)) else (some x0)
def hash_Add.f (k : Nat) (a0 : Int) (a1 : ByteArray) : Option (Int) := hash_Add.l0 k a0 a1 (a1.size : Int) 0
theorem hash_Add.mono_l : ∀ k, (∀ y0 y1 y2 y3, LeO (hash_Add.l0 k y0 y1 y2 y3) (hash_Add.l0 (k + 1) y0 y1 y2 y3))
  | 0 => fun _ _ _ _ r h => by simp [hash_Add.l0] at h
  | k + 1 => by
    have ih0 := hash_Add.mono_l k
    · intro y0 y1 y2 y3
      unfold hash_Add.l0
      repeat' first
      | (with_reducible exact ih0 _ _ _ _)
      | (with_reducible exact LeO.refl _)
      | (with_reducible exact LeO.none _)
      | (with_reducible refine LeO.ite ?_ ?_)
      | (with_reducible refine LeO.bind ?_ (fun _ => ?_))
      | exact ih0 _ _ _ _
      | exact LeO.none _
      | refine LeO.ite ?_ ?_
      | refine LeO.bind ?_ (fun _ => ?_)
theorem hash_Add.mono : ∀ a0 a1 k, LeO (hash_Add.f k a0 a1) (hash_Add.f (k + 1) a0 a1) := by
  intro a0 a1 k
  have ih0 := hash_Add.mono_l k
  unfold hash_Add.f
  repeat' first
      | (with_reducible exact ih0 _ _ _ _)
      | (with_reducible exact LeO.refl _)
      | (with_reducible exact LeO.none _)
      | (with_reducible refine LeO.ite ?_ ?_)
      | (with_reducible refine LeO.bind ?_ (fun _ => ?_))
      | exact ih0 _ _ _ _
      | exact LeO.none _
      | refine LeO.ite ?_ ?_
      | refine LeO.bind ?_ (fun _ => ?_)
set_option maxHeartbeats 8000000 in
set_option maxRecDepth 100000 in
theorem hash_Add.calls (k : Nat) (a0 : Int) (a1 : ByteArray) (r : Int) (w : World) (h : hash_Add.f k a0 a1 = some r) :
    Calls Try.prog 24 #[.int .u32 a0, .string a1] w fun e w' => e = .returned (.int .u32 r) ∧ Drawn0 w w' := by
  have H : (hash_Add.l0 k a0 a1 (a1.size : Int) 0) = some r := h
  clear h
  have H' := Aside0.mk H
  clear H
  go_enter Try.func24, Try.ntmps24
  go_wp2
  go_loopg [0, 8] k (fun kq v0 v8 w' => ∃ (x0_1 : Int) (x8_1 : Int), v0 = .int .u32 x0_1 ∧ v8 = .int .i64 x8_1 ∧ Aside0 (hash_Add.l0 kq x0_1 a1 (a1.size : Int) x8_1 = some r) ∧ Aside0 (kq ≤ k) ∧ Drawn0 w w')
  case atStart => exact ⟨(a0), (0), (by first | rfl | (simp; done) | (simp [*]; done)), (by first | rfl | (simp; done) | (simp [*]; done)), H', ⟨Nat.le_refl _⟩, by repeat (first | exact Drawn0.refl _ | apply Drawn0.step)⟩
  case round =>
    clear H'
    try clear c2
    try clear p2
    obtain ⟨x0_1, x8_1, rfl, rfl, HA, HK1, ⟨m1, rfl⟩⟩ := hrel
    cases gk with
    | zero => exact absurd HA.out (by simp [hash_Add.l0])
    | succ k1 =>
      have H := HA.out
      clear HA
      simp only [hash_Add.l0] at H
      by_cases c3 : x8_1 < (a1.size : Int)
      · rw [if_pos c3] at H
        have c3b0 : decide (x8_1 < (a1.size : Int)) = true := decide_eq_true c3
        clear c3
        by_cases c4 : 0 ≤ x8_1
        · rw [if_pos c4] at H
          have c4b0 : decide (0 ≤ x8_1) = true := decide_eq_true c4
          clear c4
          by_cases c5 : x8_1 < (a1.size : Int)
          · rw [if_pos c5] at H
            have c5b0 : decide (x8_1 < (a1.size : Int)) = true := decide_eq_true c5
            clear c5
            have H' := Aside0.mk H
            clear H
            have p6 : 0 ≤ (x8_1 : Int) := of_decide_eq_true (by first | (with_reducible assumption) | assumption)
            have q6 : x8_1 < (a1.size : Int) := of_decide_eq_true (by first | (with_reducible assumption) | assumption)
            have hx6 := bt_at a1 x8_1
            replace p6 := eq_true p6
            replace q6 := eq_true q6
            go_wp2
            go_roundg k1
            case measure => have := HK1.out; omega
            case rel => exact ⟨(Go.bits .xor .u32 ((((x0_1 + ((bt a1 x8_1) % 4294967296)) % 4294967296) + ((((x0_1 + ((bt a1 x8_1) % 4294967296)) % 4294967296) * 1024) % 4294967296)) % 4294967296) (((((x0_1 + ((bt a1 x8_1) % 4294967296)) % 4294967296) + ((((x0_1 + ((bt a1 x8_1) % 4294967296)) % 4294967296) * 1024) % 4294967296)) % 4294967296) / 64)), (wrap64 (x8_1 + 1)), (by first | rfl | (simp; done) | (simp [*]; done)), (by first | rfl | (simp; done) | (simp [*]; done)), H', ⟨by have := HK1.out; omega⟩, by repeat (first | exact Drawn0.refl _ | apply Drawn0.step)⟩
          · rw [if_neg c5] at H
            exact absurd H (by simp)
        · rw [if_neg c4] at H
          exact absurd H (by simp)
      · rw [if_neg c3] at H
        have c3b0 : decide (x8_1 < (a1.size : Int)) = false := decide_eq_false c3
        clear c3
        obtain rfl := Option.some.inj H
        go_wp2
        go_ret
        exact ⟨by first | rfl | (simp; done) | (simp [*]; done), by repeat (first | exact Drawn0.refl _ | apply Drawn0.step)⟩

/-! ### hash_End: function 26 -/
def hash_End.f (a0 : Int) : Option (Int) := some (((Go.bits .xor .u32 ((a0 + ((a0 * 8) % 4294967296)) % 4294967296) (((a0 + ((a0 * 8) % 4294967296)) % 4294967296) / 2048)) + (((Go.bits .xor .u32 ((a0 + ((a0 * 8) % 4294967296)) % 4294967296) (((a0 + ((a0 * 8) % 4294967296)) % 4294967296) / 2048)) * 32768) % 4294967296)) % 4294967296)
set_option maxHeartbeats 8000000 in
set_option maxRecDepth 100000 in
theorem hash_End.calls (a0 : Int) (r : Int) (w : World) (h : hash_End.f a0 = some r) :
    Calls Try.prog 26 #[.int .u32 a0] w fun e w' => e = .returned (.int .u32 r) ∧ Drawn0 w w' := by
  have H : (some (((Go.bits .xor .u32 ((a0 + ((a0 * 8) % 4294967296)) % 4294967296) (((a0 + ((a0 * 8) % 4294967296)) % 4294967296) / 2048)) + (((Go.bits .xor .u32 ((a0 + ((a0 * 8) % 4294967296)) % 4294967296) (((a0 + ((a0 * 8) % 4294967296)) % 4294967296) / 2048)) * 32768) % 4294967296)) % 4294967296)) = some r := h
  clear h
  obtain rfl := Option.some.inj H
  go_enter Try.func26, Try.ntmps26
  go_wp2
  go_ret
  exact ⟨by first | rfl | (simp; done) | (simp [*]; done), by repeat (first | exact Drawn0.refl _ | apply Drawn0.step)⟩

/-! ### hash_Of: function 28 -/
def hash_Of.f (k : Nat) (a0 : ByteArray) : Option (Int) := (hash_Add.f k 0 a0).bind fun t101 => ((hash_End.f t101).bind fun t102 => (some t102))
theorem hash_Of.mono : ∀ a0 k, LeO (hash_Of.f k a0) (hash_Of.f (k + 1) a0) := by
  intro a0 k
  unfold hash_Of.f
  repeat' first
      | (with_reducible exact hash_Add.mono _ _ _)
      | (with_reducible exact LeO.refl _)
      | (with_reducible exact LeO.none _)
      | (with_reducible refine LeO.ite ?_ ?_)
      | (with_reducible refine LeO.bind ?_ (fun _ => ?_))
      | exact hash_Add.mono _ _ _
      | exact LeO.none _
      | refine LeO.ite ?_ ?_
      | refine LeO.bind ?_ (fun _ => ?_)
set_option maxHeartbeats 8000000 in
set_option maxRecDepth 100000 in
theorem hash_Of.calls (k : Nat) (a0 : ByteArray) (r : Int) (w : World) (h : hash_Of.f k a0 = some r) :
    Calls Try.prog 28 #[.string a0] w fun e w' => e = .returned (.int .u32 r) ∧ Drawn0 w w' := by
  have H : ((hash_Add.f k 0 a0).bind fun t101 => ((hash_End.f t101).bind fun t102 => (some t102))) = some r := h
  clear h
  replace H := Option.bind_eq_some_iff.mp H
  obtain ⟨t101, A20, H⟩ := H
  replace H : ((hash_End.f t101).bind fun t102 => (some t102)) = some r := H
  have A2 := Aside0.mk A20
  clear A20
  replace H := Option.bind_eq_some_iff.mp H
  obtain ⟨t102, A30, H⟩ := H
  replace H : (some t102) = some r := H
  have A3 := Aside0.mk A30
  clear A30
  obtain rfl := Option.some.inj H
  go_enter Try.func28, Try.ntmps28
  go_wp2_with (first | ((with_reducible refine gate_callee (f := 24) rfl ?_); refine goesL_ (some 4) rfl rfl Try.func24 (by kernel_rfl) rfl #[.int .u32 0, .string a0] rfl (by (try simp only [List.map_toArray, List.map_cons, List.map_nil]); first | done | rfl | (simp only [List.length_drop, List.length_take]; rfl)) ?_; (with_reducible refine (hash_Add.calls k 0 a0 t101 _ A2.out).mono ?_); rintro e w' ⟨rfl, ⟨nd, rfl⟩⟩; refine ⟨_, rfl, ?_⟩) | ((with_reducible refine gate_callee (f := 26) rfl ?_); refine goesL_ (some 5) rfl rfl Try.func26 (by kernel_rfl) rfl #[.int .u32 t101] rfl (by (try simp only [List.map_toArray, List.map_cons, List.map_nil]); first | done | rfl | (simp only [List.length_drop, List.length_take]; rfl)) ?_; (with_reducible refine (hash_End.calls t101 t102 _ A3.out).mono ?_); rintro e w' ⟨rfl, ⟨nd, rfl⟩⟩; refine ⟨_, rfl, ?_⟩))
  go_ret
  exact ⟨by first | rfl | (simp; done) | (simp [*]; done), by repeat (first | exact Drawn0.refl _ | apply Drawn0.step)⟩

/-! ### rundlelaw05_awake: function 23 -/
def rundlelaw05_awake.f (k : Nat)  : Option (Bool) := (hash_Of.f k (⟨#[97]⟩ : ByteArray)).bind fun t103 => (some (t103 == 3392050242))
theorem rundlelaw05_awake.mono : ∀ k, LeO (rundlelaw05_awake.f k ) (rundlelaw05_awake.f (k + 1) ) := by
  intro  k
  unfold rundlelaw05_awake.f
  repeat' first
      | (with_reducible exact hash_Of.mono _ _)
      | (with_reducible exact LeO.refl _)
      | (with_reducible exact LeO.none _)
      | (with_reducible refine LeO.ite ?_ ?_)
      | (with_reducible refine LeO.bind ?_ (fun _ => ?_))
      | exact hash_Of.mono _ _
      | exact LeO.none _
      | refine LeO.ite ?_ ?_
      | refine LeO.bind ?_ (fun _ => ?_)
set_option maxHeartbeats 8000000 in
set_option maxRecDepth 100000 in
theorem rundlelaw05_awake.calls (k : Nat)  (r : Bool) (w : World) (h : rundlelaw05_awake.f k  = some r) :
    Calls Try.prog 23 #[] w fun e w' => e = .returned (.bool r) ∧ Drawn0 w w' := by
  have H : ((hash_Of.f k (⟨#[97]⟩ : ByteArray)).bind fun t103 => (some (t103 == 3392050242))) = some r := h
  clear h
  replace H := Option.bind_eq_some_iff.mp H
  obtain ⟨t103, A10, H⟩ := H
  replace H : (some (t103 == 3392050242)) = some r := H
  have A1 := Aside0.mk A10
  clear A10
  obtain rfl := Option.some.inj H
  go_enter Try.func23, Try.ntmps23
  go_wp2_with (first | ((with_reducible refine gate_callee (f := 28) rfl ?_); refine goesL_ (some 1) rfl rfl Try.func28 (by kernel_rfl) rfl #[.string (⟨#[97]⟩ : ByteArray)] rfl (by (try simp only [List.map_toArray, List.map_cons, List.map_nil]); first | done | rfl | (simp only [List.length_drop, List.length_take]; rfl)) ?_; (with_reducible refine (hash_Of.calls k (⟨#[97]⟩ : ByteArray) t103 _ A1.out).mono ?_); rintro e w' ⟨rfl, ⟨nd, rfl⟩⟩; refine ⟨_, rfl, ?_⟩))
  go_ret
  exact ⟨by first | rfl | (simp; done) | (simp [*]; done), by repeat (first | exact Drawn0.refl _ | apply Drawn0.step)⟩

-- NOT PRINTED: function 10 (rundlelaw05_HashOne)

end Go.Proofs.Ytnnkckijpikhlaa.PHashOne
