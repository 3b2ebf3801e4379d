-- PRINTED BY print.sh 35421559b90ae4d0a3588c463048766b98c2df88dd9212a6774a882060cdf62d: not written by this session
import Derived.Test.YtnnkckijpikhlaaPTagHandlesx0
namespace Go.Proofs.Ytnnkckijpikhlaa.PTagHandles
open Go.RowKit Go.Proofs.YtnnkckijpikhlaaW.PrintWords Go.Proofs.YtnnkckijpikhlaaW.PrintLast Go.Proofs.YtnnkckijpikhlaaW.PrintMore
attribute [local go_sem] max2_int min2_int max_two min_two max_three min_three max_four min_four   -- for this text's walks alone
set_option linter.unusedVariables false
set_option linter.unusedSimpArgs false

/-! ### tag_within: function 45 -/
def tag_within.f (a0 : Int) (a1 : Int) : Option (Bool) := if a0 ≥ 0 then (some (decide (a0 ≤ a1))) else (some false)
set_option maxHeartbeats 8000000 in
set_option maxRecDepth 100000 in
theorem tag_within.calls (a0 : Int) (a1 : Int) (r : Bool) (w : World) (h : tag_within.f a0 a1 = some r) :
    Calls Try.prog 45 #[.int .i64 a0, .int .i64 a1] w fun e w' => e = .returned (.bool r) ∧ Drawn0 w w' := by
  have H : (if a0 ≥ 0 then (some (decide (a0 ≤ a1))) else (some false)) = some r := h
  clear h
  by_cases c3 : a0 ≥ 0
  · rw [if_pos c3] at H
    have c3b0 : decide (0 ≤ a0) = true := decide_eq_true c3
    clear c3
    obtain rfl := Option.some.inj H
    go_enter Try.func45, Try.ntmps45
    go_wp2
    go_ret
    exact ⟨by first | rfl | (simp; done) | (simp [*]; done), by repeat (first | exact Drawn0.refl _ | apply Drawn0.step)⟩
  · rw [if_neg c3] at H
    have c3b0 : decide (0 ≤ a0) = false := decide_eq_false c3
    clear c3
    obtain rfl := Option.some.inj H
    go_enter Try.func45, Try.ntmps45
    go_wp2
    go_ret
    exact ⟨by first | rfl | (simp; done) | (simp [*]; done), by repeat (first | exact Drawn0.refl _ | apply Drawn0.step)⟩

/-! ### tag_Right: function 33 -/
def tag_Right.f (a0 : Int) : Option (Bool) := (tag_within.f (a0 / 65536) 16383).bind fun t101 => (if t101 = true then (some ((Go.bits .and .i64 a0 65535) != 0)) else (some false))
set_option maxHeartbeats 8000000 in
set_option maxRecDepth 100000 in
theorem tag_Right.calls (a0 : Int) (r : Bool) (w : World) (h : tag_Right.f a0 = some r) :
    Calls Try.prog 33 #[.int .i64 a0] w fun e w' => e = .returned (.bool r) ∧ Drawn0 w w' := by
  have H : ((tag_within.f (a0 / 65536) 16383).bind fun t101 => (if t101 = true then (some ((Go.bits .and .i64 a0 65535) != 0)) else (some false))) = some r := h
  clear h
  replace H := Option.bind_eq_some_iff.mp H
  obtain ⟨t101, A20, H⟩ := H
  replace H : (if t101 = true then (some ((Go.bits .and .i64 a0 65535) != 0)) else (some false)) = some r := H
  have A2 := Aside0.mk A20
  clear A20
  by_cases c3 : t101 = true
  · subst c3
    have H1 : (some ((Go.bits .and .i64 a0 65535) != 0)) = some r := by rw [if_pos rfl] at H; exact H
    clear H
    have H := H1
    clear H1
    obtain rfl := Option.some.inj H
    go_enter Try.func33, Try.ntmps33
    go_wp2_with (first | ((with_reducible refine gate_callee (f := 45) rfl ?_); refine goesL_ (some 5) rfl rfl Try.func45 (by kernel_rfl) rfl #[.int .i64 (a0 / 65536), .int .i64 16383] rfl (by (try simp only [List.map_toArray, List.map_cons, List.map_nil]); first | done | rfl | (simp only [List.length_drop, List.length_take]; rfl)) ?_; (with_reducible refine (tag_within.calls (a0 / 65536) 16383 true _ A2.out).mono ?_); rintro e w' ⟨rfl, ⟨nd, rfl⟩⟩; refine ⟨_, rfl, ?_⟩))
    go_ret
    exact ⟨by first | rfl | (simp; done) | (simp [*]; done), by repeat (first | exact Drawn0.refl _ | apply Drawn0.step)⟩
  · replace c3 := Bool.eq_false_iff.mpr c3
    subst c3
    have H1 : (some false) = some r := by rw [if_neg (show ¬ (false = true) by decide)] at H; exact H
    clear H
    have H := H1
    clear H1
    obtain rfl := Option.some.inj H
    go_enter Try.func33, Try.ntmps33
    go_wp2_with (first | ((with_reducible refine gate_callee (f := 45) rfl ?_); refine goesL_ (some 5) rfl rfl Try.func45 (by kernel_rfl) rfl #[.int .i64 (a0 / 65536), .int .i64 16383] rfl (by (try simp only [List.map_toArray, List.map_cons, List.map_nil]); first | done | rfl | (simp only [List.length_drop, List.length_take]; rfl)) ?_; (with_reducible refine (tag_within.calls (a0 / 65536) 16383 false _ A2.out).mono ?_); rintro e w' ⟨rfl, ⟨nd, rfl⟩⟩; refine ⟨_, rfl, ?_⟩))
    go_ret
    exact ⟨by first | rfl | (simp; done) | (simp [*]; done), by repeat (first | exact Drawn0.refl _ | apply Drawn0.step)⟩

/-! ### tag_Word: function 29 -/
def tag_Word.f (a0 : Int) (a1 : Int) : Option (Int) := if a0 = 0 then ((tag_within.f a1 1073741824).bind fun t102 => (if t102 = true then (some (Go.bits .or .i64 (wrap64 (a1 * 2147483648)) a0)) else (some (-1)))) else ((tag_Right.f a0).bind fun t103 => (if t103 = true then ((tag_within.f a1 1073741824).bind fun t104 => (if t104 = true then (some (Go.bits .or .i64 (wrap64 (a1 * 2147483648)) a0)) else (some (-1)))) else (some (-1))))
set_option maxHeartbeats 8000000 in
set_option maxRecDepth 100000 in
theorem tag_Word.calls (a0 : Int) (a1 : Int) (r : Int) (w : World) (h : tag_Word.f a0 a1 = some r) :
    Calls Try.prog 29 #[.int .i64 a0, .int .i64 a1] w fun e w' => e = .returned (.int .i64 r) ∧ Drawn0 w w' := by
  have H : (if a0 = 0 then ((tag_within.f a1 1073741824).bind fun t102 => (if t102 = true then (some (Go.bits .or .i64 (wrap64 (a1 * 2147483648)) a0)) else (some (-1)))) else ((tag_Right.f a0).bind fun t103 => (if t103 = true then ((tag_within.f a1 1073741824).bind fun t104 => (if t104 = true then (some (Go.bits .or .i64 (wrap64 (a1 * 2147483648)) a0)) else (some (-1)))) else (some (-1))))) = some r := h
  clear h
  by_cases c3 : a0 = 0
  · rw [if_pos c3] at H
    have c3b0 : (a0 == 0) = true := beq_iff_eq.mpr c3
    have c3b1 : (a0 != 0) = false := bne_eq_false_iff_eq.mpr c3
    clear c3
    replace H := Option.bind_eq_some_iff.mp H
    obtain ⟨t102, A40, H⟩ := H
    replace H : (if t102 = true then (some (Go.bits .or .i64 (wrap64 (a1 * 2147483648)) a0)) else (some (-1))) = some r := H
    have A4 := Aside0.mk A40
    clear A40
    by_cases c5 : t102 = true
    · subst c5
      have H1 : (some (Go.bits .or .i64 (wrap64 (a1 * 2147483648)) a0)) = some r := by rw [if_pos rfl] at H; exact H
      clear H
      have H := H1
      clear H1
      obtain rfl := Option.some.inj H
      go_enter Try.func29, Try.ntmps29
      go_wp2_with (first | (go_at_call 45; (with_reducible refine (tag_within.calls a1 1073741824 true _ A4.out).mono ?_); rintro e w' ⟨rfl, ⟨nd, rfl⟩⟩))
      go_ret
      exact ⟨by first | rfl | (simp; done) | (simp [*]; done), by repeat (first | exact Drawn0.refl _ | apply Drawn0.step)⟩
    · replace c5 := Bool.eq_false_iff.mpr c5
      subst c5
      have H1 : (some (-1)) = some r := by rw [if_neg (show ¬ (false = true) by decide)] at H; exact H
      clear H
      have H := H1
      clear H1
      obtain rfl := Option.some.inj H
      go_enter Try.func29, Try.ntmps29
      go_wp2_with (first | (go_at_call 45; (with_reducible refine (tag_within.calls a1 1073741824 false _ A4.out).mono ?_); rintro e w' ⟨rfl, ⟨nd, rfl⟩⟩))
      go_ret
      exact ⟨by first | rfl | (simp; done) | (simp [*]; done), by repeat (first | exact Drawn0.refl _ | apply Drawn0.step)⟩
  · rw [if_neg c3] at H
    have c3b0 : (a0 == 0) = false := beq_eq_false_iff_ne.mpr c3
    have c3b1 : (a0 != 0) = true := bne_iff_ne.mpr c3
    replace H := Option.bind_eq_some_iff.mp H
    obtain ⟨t103, A60, H⟩ := H
    replace H : (if t103 = true then ((tag_within.f a1 1073741824).bind fun t104 => (if t104 = true then (some (Go.bits .or .i64 (wrap64 (a1 * 2147483648)) a0)) else (some (-1)))) else (some (-1))) = some r := H
    have A6 := Aside0.mk A60
    clear A60
    by_cases c7 : t103 = true
    · subst c7
      have H1 : ((tag_within.f a1 1073741824).bind fun t104 => (if t104 = true then (some (Go.bits .or .i64 (wrap64 (a1 * 2147483648)) a0)) else (some (-1)))) = some r := by rw [if_pos rfl] at H; exact H
      clear H
      have H := H1
      clear H1
      replace H := Option.bind_eq_some_iff.mp H
      obtain ⟨t104, A80, H⟩ := H
      replace H : (if t104 = true then (some (Go.bits .or .i64 (wrap64 (a1 * 2147483648)) a0)) else (some (-1))) = some r := H
      have A8 := Aside0.mk A80
      clear A80
      by_cases c9 : t104 = true
      · subst c9
        have H1 : (some (Go.bits .or .i64 (wrap64 (a1 * 2147483648)) a0)) = some r := by rw [if_pos rfl] at H; exact H
        clear H
        have H := H1
        clear H1
        obtain rfl := Option.some.inj H
        go_enter Try.func29, Try.ntmps29
        go_wp2_with (first | (go_at_call 33; (with_reducible refine (tag_Right.calls a0 true _ A6.out).mono ?_); rintro e w' ⟨rfl, ⟨nd, rfl⟩⟩) | (go_at_call 45; (with_reducible refine (tag_within.calls a1 1073741824 true _ A8.out).mono ?_); rintro e w' ⟨rfl, ⟨nd, rfl⟩⟩))
        go_ret
        exact ⟨by first | rfl | (simp; done) | (simp [*]; done), by repeat (first | exact Drawn0.refl _ | apply Drawn0.step)⟩
      · replace c9 := Bool.eq_false_iff.mpr c9
        subst c9
        have H1 : (some (-1)) = some r := by rw [if_neg (show ¬ (false = true) by decide)] at H; exact H
        clear H
        have H := H1
        clear H1
        obtain rfl := Option.some.inj H
        go_enter Try.func29, Try.ntmps29
        go_wp2_with (first | (go_at_call 33; (with_reducible refine (tag_Right.calls a0 true _ A6.out).mono ?_); rintro e w' ⟨rfl, ⟨nd, rfl⟩⟩) | (go_at_call 45; (with_reducible refine (tag_within.calls a1 1073741824 false _ A8.out).mono ?_); rintro e w' ⟨rfl, ⟨nd, rfl⟩⟩))
        go_ret
        exact ⟨by first | rfl | (simp; done) | (simp [*]; done), by repeat (first | exact Drawn0.refl _ | apply Drawn0.step)⟩
    · replace c7 := Bool.eq_false_iff.mpr c7
      subst c7
      have H1 : (some (-1)) = some r := by rw [if_neg (show ¬ (false = true) by decide)] at H; exact H
      clear H
      have H := H1
      clear H1
      obtain rfl := Option.some.inj H
      go_enter Try.func29, Try.ntmps29
      go_wp2_with (first | (go_at_call 33; (with_reducible refine (tag_Right.calls a0 false _ A6.out).mono ?_); rintro e w' ⟨rfl, ⟨nd, rfl⟩⟩))
      go_ret
      exact ⟨by first | rfl | (simp; done) | (simp [*]; done), by repeat (first | exact Drawn0.refl _ | apply Drawn0.step)⟩

/-! ### tag_Handle: function 31 -/
def tag_Handle.f (a0 : Int) (a1 : Int) : Option (Int) := (tag_within.f a0 65534).bind fun t105 => (if t105 = true then ((tag_within.f a1 16383).bind fun t106 => (if t106 = true then (some (Go.bits .or .i64 (wrap64 (a1 * 65536)) (wrap64 (a0 + 1)))) else (some 0))) else (some 0))
set_option maxHeartbeats 8000000 in
set_option maxRecDepth 100000 in
theorem tag_Handle.calls (a0 : Int) (a1 : Int) (r : Int) (w : World) (h : tag_Handle.f a0 a1 = some r) :
    Calls Try.prog 31 #[.int .i64 a0, .int .i64 a1] w fun e w' => e = .returned (.int .i64 r) ∧ Drawn0 w w' := by
  have H : ((tag_within.f a0 65534).bind fun t105 => (if t105 = true then ((tag_within.f a1 16383).bind fun t106 => (if t106 = true then (some (Go.bits .or .i64 (wrap64 (a1 * 65536)) (wrap64 (a0 + 1)))) else (some 0))) else (some 0))) = some r := h
  clear h
  replace H := Option.bind_eq_some_iff.mp H
  obtain ⟨t105, A30, H⟩ := H
  replace H : (if t105 = true then ((tag_within.f a1 16383).bind fun t106 => (if t106 = true then (some (Go.bits .or .i64 (wrap64 (a1 * 65536)) (wrap64 (a0 + 1)))) else (some 0))) else (some 0)) = some r := H
  have A3 := Aside0.mk A30
  clear A30
  by_cases c4 : t105 = true
  · subst c4
    have H1 : ((tag_within.f a1 16383).bind fun t106 => (if t106 = true then (some (Go.bits .or .i64 (wrap64 (a1 * 65536)) (wrap64 (a0 + 1)))) else (some 0))) = some r := by rw [if_pos rfl] at H; exact H
    clear H
    have H := H1
    clear H1
    replace H := Option.bind_eq_some_iff.mp H
    obtain ⟨t106, A50, H⟩ := H
    replace H : (if t106 = true then (some (Go.bits .or .i64 (wrap64 (a1 * 65536)) (wrap64 (a0 + 1)))) else (some 0)) = some r := H
    have A5 := Aside0.mk A50
    clear A50
    by_cases c6 : t106 = true
    · subst c6
      have H1 : (some (Go.bits .or .i64 (wrap64 (a1 * 65536)) (wrap64 (a0 + 1)))) = some r := by rw [if_pos rfl] at H; exact H
      clear H
      have H := H1
      clear H1
      obtain rfl := Option.some.inj H
      go_enter Try.func31, Try.ntmps31
      go_wp2_with (first | ((with_reducible refine gate_callee (f := 45) rfl ?_); refine goesL_ (some 6) rfl rfl Try.func45 (by kernel_rfl) rfl #[.int .i64 a0, .int .i64 65534] rfl (by (try simp only [List.map_toArray, List.map_cons, List.map_nil]); first | done | rfl | (simp only [List.length_drop, List.length_take]; rfl)) ?_; (with_reducible refine (tag_within.calls a0 65534 true _ A3.out).mono ?_); rintro e w' ⟨rfl, ⟨nd, rfl⟩⟩; refine ⟨_, rfl, ?_⟩) | (go_at_call 45; (with_reducible refine (tag_within.calls a1 16383 true _ A5.out).mono ?_); rintro e w' ⟨rfl, ⟨nd, rfl⟩⟩))
      go_ret
      exact ⟨by first | rfl | (simp; done) | (simp [*]; done), by repeat (first | exact Drawn0.refl _ | apply Drawn0.step)⟩
    · replace c6 := Bool.eq_false_iff.mpr c6
      subst c6
      have H1 : (some 0) = some r := by rw [if_neg (show ¬ (false = true) by decide)] at H; exact H
      clear H
      have H := H1
      clear H1
      obtain rfl := Option.some.inj H
      go_enter Try.func31, Try.ntmps31
      go_wp2_with (first | ((with_reducible refine gate_callee (f := 45) rfl ?_); refine goesL_ (some 6) rfl rfl Try.func45 (by kernel_rfl) rfl #[.int .i64 a0, .int .i64 65534] rfl (by (try simp only [List.map_toArray, List.map_cons, List.map_nil]); first | done | rfl | (simp only [List.length_drop, List.length_take]; rfl)) ?_; (with_reducible refine (tag_within.calls a0 65534 true _ A3.out).mono ?_); rintro e w' ⟨rfl, ⟨nd, rfl⟩⟩; refine ⟨_, rfl, ?_⟩) | (go_at_call 45; (with_reducible refine (tag_within.calls a1 16383 false _ A5.out).mono ?_); rintro e w' ⟨rfl, ⟨nd, rfl⟩⟩))
      go_ret
      exact ⟨by first | rfl | (simp; done) | (simp [*]; done), by repeat (first | exact Drawn0.refl _ | apply Drawn0.step)⟩
  · replace c4 := Bool.eq_false_iff.mpr c4
    subst c4
    have H1 : (some 0) = some r := by rw [if_neg (show ¬ (false = true) by decide)] at H; exact H
    clear H
    have H := H1
    clear H1
    obtain rfl := Option.some.inj H
    go_enter Try.func31, Try.ntmps31
    go_wp2_with (first | ((with_reducible refine gate_callee (f := 45) rfl ?_); refine goesL_ (some 6) rfl rfl Try.func45 (by kernel_rfl) rfl #[.int .i64 a0, .int .i64 65534] rfl (by (try simp only [List.map_toArray, List.map_cons, List.map_nil]); first | done | rfl | (simp only [List.length_drop, List.length_take]; rfl)) ?_; (with_reducible refine (tag_within.calls a0 65534 false _ A3.out).mono ?_); rintro e w' ⟨rfl, ⟨nd, rfl⟩⟩; refine ⟨_, rfl, ?_⟩))
    go_ret
    exact ⟨by first | rfl | (simp; done) | (simp [*]; done), by repeat (first | exact Drawn0.refl _ | apply Drawn0.step)⟩

/-! ### rundlelaw11_awake: function 30 -/
def rundlelaw11_awake.f  : Option (Bool) := (tag_Handle.f 0 0).bind fun t107 => (if t107 = 1 then ((tag_Word.f 1 2).bind fun t108 => (some (t108 == 4294967297))) else (some false))
set_option maxHeartbeats 8000000 in
set_option maxRecDepth 100000 in
theorem rundlelaw11_awake.calls  (r : Bool) (w : World) (h : rundlelaw11_awake.f  = some r) :
    Calls Try.prog 30 #[] w fun e w' => e = .returned (.bool r) ∧ Drawn0 w w' := by
  have H : ((tag_Handle.f 0 0).bind fun t107 => (if t107 = 1 then ((tag_Word.f 1 2).bind fun t108 => (some (t108 == 4294967297))) else (some false))) = some r := h
  clear h
  replace H := Option.bind_eq_some_iff.mp H
  obtain ⟨t107, A10, H⟩ := H
  replace H : (if t107 = 1 then ((tag_Word.f 1 2).bind fun t108 => (some (t108 == 4294967297))) else (some false)) = some r := H
  have A1 := Aside0.mk A10
  clear A10
  by_cases c2 : t107 = 1
  · rw [if_pos c2] at H
    have c2b0 : (t107 == 1) = true := beq_iff_eq.mpr c2
    have c2b1 : (t107 != 1) = false := bne_eq_false_iff_eq.mpr c2
    clear c2
    replace H := Option.bind_eq_some_iff.mp H
    obtain ⟨t108, A30, H⟩ := H
    replace H : (some (t108 == 4294967297)) = some r := H
    have A3 := Aside0.mk A30
    clear A30
    obtain rfl := Option.some.inj H
    go_enter Try.func30, Try.ntmps30
    go_wp2_with (first | ((with_reducible refine gate_callee (f := 31) rfl ?_); refine goesL_ (some 1) rfl rfl Try.func31 (by kernel_rfl) rfl #[.int .i64 0, .int .i64 0] rfl (by (try simp only [List.map_toArray, List.map_cons, List.map_nil]); first | done | rfl | (simp only [List.length_drop, List.length_take]; rfl)) ?_; (with_reducible refine (tag_Handle.calls 0 0 t107 _ A1.out).mono ?_); rintro e w' ⟨rfl, ⟨nd, rfl⟩⟩; refine ⟨_, rfl, ?_⟩) | (go_at_call 29; (with_reducible refine (tag_Word.calls 1 2 t108 _ A3.out).mono ?_); rintro e w' ⟨rfl, ⟨nd, rfl⟩⟩))
    go_ret
    exact ⟨by first | rfl | (simp; done) | (simp [*]; done), by repeat (first | exact Drawn0.refl _ | apply Drawn0.step)⟩
  · rw [if_neg c2] at H
    have c2b0 : (t107 == 1) = false := beq_eq_false_iff_ne.mpr c2
    have c2b1 : (t107 != 1) = true := bne_iff_ne.mpr c2
    obtain rfl := Option.some.inj H
    go_enter Try.func30, Try.ntmps30
    go_wp2_with (first | ((with_reducible refine gate_callee (f := 31) rfl ?_); refine goesL_ (some 1) rfl rfl Try.func31 (by kernel_rfl) rfl #[.int .i64 0, .int .i64 0] rfl (by (try simp only [List.map_toArray, List.map_cons, List.map_nil]); first | done | rfl | (simp only [List.length_drop, List.length_take]; rfl)) ?_; (with_reducible refine (tag_Handle.calls 0 0 t107 _ A1.out).mono ?_); rintro e w' ⟨rfl, ⟨nd, rfl⟩⟩; refine ⟨_, rfl, ?_⟩))
    go_ret
    exact ⟨by first | rfl | (simp; done) | (simp [*]; done), by repeat (first | exact Drawn0.refl _ | apply Drawn0.step)⟩

/-! ### rundleref11_Handle: function 32 -/
def rundleref11_Handle.f (a0 : Int) (a1 : Int) : Option (Int) := if a0 < 0 then (some 0) else (if a0 > 65534 then (some 0) else (if a1 < 0 then (some 0) else (if a1 > 16383 then (some 0) else (some (wrap64 ((wrap64 ((wrap64 (a1 * 65536)) + a0)) + 1))))))
set_option maxHeartbeats 8000000 in
set_option maxRecDepth 100000 in
theorem rundleref11_Handle.calls (a0 : Int) (a1 : Int) (r : Int) (w : World) (h : rundleref11_Handle.f a0 a1 = some r) :
    Calls Try.prog 32 #[.int .i64 a0, .int .i64 a1] w fun e w' => e = .returned (.int .i64 r) ∧ Drawn0 w w' := by
  have H : (if a0 < 0 then (some 0) else (if a0 > 65534 then (some 0) else (if a1 < 0 then (some 0) else (if a1 > 16383 then (some 0) else (some (wrap64 ((wrap64 ((wrap64 (a1 * 65536)) + a0)) + 1))))))) = some r := h
  clear h
  by_cases c3 : a0 < 0
  · rw [if_pos c3] at H
    have c3b0 : decide (a0 < 0) = true := decide_eq_true c3
    clear c3
    obtain rfl := Option.some.inj H
    go_enter Try.func32, Try.ntmps32
    go_wp2
    go_ret
    exact ⟨by first | rfl | (simp; done) | (simp [*]; done), by repeat (first | exact Drawn0.refl _ | apply Drawn0.step)⟩
  · rw [if_neg c3] at H
    have c3b0 : decide (a0 < 0) = false := decide_eq_false c3
    clear c3
    by_cases c4 : a0 > 65534
    · rw [if_pos c4] at H
      have c4b0 : decide (65534 < a0) = true := decide_eq_true c4
      clear c4
      obtain rfl := Option.some.inj H
      go_enter Try.func32, Try.ntmps32
      go_wp2
      go_ret
      exact ⟨by first | rfl | (simp; done) | (simp [*]; done), by repeat (first | exact Drawn0.refl _ | apply Drawn0.step)⟩
    · rw [if_neg c4] at H
      have c4b0 : decide (65534 < a0) = false := decide_eq_false c4
      clear c4
      by_cases c5 : a1 < 0
      · rw [if_pos c5] at H
        have c5b0 : decide (a1 < 0) = true := decide_eq_true c5
        clear c5
        obtain rfl := Option.some.inj H
        go_enter Try.func32, Try.ntmps32
        go_wp2
        go_ret
        exact ⟨by first | rfl | (simp; done) | (simp [*]; done), by repeat (first | exact Drawn0.refl _ | apply Drawn0.step)⟩
      · rw [if_neg c5] at H
        have c5b0 : decide (a1 < 0) = false := decide_eq_false c5
        clear c5
        by_cases c6 : a1 > 16383
        · rw [if_pos c6] at H
          have c6b0 : decide (16383 < a1) = true := decide_eq_true c6
          clear c6
          obtain rfl := Option.some.inj H
          go_enter Try.func32, Try.ntmps32
          go_wp2
          go_ret
          exact ⟨by first | rfl | (simp; done) | (simp [*]; done), by repeat (first | exact Drawn0.refl _ | apply Drawn0.step)⟩
        · rw [if_neg c6] at H
          have c6b0 : decide (16383 < a1) = false := decide_eq_false c6
          clear c6
          obtain rfl := Option.some.inj H
          go_enter Try.func32, Try.ntmps32
          go_wp2
          go_ret
          exact ⟨by first | rfl | (simp; done) | (simp [*]; done), by repeat (first | exact Drawn0.refl _ | apply Drawn0.step)⟩

/-! ### rundleref11_Right: function 34 -/
def rundleref11_Right.f (a0 : Int) : Option (Bool) := if a0 > 0 then (if a0 < 1073741824 then (some (decide ((Int.tmod a0 65536) > 0))) else (some false)) else (some false)
set_option maxHeartbeats 8000000 in
set_option maxRecDepth 100000 in
theorem rundleref11_Right.calls (a0 : Int) (r : Bool) (w : World) (h : rundleref11_Right.f a0 = some r) :
    Calls Try.prog 34 #[.int .i64 a0] w fun e w' => e = .returned (.bool r) ∧ Drawn0 w w' := by
  have H : (if a0 > 0 then (if a0 < 1073741824 then (some (decide ((Int.tmod a0 65536) > 0))) else (some false)) else (some false)) = some r := h
  clear h
  by_cases c2 : a0 > 0
  · rw [if_pos c2] at H
    have c2b0 : decide (0 < a0) = true := decide_eq_true c2
    clear c2
    by_cases c3 : a0 < 1073741824
    · rw [if_pos c3] at H
      have c3b0 : decide (a0 < 1073741824) = true := decide_eq_true c3
      clear c3
      obtain rfl := Option.some.inj H
      go_enter Try.func34, Try.ntmps34
      go_wp2
      go_ret
      exact ⟨by first | rfl | (simp; done) | (simp [*]; done), by repeat (first | exact Drawn0.refl _ | apply Drawn0.step)⟩
    · rw [if_neg c3] at H
      have c3b0 : decide (a0 < 1073741824) = false := decide_eq_false c3
      clear c3
      obtain rfl := Option.some.inj H
      go_enter Try.func34, Try.ntmps34
      go_wp2
      go_ret
      exact ⟨by first | rfl | (simp; done) | (simp [*]; done), by repeat (first | exact Drawn0.refl _ | apply Drawn0.step)⟩
  · rw [if_neg c2] at H
    have c2b0 : decide (0 < a0) = false := decide_eq_false c2
    clear c2
    obtain rfl := Option.some.inj H
    go_enter Try.func34, Try.ntmps34
    go_wp2
    go_ret
    exact ⟨by first | rfl | (simp; done) | (simp [*]; done), by repeat (first | exact Drawn0.refl _ | apply Drawn0.step)⟩

/-! ### tag_Place: function 35 -/
def tag_Place.f (a0 : Int) : Option (Int) := (tag_Right.f a0).bind fun t109 => (if t109 = true then (some (wrap64 ((Go.bits .and .i64 a0 65535) - 1))) else (some (-1)))
set_option maxHeartbeats 8000000 in
set_option maxRecDepth 100000 in
theorem tag_Place.calls (a0 : Int) (r : Int) (w : World) (h : tag_Place.f a0 = some r) :
    Calls Try.prog 35 #[.int .i64 a0] w fun e w' => e = .returned (.int .i64 r) ∧ Drawn0 w w' := by
  have H : ((tag_Right.f a0).bind fun t109 => (if t109 = true then (some (wrap64 ((Go.bits .and .i64 a0 65535) - 1))) else (some (-1)))) = some r := h
  clear h
  replace H := Option.bind_eq_some_iff.mp H
  obtain ⟨t109, A20, H⟩ := H
  replace H : (if t109 = true then (some (wrap64 ((Go.bits .and .i64 a0 65535) - 1))) else (some (-1))) = some r := H
  have A2 := Aside0.mk A20
  clear A20
  by_cases c3 : t109 = true
  · subst c3
    have H1 : (some (wrap64 ((Go.bits .and .i64 a0 65535) - 1))) = some r := by rw [if_pos rfl] at H; exact H
    clear H
    have H := H1
    clear H1
    obtain rfl := Option.some.inj H
    go_enter Try.func35, Try.ntmps35
    go_wp2_with (first | ((with_reducible refine gate_callee (f := 33) rfl ?_); refine goesL_ (some 4) rfl rfl Try.func33 (by kernel_rfl) rfl #[.int .i64 a0] rfl (by (try simp only [List.map_toArray, List.map_cons, List.map_nil]); first | done | rfl | (simp only [List.length_drop, List.length_take]; rfl)) ?_; (with_reducible refine (tag_Right.calls a0 true _ A2.out).mono ?_); rintro e w' ⟨rfl, ⟨nd, rfl⟩⟩; refine ⟨_, rfl, ?_⟩))
    go_ret
    exact ⟨by first | rfl | (simp; done) | (simp [*]; done), by repeat (first | exact Drawn0.refl _ | apply Drawn0.step)⟩
  · replace c3 := Bool.eq_false_iff.mpr c3
    subst c3
    have H1 : (some (-1)) = some r := by rw [if_neg (show ¬ (false = true) by decide)] at H; exact H
    clear H
    have H := H1
    clear H1
    obtain rfl := Option.some.inj H
    go_enter Try.func35, Try.ntmps35
    go_wp2_with (first | ((with_reducible refine gate_callee (f := 33) rfl ?_); refine goesL_ (some 4) rfl rfl Try.func33 (by kernel_rfl) rfl #[.int .i64 a0] rfl (by (try simp only [List.map_toArray, List.map_cons, List.map_nil]); first | done | rfl | (simp only [List.length_drop, List.length_take]; rfl)) ?_; (with_reducible refine (tag_Right.calls a0 false _ A2.out).mono ?_); rintro e w' ⟨rfl, ⟨nd, rfl⟩⟩; refine ⟨_, rfl, ?_⟩))
    go_ret
    exact ⟨by first | rfl | (simp; done) | (simp [*]; done), by repeat (first | exact Drawn0.refl _ | apply Drawn0.step)⟩

/-! ### tag_Gen: function 36 -/
def tag_Gen.f (a0 : Int) : Option (Int) := (tag_Right.f a0).bind fun t110 => (if t110 = true then (some (a0 / 65536)) else (some (-1)))
set_option maxHeartbeats 8000000 in
set_option maxRecDepth 100000 in
theorem tag_Gen.calls (a0 : Int) (r : Int) (w : World) (h : tag_Gen.f a0 = some r) :
    Calls Try.prog 36 #[.int .i64 a0] w fun e w' => e = .returned (.int .i64 r) ∧ Drawn0 w w' := by
  have H : ((tag_Right.f a0).bind fun t110 => (if t110 = true then (some (a0 / 65536)) else (some (-1)))) = some r := h
  clear h
  replace H := Option.bind_eq_some_iff.mp H
  obtain ⟨t110, A20, H⟩ := H
  replace H : (if t110 = true then (some (a0 / 65536)) else (some (-1))) = some r := H
  have A2 := Aside0.mk A20
  clear A20
  by_cases c3 : t110 = true
  · subst c3
    have H1 : (some (a0 / 65536)) = some r := by rw [if_pos rfl] at H; exact H
    clear H
    have H := H1
    clear H1
    obtain rfl := Option.some.inj H
    go_enter Try.func36, Try.ntmps36
    go_wp2_with (first | ((with_reducible refine gate_callee (f := 33) rfl ?_); refine goesL_ (some 4) rfl rfl Try.func33 (by kernel_rfl) rfl #[.int .i64 a0] rfl (by (try simp only [List.map_toArray, List.map_cons, List.map_nil]); first | done | rfl | (simp only [List.length_drop, List.length_take]; rfl)) ?_; (with_reducible refine (tag_Right.calls a0 true _ A2.out).mono ?_); rintro e w' ⟨rfl, ⟨nd, rfl⟩⟩; refine ⟨_, rfl, ?_⟩))
    go_ret
    exact ⟨by first | rfl | (simp; done) | (simp [*]; done), by repeat (first | exact Drawn0.refl _ | apply Drawn0.step)⟩
  · replace c3 := Bool.eq_false_iff.mpr c3
    subst c3
    have H1 : (some (-1)) = some r := by rw [if_neg (show ¬ (false = true) by decide)] at H; exact H
    clear H
    have H := H1
    clear H1
    obtain rfl := Option.some.inj H
    go_enter Try.func36, Try.ntmps36
    go_wp2_with (first | ((with_reducible refine gate_callee (f := 33) rfl ?_); refine goesL_ (some 4) rfl rfl Try.func33 (by kernel_rfl) rfl #[.int .i64 a0] rfl (by (try simp only [List.map_toArray, List.map_cons, List.map_nil]); first | done | rfl | (simp only [List.length_drop, List.length_take]; rfl)) ?_; (with_reducible refine (tag_Right.calls a0 false _ A2.out).mono ?_); rintro e w' ⟨rfl, ⟨nd, rfl⟩⟩; refine ⟨_, rfl, ?_⟩))
    go_ret
    exact ⟨by first | rfl | (simp; done) | (simp [*]; done), by repeat (first | exact Drawn0.refl _ | apply Drawn0.step)⟩

/-! ### rundlelaw11_TagHandles: function 12 -/
def rundlelaw11_TagHandles.j0 : Nat → Int → Bool → Option (Bool)
  | 0, _, _ => none
  | k + 1, x2, x26 => if x26 = true then (some false) else ((rundleref11_Right.f x2).bind fun t116 => (if t116 = true then ((tag_Place.f x2).bind fun t117 => (if t117 = (wrap64 ((Int.tmod x2 65536) - 1)) then ((tag_Gen.f x2).bind fun t118 => (some (t118 == (wrap64 (Int.tdiv x2 65536))))) else (some false))) else ((tag_Place.f x2).bind fun t119 => (if t119 = (-1) then ((tag_Gen.f x2).bind fun t120 => (some (t120 == (-1)))) else (some false)))))
def rundlelaw11_TagHandles.f (k : Nat) (a0 : Int) (a1 : Int) (a2 : Int) : Option (Bool) := (rundlelaw11_awake.f).bind fun t111 => (if t111 = true then ((tag_Handle.f a0 a1).bind fun t112 => ((rundleref11_Handle.f a0 a1).bind fun t113 => (if t112 = t113 then ((tag_Right.f a2).bind fun t114 => ((rundleref11_Right.f a2).bind fun t115 => (if (t114 != t115) = true then (rundlelaw11_TagHandles.j0 k a2 true) else (rundlelaw11_TagHandles.j0 k a2 false)))) else (rundlelaw11_TagHandles.j0 k a2 true)))) else (rundlelaw11_TagHandles.j0 k a2 true))
theorem rundlelaw11_TagHandles.mono_l : ∀ k, (∀ y0 y1, LeO (rundlelaw11_TagHandles.j0 k y0 y1) (rundlelaw11_TagHandles.j0 (k + 1) y0 y1))
  | 0 => fun _ _ r h => by simp [rundlelaw11_TagHandles.j0] at h
  | k + 1 => by
    have ih0 := rundlelaw11_TagHandles.mono_l k
    · intro y0 y1
      unfold rundlelaw11_TagHandles.j0
      repeat' first
      | (with_reducible exact ih0 _ _)
      | (with_reducible exact LeO.refl _)
      | (with_reducible exact LeO.none _)
      | (with_reducible refine LeO.ite ?_ ?_)
      | (with_reducible refine LeO.bind ?_ (fun _ => ?_))
      | exact ih0 _ _
      | exact LeO.none _
      | refine LeO.ite ?_ ?_
      | refine LeO.bind ?_ (fun _ => ?_)
theorem rundlelaw11_TagHandles.mono : ∀ a0 a1 a2 k, LeO (rundlelaw11_TagHandles.f k a0 a1 a2) (rundlelaw11_TagHandles.f (k + 1) a0 a1 a2) := by
  intro a0 a1 a2 k
  have ih0 := rundlelaw11_TagHandles.mono_l k
  unfold rundlelaw11_TagHandles.f
  repeat' first
      | (with_reducible exact ih0 _ _)
      | (with_reducible exact LeO.refl _)
      | (with_reducible exact LeO.none _)
      | (with_reducible refine LeO.ite ?_ ?_)
      | (with_reducible refine LeO.bind ?_ (fun _ => ?_))
      | exact ih0 _ _
      | exact LeO.none _
      | refine LeO.ite ?_ ?_
      | refine LeO.bind ?_ (fun _ => ?_)
set_option maxHeartbeats 8000000 in
set_option maxRecDepth 100000 in
theorem rundlelaw11_TagHandles.calls (k : Nat) (a0 : Int) (a1 : Int) (a2 : Int) (r : Bool) (w : World) (h : rundlelaw11_TagHandles.f k a0 a1 a2 = some r) :
    Calls Try.prog 12 #[.int .i64 a0, .int .i64 a1, .int .i64 a2] w fun e w' => e = .returned (.bool r) ∧ Drawn0 w w' := by
  have H : ((rundlelaw11_awake.f).bind fun t111 => (if t111 = true then ((tag_Handle.f a0 a1).bind fun t112 => ((rundleref11_Handle.f a0 a1).bind fun t113 => (if t112 = t113 then ((tag_Right.f a2).bind fun t114 => ((rundleref11_Right.f a2).bind fun t115 => (if (t114 != t115) = true then (rundlelaw11_TagHandles.j0 k a2 true) else (rundlelaw11_TagHandles.j0 k a2 false)))) else (rundlelaw11_TagHandles.j0 k a2 true)))) else (rundlelaw11_TagHandles.j0 k a2 true))) = some r := h
  clear h
  have HC4 := Aside0.mk H
  clear H
  go_enter Try.func12, Try.ntmps12
  go_upto_region 1 with (fail)
  go_cut [26] (fun v26 wc => ∃ (kq : Nat) (x26_3 : Bool), v26 = .bool x26_3 ∧ Aside0 (rundlelaw11_TagHandles.j0 kq a2 x26_3 = some r) ∧ Aside0 (kq ≤ k) ∧ Drawn0 w wc)
  case first =>
    have H := HC4.out
    clear HC4
    replace H := Option.bind_eq_some_iff.mp H
    obtain ⟨t111, A50, H⟩ := H
    replace H : (if t111 = true then ((tag_Handle.f a0 a1).bind fun t112 => ((rundleref11_Handle.f a0 a1).bind fun t113 => (if t112 = t113 then ((tag_Right.f a2).bind fun t114 => ((rundleref11_Right.f a2).bind fun t115 => (if (t114 != t115) = true then (rundlelaw11_TagHandles.j0 k a2 true) else (rundlelaw11_TagHandles.j0 k a2 false)))) else (rundlelaw11_TagHandles.j0 k a2 true)))) else (rundlelaw11_TagHandles.j0 k a2 true)) = some r := H
    have A5 := Aside0.mk A50
    clear A50
    by_cases c6 : t111 = true
    · subst c6
      have H1 : ((tag_Handle.f a0 a1).bind fun t112 => ((rundleref11_Handle.f a0 a1).bind fun t113 => (if t112 = t113 then ((tag_Right.f a2).bind fun t114 => ((rundleref11_Right.f a2).bind fun t115 => (if (t114 != t115) = true then (rundlelaw11_TagHandles.j0 k a2 true) else (rundlelaw11_TagHandles.j0 k a2 false)))) else (rundlelaw11_TagHandles.j0 k a2 true)))) = some r := by rw [if_pos rfl] at H; exact H
      clear H
      have H := H1
      clear H1
      replace H := Option.bind_eq_some_iff.mp H
      obtain ⟨t112, A70, H⟩ := H
      replace H : ((rundleref11_Handle.f a0 a1).bind fun t113 => (if t112 = t113 then ((tag_Right.f a2).bind fun t114 => ((rundleref11_Right.f a2).bind fun t115 => (if (t114 != t115) = true then (rundlelaw11_TagHandles.j0 k a2 true) else (rundlelaw11_TagHandles.j0 k a2 false)))) else (rundlelaw11_TagHandles.j0 k a2 true))) = some r := H
      have A7 := Aside0.mk A70
      clear A70
      replace H := Option.bind_eq_some_iff.mp H
      obtain ⟨t113, A80, H⟩ := H
      replace H : (if t112 = t113 then ((tag_Right.f a2).bind fun t114 => ((rundleref11_Right.f a2).bind fun t115 => (if (t114 != t115) = true then (rundlelaw11_TagHandles.j0 k a2 true) else (rundlelaw11_TagHandles.j0 k a2 false)))) else (rundlelaw11_TagHandles.j0 k a2 true)) = some r := H
      have A8 := Aside0.mk A80
      clear A80
      by_cases c9 : t112 = t113
      · rw [if_pos c9] at H
        have c9b0 : (t112 == t113) = true := beq_iff_eq.mpr c9
        have c9b1 : (t112 != t113) = false := bne_eq_false_iff_eq.mpr c9
        clear c9
        (first | rw [c9b0] | (simp only [i64_w, i32_w]; rw [c9b0]) | skip)
        replace H := Option.bind_eq_some_iff.mp H
        obtain ⟨t114, A100, H⟩ := H
        replace H : ((rundleref11_Right.f a2).bind fun t115 => (if (t114 != t115) = true then (rundlelaw11_TagHandles.j0 k a2 true) else (rundlelaw11_TagHandles.j0 k a2 false))) = some r := H
        have A10 := Aside0.mk A100
        clear A100
        replace H := Option.bind_eq_some_iff.mp H
        obtain ⟨t115, A110, H⟩ := H
        replace H : (if (t114 != t115) = true then (rundlelaw11_TagHandles.j0 k a2 true) else (rundlelaw11_TagHandles.j0 k a2 false)) = some r := H
        have A11 := Aside0.mk A110
        clear A110
        by_cases c12 : (t114 != t115) = true
        · rw [if_pos c12] at H
          have c12b0 : (t114 != t115) = true := c12
          (try (have c12b1 : decide (t114 = t115) = false := by simpa using c12))
          (try (have c12b2 : (t114 == t115) = false := by simpa using c12))
          (try (have c12b3 : ¬ (t114 = t115) := by simpa using c12))
          clear c12
          have H' := Aside0.mk H
          clear H
          go_wp2_with (first | ((with_reducible refine gate_callee (f := 30) rfl ?_); refine goesL_ (some 7) rfl rfl Try.func30 (by kernel_rfl) rfl #[] rfl (by (try simp only [List.map_toArray, List.map_cons, List.map_nil]); first | done | rfl | (simp only [List.length_drop, List.length_take]; rfl)) ?_; (with_reducible refine (rundlelaw11_awake.calls  true _ A5.out).mono ?_); rintro e w' ⟨rfl, ⟨nd, rfl⟩⟩; refine ⟨_, rfl, ?_⟩) | (go_at_call 31; (with_reducible refine (tag_Handle.calls a0 a1 t112 _ A7.out).mono ?_); rintro e w' ⟨rfl, ⟨nd, rfl⟩⟩) | (go_at_call 32; (with_reducible refine (rundleref11_Handle.calls a0 a1 t113 _ A8.out).mono ?_); rintro e w' ⟨rfl, ⟨nd, rfl⟩⟩) | (go_at_call 33; (with_reducible refine (tag_Right.calls a2 t114 _ A10.out).mono ?_); rintro e w' ⟨rfl, ⟨nd, rfl⟩⟩) | (go_at_call 34; (with_reducible refine (rundleref11_Right.calls a2 t115 _ A11.out).mono ?_); rintro e w' ⟨rfl, ⟨nd, rfl⟩⟩))
          go_meet
          case rel => exact ⟨_, (true), (by first | rfl | (simp; done) | (simp [*]; done)), H', ⟨by first | omega | exact Nat.le_refl _⟩, by repeat (first | exact Drawn0.refl _ | apply Drawn0.step)⟩
        · rw [if_neg c12] at H
          have c12b0 : (t114 != t115) = false := by simpa using c12
          (try (have c12b1 : decide (t114 = t115) = true := by simpa using c12))
          (try (have c12b2 : (t114 == t115) = true := by simpa using c12))
          clear c12
          have H' := Aside0.mk H
          clear H
          go_wp2_with (first | ((with_reducible refine gate_callee (f := 30) rfl ?_); refine goesL_ (some 7) rfl rfl Try.func30 (by kernel_rfl) rfl #[] rfl (by (try simp only [List.map_toArray, List.map_cons, List.map_nil]); first | done | rfl | (simp only [List.length_drop, List.length_take]; rfl)) ?_; (with_reducible refine (rundlelaw11_awake.calls  true _ A5.out).mono ?_); rintro e w' ⟨rfl, ⟨nd, rfl⟩⟩; refine ⟨_, rfl, ?_⟩) | (go_at_call 31; (with_reducible refine (tag_Handle.calls a0 a1 t112 _ A7.out).mono ?_); rintro e w' ⟨rfl, ⟨nd, rfl⟩⟩) | (go_at_call 32; (with_reducible refine (rundleref11_Handle.calls a0 a1 t113 _ A8.out).mono ?_); rintro e w' ⟨rfl, ⟨nd, rfl⟩⟩) | (go_at_call 33; (with_reducible refine (tag_Right.calls a2 t114 _ A10.out).mono ?_); rintro e w' ⟨rfl, ⟨nd, rfl⟩⟩) | (go_at_call 34; (with_reducible refine (rundleref11_Right.calls a2 t115 _ A11.out).mono ?_); rintro e w' ⟨rfl, ⟨nd, rfl⟩⟩))
          go_meet
          case rel => exact ⟨_, (false), (by first | rfl | (simp; done) | (simp [*]; done)), H', ⟨by first | omega | exact Nat.le_refl _⟩, by repeat (first | exact Drawn0.refl _ | apply Drawn0.step)⟩
      · rw [if_neg c9] at H
        have c9b0 : (t112 == t113) = false := beq_eq_false_iff_ne.mpr c9
        have c9b1 : (t112 != t113) = true := bne_iff_ne.mpr c9
        (first | rw [c9b0] | (simp only [i64_w, i32_w]; rw [c9b0]) | skip)
        have H' := Aside0.mk H
        clear H
        go_wp2_with (first | ((with_reducible refine gate_callee (f := 30) rfl ?_); refine goesL_ (some 7) rfl rfl Try.func30 (by kernel_rfl) rfl #[] rfl (by (try simp only [List.map_toArray, List.map_cons, List.map_nil]); first | done | rfl | (simp only [List.length_drop, List.length_take]; rfl)) ?_; (with_reducible refine (rundlelaw11_awake.calls  true _ A5.out).mono ?_); rintro e w' ⟨rfl, ⟨nd, rfl⟩⟩; refine ⟨_, rfl, ?_⟩) | (go_at_call 31; (with_reducible refine (tag_Handle.calls a0 a1 t112 _ A7.out).mono ?_); rintro e w' ⟨rfl, ⟨nd, rfl⟩⟩) | (go_at_call 32; (with_reducible refine (rundleref11_Handle.calls a0 a1 t113 _ A8.out).mono ?_); rintro e w' ⟨rfl, ⟨nd, rfl⟩⟩))
        go_meet
        case rel => exact ⟨_, (true), (by first | rfl | (simp; done) | (simp [*]; done)), H', ⟨by first | omega | exact Nat.le_refl _⟩, by repeat (first | exact Drawn0.refl _ | apply Drawn0.step)⟩
    · replace c6 := Bool.eq_false_iff.mpr c6
      subst c6
      have H1 : (rundlelaw11_TagHandles.j0 k a2 true) = some r := by rw [if_neg (show ¬ (false = true) by decide)] at H; exact H
      clear H
      have H := H1
      clear H1
      have H' := Aside0.mk H
      clear H
      go_wp2_with (first | ((with_reducible refine gate_callee (f := 30) rfl ?_); refine goesL_ (some 7) rfl rfl Try.func30 (by kernel_rfl) rfl #[] rfl (by (try simp only [List.map_toArray, List.map_cons, List.map_nil]); first | done | rfl | (simp only [List.length_drop, List.length_take]; rfl)) ?_; (with_reducible refine (rundlelaw11_awake.calls  false _ A5.out).mono ?_); rintro e w' ⟨rfl, ⟨nd, rfl⟩⟩; refine ⟨_, rfl, ?_⟩))
      go_meet
      case rel => exact ⟨_, (true), (by first | rfl | (simp; done) | (simp [*]; done)), H', ⟨by first | omega | exact Nat.le_refl _⟩, by repeat (first | exact Drawn0.refl _ | apply Drawn0.step)⟩
  case rest =>
    clear HC4
    try clear c1
    try clear p2
    try clear c3
    try clear c6
    try clear c9
    try clear c9b0
    try clear c9b1
    try clear c12
    try clear c12b0
    try clear c12b1
    try clear c12b2
    obtain ⟨kq, x26_3, rfl, HA, HJ3, ⟨mc3, rfl⟩⟩ := hcut
    cases kq with
    | zero => exact absurd HA.out (by simp [rundlelaw11_TagHandles.j0])
    | succ kj3 =>
      have H := HA.out
      clear HA
      simp only [rundlelaw11_TagHandles.j0] at H
      by_cases c13 : x26_3 = true
      · subst c13
        have H1 : (some false) = some r := by rw [if_pos rfl] at H; exact H
        clear H
        have H := H1
        clear H1
        obtain rfl := Option.some.inj H
        go_wp2
        go_ret
        exact ⟨by first | rfl | (simp; done) | (simp [*]; done), by repeat (first | exact Drawn0.refl _ | apply Drawn0.step)⟩
      · replace c13 := Bool.eq_false_iff.mpr c13
        subst c13
        have H1 : ((rundleref11_Right.f a2).bind fun t116 => (if t116 = true then ((tag_Place.f a2).bind fun t117 => (if t117 = (wrap64 ((Int.tmod a2 65536) - 1)) then ((tag_Gen.f a2).bind fun t118 => (some (t118 == (wrap64 (Int.tdiv a2 65536))))) else (some false))) else ((tag_Place.f a2).bind fun t119 => (if t119 = (-1) then ((tag_Gen.f a2).bind fun t120 => (some (t120 == (-1)))) else (some false))))) = some r := by rw [if_neg (show ¬ (false = true) by decide)] at H; exact H
        clear H
        have H := H1
        clear H1
        replace H := Option.bind_eq_some_iff.mp H
        obtain ⟨t116, A140, H⟩ := H
        replace H : (if t116 = true then ((tag_Place.f a2).bind fun t117 => (if t117 = (wrap64 ((Int.tmod a2 65536) - 1)) then ((tag_Gen.f a2).bind fun t118 => (some (t118 == (wrap64 (Int.tdiv a2 65536))))) else (some false))) else ((tag_Place.f a2).bind fun t119 => (if t119 = (-1) then ((tag_Gen.f a2).bind fun t120 => (some (t120 == (-1)))) else (some false)))) = some r := H
        have A14 := Aside0.mk A140
        clear A140
        by_cases c15 : t116 = true
        · subst c15
          have H1 : ((tag_Place.f a2).bind fun t117 => (if t117 = (wrap64 ((Int.tmod a2 65536) - 1)) then ((tag_Gen.f a2).bind fun t118 => (some (t118 == (wrap64 (Int.tdiv a2 65536))))) else (some false))) = some r := by rw [if_pos rfl] at H; exact H
          clear H
          have H := H1
          clear H1
          replace H := Option.bind_eq_some_iff.mp H
          obtain ⟨t117, A160, H⟩ := H
          replace H : (if t117 = (wrap64 ((Int.tmod a2 65536) - 1)) then ((tag_Gen.f a2).bind fun t118 => (some (t118 == (wrap64 (Int.tdiv a2 65536))))) else (some false)) = some r := H
          have A16 := Aside0.mk A160
          clear A160
          by_cases c17 : t117 = (wrap64 ((Int.tmod a2 65536) - 1))
          · rw [if_pos c17] at H
            have c17b0 : (t117 == (wrap64 ((Int.tmod a2 65536) - 1))) = true := beq_iff_eq.mpr c17
            have c17b1 : (t117 != (wrap64 ((Int.tmod a2 65536) - 1))) = false := bne_eq_false_iff_eq.mpr c17
            clear c17
            replace H := Option.bind_eq_some_iff.mp H
            obtain ⟨t118, A180, H⟩ := H
            replace H : (some (t118 == (wrap64 (Int.tdiv a2 65536)))) = some r := H
            have A18 := Aside0.mk A180
            clear A180
            obtain rfl := Option.some.inj H
            go_wp2_with (first | ((with_reducible refine gate_callee (f := 34) rfl ?_); refine goesL_ (some 28) rfl rfl Try.func34 (by kernel_rfl) rfl #[.int .i64 a2] rfl (by (try simp only [List.map_toArray, List.map_cons, List.map_nil]); first | done | rfl | (simp only [List.length_drop, List.length_take]; rfl)) ?_; (with_reducible refine (rundleref11_Right.calls a2 true _ A14.out).mono ?_); rintro e w' ⟨rfl, ⟨nd, rfl⟩⟩; refine ⟨_, rfl, ?_⟩) | ((with_reducible refine gate_callee (f := 35) rfl ?_); refine goesL_ (some 39) rfl rfl Try.func35 (by kernel_rfl) rfl #[.int .i64 a2] rfl (by (try simp only [List.map_toArray, List.map_cons, List.map_nil]); first | done | rfl | (simp only [List.length_drop, List.length_take]; rfl)) ?_; (with_reducible refine (tag_Place.calls a2 t117 _ A16.out).mono ?_); rintro e w' ⟨rfl, ⟨nd, rfl⟩⟩; refine ⟨_, rfl, ?_⟩) | (go_at_call 36; (with_reducible refine (tag_Gen.calls a2 t118 _ A18.out).mono ?_); rintro e w' ⟨rfl, ⟨nd, rfl⟩⟩))
            go_ret
            exact ⟨by first | rfl | (simp; done) | (simp [*]; done), by repeat (first | exact Drawn0.refl _ | apply Drawn0.step)⟩
          · rw [if_neg c17] at H
            have c17b0 : (t117 == (wrap64 ((Int.tmod a2 65536) - 1))) = false := beq_eq_false_iff_ne.mpr c17
            have c17b1 : (t117 != (wrap64 ((Int.tmod a2 65536) - 1))) = true := bne_iff_ne.mpr c17
            obtain rfl := Option.some.inj H
            go_wp2_with (first | ((with_reducible refine gate_callee (f := 34) rfl ?_); refine goesL_ (some 28) rfl rfl Try.func34 (by kernel_rfl) rfl #[.int .i64 a2] rfl (by (try simp only [List.map_toArray, List.map_cons, List.map_nil]); first | done | rfl | (simp only [List.length_drop, List.length_take]; rfl)) ?_; (with_reducible refine (rundleref11_Right.calls a2 true _ A14.out).mono ?_); rintro e w' ⟨rfl, ⟨nd, rfl⟩⟩; refine ⟨_, rfl, ?_⟩) | ((with_reducible refine gate_callee (f := 35) rfl ?_); refine goesL_ (some 39) rfl rfl Try.func35 (by kernel_rfl) rfl #[.int .i64 a2] rfl (by (try simp only [List.map_toArray, List.map_cons, List.map_nil]); first | done | rfl | (simp only [List.length_drop, List.length_take]; rfl)) ?_; (with_reducible refine (tag_Place.calls a2 t117 _ A16.out).mono ?_); rintro e w' ⟨rfl, ⟨nd, rfl⟩⟩; refine ⟨_, rfl, ?_⟩))
            go_ret
            exact ⟨by first | rfl | (simp; done) | (simp [*]; done), by repeat (first | exact Drawn0.refl _ | apply Drawn0.step)⟩
        · replace c15 := Bool.eq_false_iff.mpr c15
          subst c15
          have H1 : ((tag_Place.f a2).bind fun t119 => (if t119 = (-1) then ((tag_Gen.f a2).bind fun t120 => (some (t120 == (-1)))) else (some false))) = some r := by rw [if_neg (show ¬ (false = true) by decide)] at H; exact H
          clear H
          have H := H1
          clear H1
          replace H := Option.bind_eq_some_iff.mp H
          obtain ⟨t119, A190, H⟩ := H
          replace H : (if t119 = (-1) then ((tag_Gen.f a2).bind fun t120 => (some (t120 == (-1)))) else (some false)) = some r := H
          have A19 := Aside0.mk A190
          clear A190
          by_cases c20 : t119 = (-1)
          · rw [if_pos c20] at H
            have c20b0 : (t119 == (-1)) = true := beq_iff_eq.mpr c20
            have c20b1 : (t119 != (-1)) = false := bne_eq_false_iff_eq.mpr c20
            clear c20
            replace H := Option.bind_eq_some_iff.mp H
            obtain ⟨t120, A210, H⟩ := H
            replace H : (some (t120 == (-1))) = some r := H
            have A21 := Aside0.mk A210
            clear A210
            obtain rfl := Option.some.inj H
            go_wp2_with (first | ((with_reducible refine gate_callee (f := 34) rfl ?_); refine goesL_ (some 28) rfl rfl Try.func34 (by kernel_rfl) rfl #[.int .i64 a2] rfl (by (try simp only [List.map_toArray, List.map_cons, List.map_nil]); first | done | rfl | (simp only [List.length_drop, List.length_take]; rfl)) ?_; (with_reducible refine (rundleref11_Right.calls a2 false _ A14.out).mono ?_); rintro e w' ⟨rfl, ⟨nd, rfl⟩⟩; refine ⟨_, rfl, ?_⟩) | ((with_reducible refine gate_callee (f := 35) rfl ?_); refine goesL_ (some 31) rfl rfl Try.func35 (by kernel_rfl) rfl #[.int .i64 a2] rfl (by (try simp only [List.map_toArray, List.map_cons, List.map_nil]); first | done | rfl | (simp only [List.length_drop, List.length_take]; rfl)) ?_; (with_reducible refine (tag_Place.calls a2 t119 _ A19.out).mono ?_); rintro e w' ⟨rfl, ⟨nd, rfl⟩⟩; refine ⟨_, rfl, ?_⟩) | (go_at_call 36; (with_reducible refine (tag_Gen.calls a2 t120 _ A21.out).mono ?_); rintro e w' ⟨rfl, ⟨nd, rfl⟩⟩))
            go_ret
            exact ⟨by first | rfl | (simp; done) | (simp [*]; done), by repeat (first | exact Drawn0.refl _ | apply Drawn0.step)⟩
          · rw [if_neg c20] at H
            have c20b0 : (t119 == (-1)) = false := beq_eq_false_iff_ne.mpr c20
            have c20b1 : (t119 != (-1)) = true := bne_iff_ne.mpr c20
            obtain rfl := Option.some.inj H
            go_wp2_with (first | ((with_reducible refine gate_callee (f := 34) rfl ?_); refine goesL_ (some 28) rfl rfl Try.func34 (by kernel_rfl) rfl #[.int .i64 a2] rfl (by (try simp only [List.map_toArray, List.map_cons, List.map_nil]); first | done | rfl | (simp only [List.length_drop, List.length_take]; rfl)) ?_; (with_reducible refine (rundleref11_Right.calls a2 false _ A14.out).mono ?_); rintro e w' ⟨rfl, ⟨nd, rfl⟩⟩; refine ⟨_, rfl, ?_⟩) | ((with_reducible refine gate_callee (f := 35) rfl ?_); refine goesL_ (some 31) rfl rfl Try.func35 (by kernel_rfl) rfl #[.int .i64 a2] rfl (by (try simp only [List.map_toArray, List.map_cons, List.map_nil]); first | done | rfl | (simp only [List.length_drop, List.length_take]; rfl)) ?_; (with_reducible refine (tag_Place.calls a2 t119 _ A19.out).mono ?_); rintro e w' ⟨rfl, ⟨nd, rfl⟩⟩; refine ⟨_, rfl, ?_⟩))
            go_ret
            exact ⟨by first | rfl | (simp; done) | (simp [*]; done), by repeat (first | exact Drawn0.refl _ | apply Drawn0.step)⟩

/-- THE ONE PURE STATEMENT of rundlelaw11_TagHandles: yours. -/
def rundlelaw11_TagHandles.Pure : Prop := ∀ (a0 : Int) (a1 : Int) (a2 : Int), (Lit.int .i64 a0).wf = true → (Lit.int .i64 a1).wf = true → (Lit.int .i64 a2).wf = true → ∃ k, rundlelaw11_TagHandles.f k a0 a1 a2 = some true
theorem rundlelaw11_TagHandles.walk (P : rundlelaw11_TagHandles.Pure) (a0 : Int) (a1 : Int) (a2 : Int) (w : World) (w0 : (Lit.int .i64 a0).wf = true) (w1 : (Lit.int .i64 a1).wf = true) (w2 : (Lit.int .i64 a2).wf = true) :
    Calls Try.prog 12 #[.int .i64 a0, .int .i64 a1, .int .i64 a2] w fun e w' => e = .returned (.bool true) ∧ Below w.heap.size w w' := by
  obtain ⟨k, h⟩ := P a0 a1 a2 w0 w1 w2
  refine (rundlelaw11_TagHandles.calls k a0 a1 a2 true w h).mono ?_
  rintro e w' ⟨rfl, hd⟩
  exact ⟨rfl, hd.below⟩

end Go.Proofs.Ytnnkckijpikhlaa.PTagHandles
