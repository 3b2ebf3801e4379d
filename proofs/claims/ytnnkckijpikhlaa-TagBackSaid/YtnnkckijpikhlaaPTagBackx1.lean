-- PRINTED BY print.sh 35421559b90ae4d0a3588c463048766b98c2df88dd9212a6774a882060cdf62d: not written by this session
import Derived.Test.YtnnkckijpikhlaaPTagBackx0
namespace Go.Proofs.Ytnnkckijpikhlaa.PTagBack
open Go.RowKit Go.Proofs.YtnnkckijpikhlaaW.PrintWords Go.Proofs.YtnnkckijpikhlaaW.PrintLast Go.Proofs.YtnnkckijpikhlaaW.PrintMore
attribute [local go_sem] max2_int min2_int max_two min_two max_three min_three max_four min_four   -- for this text's walks alone
set_option linter.unusedVariables false
set_option linter.unusedSimpArgs false

/-! ### tag_within: function 45 -/
def tag_within.f (a0 : Int) (a1 : Int) : Option (Bool) := if a0 ≥ 0 then (some (decide (a0 ≤ a1))) else (some false)
set_option maxHeartbeats 8000000 in
set_option maxRecDepth 100000 in
theorem tag_within.calls (a0 : Int) (a1 : Int) (r : Bool) (w : World) (h : tag_within.f a0 a1 = some r) :
    Calls Try.prog 45 #[.int .i64 a0, .int .i64 a1] w fun e w' => e = .returned (.bool r) ∧ Drawn0 w w' := by
  have H : (if a0 ≥ 0 then (some (decide (a0 ≤ a1))) else (some false)) = some r := h
  clear h
  by_cases c3 : a0 ≥ 0
  · rw [if_pos c3] at H
    have c3b0 : decide (0 ≤ a0) = true := decide_eq_true c3
    clear c3
    obtain rfl := Option.some.inj H
    go_enter Try.func45, Try.ntmps45
    go_wp2
    go_ret
    exact ⟨by first | rfl | (simp; done) | (simp [*]; done), by repeat (first | exact Drawn0.refl _ | apply Drawn0.step)⟩
  · rw [if_neg c3] at H
    have c3b0 : decide (0 ≤ a0) = false := decide_eq_false c3
    clear c3
    obtain rfl := Option.some.inj H
    go_enter Try.func45, Try.ntmps45
    go_wp2
    go_ret
    exact ⟨by first | rfl | (simp; done) | (simp [*]; done), by repeat (first | exact Drawn0.refl _ | apply Drawn0.step)⟩

/-! ### tag_Right: function 33 -/
def tag_Right.f (a0 : Int) : Option (Bool) := (tag_within.f (a0 / 65536) 16383).bind fun t101 => (if t101 = true then (some ((Go.bits .and .i64 a0 65535) != 0)) else (some false))
set_option maxHeartbeats 8000000 in
set_option maxRecDepth 100000 in
theorem tag_Right.calls (a0 : Int) (r : Bool) (w : World) (h : tag_Right.f a0 = some r) :
    Calls Try.prog 33 #[.int .i64 a0] w fun e w' => e = .returned (.bool r) ∧ Drawn0 w w' := by
  have H : ((tag_within.f (a0 / 65536) 16383).bind fun t101 => (if t101 = true then (some ((Go.bits .and .i64 a0 65535) != 0)) else (some false))) = some r := h
  clear h
  replace H := Option.bind_eq_some_iff.mp H
  obtain ⟨t101, A20, H⟩ := H
  replace H : (if t101 = true then (some ((Go.bits .and .i64 a0 65535) != 0)) else (some false)) = some r := H
  have A2 := Aside0.mk A20
  clear A20
  by_cases c3 : t101 = true
  · subst c3
    have H1 : (some ((Go.bits .and .i64 a0 65535) != 0)) = some r := by rw [if_pos rfl] at H; exact H
    clear H
    have H := H1
    clear H1
    obtain rfl := Option.some.inj H
    go_enter Try.func33, Try.ntmps33
    go_wp2_with (first | ((with_reducible refine gate_callee (f := 45) rfl ?_); refine goesL_ (some 5) rfl rfl Try.func45 (by kernel_rfl) rfl #[.int .i64 (a0 / 65536), .int .i64 16383] rfl (by (try simp only [List.map_toArray, List.map_cons, List.map_nil]); first | done | rfl | (simp only [List.length_drop, List.length_take]; rfl)) ?_; (with_reducible refine (tag_within.calls (a0 / 65536) 16383 true _ A2.out).mono ?_); rintro e w' ⟨rfl, ⟨nd, rfl⟩⟩; refine ⟨_, rfl, ?_⟩))
    go_ret
    exact ⟨by first | rfl | (simp; done) | (simp [*]; done), by repeat (first | exact Drawn0.refl _ | apply Drawn0.step)⟩
  · replace c3 := Bool.eq_false_iff.mpr c3
    subst c3
    have H1 : (some false) = some r := by rw [if_neg (show ¬ (false = true) by decide)] at H; exact H
    clear H
    have H := H1
    clear H1
    obtain rfl := Option.some.inj H
    go_enter Try.func33, Try.ntmps33
    go_wp2_with (first | ((with_reducible refine gate_callee (f := 45) rfl ?_); refine goesL_ (some 5) rfl rfl Try.func45 (by kernel_rfl) rfl #[.int .i64 (a0 / 65536), .int .i64 16383] rfl (by (try simp only [List.map_toArray, List.map_cons, List.map_nil]); first | done | rfl | (simp only [List.length_drop, List.length_take]; rfl)) ?_; (with_reducible refine (tag_within.calls (a0 / 65536) 16383 false _ A2.out).mono ?_); rintro e w' ⟨rfl, ⟨nd, rfl⟩⟩; refine ⟨_, rfl, ?_⟩))
    go_ret
    exact ⟨by first | rfl | (simp; done) | (simp [*]; done), by repeat (first | exact Drawn0.refl _ | apply Drawn0.step)⟩

/-! ### tag_Word: function 29 -/
def tag_Word.f (a0 : Int) (a1 : Int) : Option (Int) := if a0 = 0 then ((tag_within.f a1 1073741824).bind fun t102 => (if t102 = true then (some (Go.bits .or .i64 (wrap64 (a1 * 2147483648)) a0)) else (some (-1)))) else ((tag_Right.f a0).bind fun t103 => (if t103 = true then ((tag_within.f a1 1073741824).bind fun t104 => (if t104 = true then (some (Go.bits .or .i64 (wrap64 (a1 * 2147483648)) a0)) else (some (-1)))) else (some (-1))))
set_option maxHeartbeats 8000000 in
set_option maxRecDepth 100000 in
theorem tag_Word.calls (a0 : Int) (a1 : Int) (r : Int) (w : World) (h : tag_Word.f a0 a1 = some r) :
    Calls Try.prog 29 #[.int .i64 a0, .int .i64 a1] w fun e w' => e = .returned (.int .i64 r) ∧ Drawn0 w w' := by
  have H : (if a0 = 0 then ((tag_within.f a1 1073741824).bind fun t102 => (if t102 = true then (some (Go.bits .or .i64 (wrap64 (a1 * 2147483648)) a0)) else (some (-1)))) else ((tag_Right.f a0).bind fun t103 => (if t103 = true then ((tag_within.f a1 1073741824).bind fun t104 => (if t104 = true then (some (Go.bits .or .i64 (wrap64 (a1 * 2147483648)) a0)) else (some (-1)))) else (some (-1))))) = some r := h
  clear h
  by_cases c3 : a0 = 0
  · rw [if_pos c3] at H
    have c3b0 : (a0 == 0) = true := beq_iff_eq.mpr c3
    have c3b1 : (a0 != 0) = false := bne_eq_false_iff_eq.mpr c3
    clear c3
    replace H := Option.bind_eq_some_iff.mp H
    obtain ⟨t102, A40, H⟩ := H
    replace H : (if t102 = true then (some (Go.bits .or .i64 (wrap64 (a1 * 2147483648)) a0)) else (some (-1))) = some r := H
    have A4 := Aside0.mk A40
    clear A40
    by_cases c5 : t102 = true
    · subst c5
      have H1 : (some (Go.bits .or .i64 (wrap64 (a1 * 2147483648)) a0)) = some r := by rw [if_pos rfl] at H; exact H
      clear H
      have H := H1
      clear H1
      obtain rfl := Option.some.inj H
      go_enter Try.func29, Try.ntmps29
      go_wp2_with (first | (go_at_call 45; (with_reducible refine (tag_within.calls a1 1073741824 true _ A4.out).mono ?_); rintro e w' ⟨rfl, ⟨nd, rfl⟩⟩))
      go_ret
      exact ⟨by first | rfl | (simp; done) | (simp [*]; done), by repeat (first | exact Drawn0.refl _ | apply Drawn0.step)⟩
    · replace c5 := Bool.eq_false_iff.mpr c5
      subst c5
      have H1 : (some (-1)) = some r := by rw [if_neg (show ¬ (false = true) by decide)] at H; exact H
      clear H
      have H := H1
      clear H1
      obtain rfl := Option.some.inj H
      go_enter Try.func29, Try.ntmps29
      go_wp2_with (first | (go_at_call 45; (with_reducible refine (tag_within.calls a1 1073741824 false _ A4.out).mono ?_); rintro e w' ⟨rfl, ⟨nd, rfl⟩⟩))
      go_ret
      exact ⟨by first | rfl | (simp; done) | (simp [*]; done), by repeat (first | exact Drawn0.refl _ | apply Drawn0.step)⟩
  · rw [if_neg c3] at H
    have c3b0 : (a0 == 0) = false := beq_eq_false_iff_ne.mpr c3
    have c3b1 : (a0 != 0) = true := bne_iff_ne.mpr c3
    replace H := Option.bind_eq_some_iff.mp H
    obtain ⟨t103, A60, H⟩ := H
    replace H : (if t103 = true then ((tag_within.f a1 1073741824).bind fun t104 => (if t104 = true then (some (Go.bits .or .i64 (wrap64 (a1 * 2147483648)) a0)) else (some (-1)))) else (some (-1))) = some r := H
    have A6 := Aside0.mk A60
    clear A60
    by_cases c7 : t103 = true
    · subst c7
      have H1 : ((tag_within.f a1 1073741824).bind fun t104 => (if t104 = true then (some (Go.bits .or .i64 (wrap64 (a1 * 2147483648)) a0)) else (some (-1)))) = some r := by rw [if_pos rfl] at H; exact H
      clear H
      have H := H1
      clear H1
      replace H := Option.bind_eq_some_iff.mp H
      obtain ⟨t104, A80, H⟩ := H
      replace H : (if t104 = true then (some (Go.bits .or .i64 (wrap64 (a1 * 2147483648)) a0)) else (some (-1))) = some r := H
      have A8 := Aside0.mk A80
      clear A80
      by_cases c9 : t104 = true
      · subst c9
        have H1 : (some (Go.bits .or .i64 (wrap64 (a1 * 2147483648)) a0)) = some r := by rw [if_pos rfl] at H; exact H
        clear H
        have H := H1
        clear H1
        obtain rfl := Option.some.inj H
        go_enter Try.func29, Try.ntmps29
        go_wp2_with (first | (go_at_call 33; (with_reducible refine (tag_Right.calls a0 true _ A6.out).mono ?_); rintro e w' ⟨rfl, ⟨nd, rfl⟩⟩) | (go_at_call 45; (with_reducible refine (tag_within.calls a1 1073741824 true _ A8.out).mono ?_); rintro e w' ⟨rfl, ⟨nd, rfl⟩⟩))
        go_ret
        exact ⟨by first | rfl | (simp; done) | (simp [*]; done), by repeat (first | exact Drawn0.refl _ | apply Drawn0.step)⟩
      · replace c9 := Bool.eq_false_iff.mpr c9
        subst c9
        have H1 : (some (-1)) = some r := by rw [if_neg (show ¬ (false = true) by decide)] at H; exact H
        clear H
        have H := H1
        clear H1
        obtain rfl := Option.some.inj H
        go_enter Try.func29, Try.ntmps29
        go_wp2_with (first | (go_at_call 33; (with_reducible refine (tag_Right.calls a0 true _ A6.out).mono ?_); rintro e w' ⟨rfl, ⟨nd, rfl⟩⟩) | (go_at_call 45; (with_reducible refine (tag_within.calls a1 1073741824 false _ A8.out).mono ?_); rintro e w' ⟨rfl, ⟨nd, rfl⟩⟩))
        go_ret
        exact ⟨by first | rfl | (simp; done) | (simp [*]; done), by repeat (first | exact Drawn0.refl _ | apply Drawn0.step)⟩
    · replace c7 := Bool.eq_false_iff.mpr c7
      subst c7
      have H1 : (some (-1)) = some r := by rw [if_neg (show ¬ (false = true) by decide)] at H; exact H
      clear H
      have H := H1
      clear H1
      obtain rfl := Option.some.inj H
      go_enter Try.func29, Try.ntmps29
      go_wp2_with (first | (go_at_call 33; (with_reducible refine (tag_Right.calls a0 false _ A6.out).mono ?_); rintro e w' ⟨rfl, ⟨nd, rfl⟩⟩))
      go_ret
      exact ⟨by first | rfl | (simp; done) | (simp [*]; done), by repeat (first | exact Drawn0.refl _ | apply Drawn0.step)⟩

/-! ### tag_Handle: function 31 -/
def tag_Handle.f (a0 : Int) (a1 : Int) : Option (Int) := (tag_within.f a0 65534).bind fun t105 => (if t105 = true then ((tag_within.f a1 16383).bind fun t106 => (if t106 = true then (some (Go.bits .or .i64 (wrap64 (a1 * 65536)) (wrap64 (a0 + 1)))) else (some 0))) else (some 0))
set_option maxHeartbeats 8000000 in
set_option maxRecDepth 100000 in
theorem tag_Handle.calls (a0 : Int) (a1 : Int) (r : Int) (w : World) (h : tag_Handle.f a0 a1 = some r) :
    Calls Try.prog 31 #[.int .i64 a0, .int .i64 a1] w fun e w' => e = .returned (.int .i64 r) ∧ Drawn0 w w' := by
  have H : ((tag_within.f a0 65534).bind fun t105 => (if t105 = true then ((tag_within.f a1 16383).bind fun t106 => (if t106 = true then (some (Go.bits .or .i64 (wrap64 (a1 * 65536)) (wrap64 (a0 + 1)))) else (some 0))) else (some 0))) = some r := h
  clear h
  replace H := Option.bind_eq_some_iff.mp H
  obtain ⟨t105, A30, H⟩ := H
  replace H : (if t105 = true then ((tag_within.f a1 16383).bind fun t106 => (if t106 = true then (some (Go.bits .or .i64 (wrap64 (a1 * 65536)) (wrap64 (a0 + 1)))) else (some 0))) else (some 0)) = some r := H
  have A3 := Aside0.mk A30
  clear A30
  by_cases c4 : t105 = true
  · subst c4
    have H1 : ((tag_within.f a1 16383).bind fun t106 => (if t106 = true then (some (Go.bits .or .i64 (wrap64 (a1 * 65536)) (wrap64 (a0 + 1)))) else (some 0))) = some r := by rw [if_pos rfl] at H; exact H
    clear H
    have H := H1
    clear H1
    replace H := Option.bind_eq_some_iff.mp H
    obtain ⟨t106, A50, H⟩ := H
    replace H : (if t106 = true then (some (Go.bits .or .i64 (wrap64 (a1 * 65536)) (wrap64 (a0 + 1)))) else (some 0)) = some r := H
    have A5 := Aside0.mk A50
    clear A50
    by_cases c6 : t106 = true
    · subst c6
      have H1 : (some (Go.bits .or .i64 (wrap64 (a1 * 65536)) (wrap64 (a0 + 1)))) = some r := by rw [if_pos rfl] at H; exact H
      clear H
      have H := H1
      clear H1
      obtain rfl := Option.some.inj H
      go_enter Try.func31, Try.ntmps31
      go_wp2_with (first | ((with_reducible refine gate_callee (f := 45) rfl ?_); refine goesL_ (some 6) rfl rfl Try.func45 (by kernel_rfl) rfl #[.int .i64 a0, .int .i64 65534] rfl (by (try simp only [List.map_toArray, List.map_cons, List.map_nil]); first | done | rfl | (simp only [List.length_drop, List.length_take]; rfl)) ?_; (with_reducible refine (tag_within.calls a0 65534 true _ A3.out).mono ?_); rintro e w' ⟨rfl, ⟨nd, rfl⟩⟩; refine ⟨_, rfl, ?_⟩) | (go_at_call 45; (with_reducible refine (tag_within.calls a1 16383 true _ A5.out).mono ?_); rintro e w' ⟨rfl, ⟨nd, rfl⟩⟩))
      go_ret
      exact ⟨by first | rfl | (simp; done) | (simp [*]; done), by repeat (first | exact Drawn0.refl _ | apply Drawn0.step)⟩
    · replace c6 := Bool.eq_false_iff.mpr c6
      subst c6
      have H1 : (some 0) = some r := by rw [if_neg (show ¬ (false = true) by decide)] at H; exact H
      clear H
      have H := H1
      clear H1
      obtain rfl := Option.some.inj H
      go_enter Try.func31, Try.ntmps31
      go_wp2_with (first | ((with_reducible refine gate_callee (f := 45) rfl ?_); refine goesL_ (some 6) rfl rfl Try.func45 (by kernel_rfl) rfl #[.int .i64 a0, .int .i64 65534] rfl (by (try simp only [List.map_toArray, List.map_cons, List.map_nil]); first | done | rfl | (simp only [List.length_drop, List.length_take]; rfl)) ?_; (with_reducible refine (tag_within.calls a0 65534 true _ A3.out).mono ?_); rintro e w' ⟨rfl, ⟨nd, rfl⟩⟩; refine ⟨_, rfl, ?_⟩) | (go_at_call 45; (with_reducible refine (tag_within.calls a1 16383 false _ A5.out).mono ?_); rintro e w' ⟨rfl, ⟨nd, rfl⟩⟩))
      go_ret
      exact ⟨by first | rfl | (simp; done) | (simp [*]; done), by repeat (first | exact Drawn0.refl _ | apply Drawn0.step)⟩
  · replace c4 := Bool.eq_false_iff.mpr c4
    subst c4
    have H1 : (some 0) = some r := by rw [if_neg (show ¬ (false = true) by decide)] at H; exact H
    clear H
    have H := H1
    clear H1
    obtain rfl := Option.some.inj H
    go_enter Try.func31, Try.ntmps31
    go_wp2_with (first | ((with_reducible refine gate_callee (f := 45) rfl ?_); refine goesL_ (some 6) rfl rfl Try.func45 (by kernel_rfl) rfl #[.int .i64 a0, .int .i64 65534] rfl (by (try simp only [List.map_toArray, List.map_cons, List.map_nil]); first | done | rfl | (simp only [List.length_drop, List.length_take]; rfl)) ?_; (with_reducible refine (tag_within.calls a0 65534 false _ A3.out).mono ?_); rintro e w' ⟨rfl, ⟨nd, rfl⟩⟩; refine ⟨_, rfl, ?_⟩))
    go_ret
    exact ⟨by first | rfl | (simp; done) | (simp [*]; done), by repeat (first | exact Drawn0.refl _ | apply Drawn0.step)⟩

/-! ### rundlelaw11_awake: function 30 -/
def rundlelaw11_awake.f  : Option (Bool) := (tag_Handle.f 0 0).bind fun t107 => (if t107 = 1 then ((tag_Word.f 1 2).bind fun t108 => (some (t108 == 4294967297))) else (some false))
set_option maxHeartbeats 8000000 in
set_option maxRecDepth 100000 in
theorem rundlelaw11_awake.calls  (r : Bool) (w : World) (h : rundlelaw11_awake.f  = some r) :
    Calls Try.prog 30 #[] w fun e w' => e = .returned (.bool r) ∧ Drawn0 w w' := by
  have H : ((tag_Handle.f 0 0).bind fun t107 => (if t107 = 1 then ((tag_Word.f 1 2).bind fun t108 => (some (t108 == 4294967297))) else (some false))) = some r := h
  clear h
  replace H := Option.bind_eq_some_iff.mp H
  obtain ⟨t107, A10, H⟩ := H
  replace H : (if t107 = 1 then ((tag_Word.f 1 2).bind fun t108 => (some (t108 == 4294967297))) else (some false)) = some r := H
  have A1 := Aside0.mk A10
  clear A10
  by_cases c2 : t107 = 1
  · rw [if_pos c2] at H
    have c2b0 : (t107 == 1) = true := beq_iff_eq.mpr c2
    have c2b1 : (t107 != 1) = false := bne_eq_false_iff_eq.mpr c2
    clear c2
    replace H := Option.bind_eq_some_iff.mp H
    obtain ⟨t108, A30, H⟩ := H
    replace H : (some (t108 == 4294967297)) = some r := H
    have A3 := Aside0.mk A30
    clear A30
    obtain rfl := Option.some.inj H
    go_enter Try.func30, Try.ntmps30
    go_wp2_with (first | ((with_reducible refine gate_callee (f := 31) rfl ?_); refine goesL_ (some 1) rfl rfl Try.func31 (by kernel_rfl) rfl #[.int .i64 0, .int .i64 0] rfl (by (try simp only [List.map_toArray, List.map_cons, List.map_nil]); first | done | rfl | (simp only [List.length_drop, List.length_take]; rfl)) ?_; (with_reducible refine (tag_Handle.calls 0 0 t107 _ A1.out).mono ?_); rintro e w' ⟨rfl, ⟨nd, rfl⟩⟩; refine ⟨_, rfl, ?_⟩) | (go_at_call 29; (with_reducible refine (tag_Word.calls 1 2 t108 _ A3.out).mono ?_); rintro e w' ⟨rfl, ⟨nd, rfl⟩⟩))
    go_ret
    exact ⟨by first | rfl | (simp; done) | (simp [*]; done), by repeat (first | exact Drawn0.refl _ | apply Drawn0.step)⟩
  · rw [if_neg c2] at H
    have c2b0 : (t107 == 1) = false := beq_eq_false_iff_ne.mpr c2
    have c2b1 : (t107 != 1) = true := bne_iff_ne.mpr c2
    obtain rfl := Option.some.inj H
    go_enter Try.func30, Try.ntmps30
    go_wp2_with (first | ((with_reducible refine gate_callee (f := 31) rfl ?_); refine goesL_ (some 1) rfl rfl Try.func31 (by kernel_rfl) rfl #[.int .i64 0, .int .i64 0] rfl (by (try simp only [List.map_toArray, List.map_cons, List.map_nil]); first | done | rfl | (simp only [List.length_drop, List.length_take]; rfl)) ?_; (with_reducible refine (tag_Handle.calls 0 0 t107 _ A1.out).mono ?_); rintro e w' ⟨rfl, ⟨nd, rfl⟩⟩; refine ⟨_, rfl, ?_⟩))
    go_ret
    exact ⟨by first | rfl | (simp; done) | (simp [*]; done), by repeat (first | exact Drawn0.refl _ | apply Drawn0.step)⟩

/-! ### tag_Place: function 35 -/
def tag_Place.f (a0 : Int) : Option (Int) := (tag_Right.f a0).bind fun t109 => (if t109 = true then (some (wrap64 ((Go.bits .and .i64 a0 65535) - 1))) else (some (-1)))
set_option maxHeartbeats 8000000 in
set_option maxRecDepth 100000 in
theorem tag_Place.calls (a0 : Int) (r : Int) (w : World) (h : tag_Place.f a0 = some r) :
    Calls Try.prog 35 #[.int .i64 a0] w fun e w' => e = .returned (.int .i64 r) ∧ Drawn0 w w' := by
  have H : ((tag_Right.f a0).bind fun t109 => (if t109 = true then (some (wrap64 ((Go.bits .and .i64 a0 65535) - 1))) else (some (-1)))) = some r := h
  clear h
  replace H := Option.bind_eq_some_iff.mp H
  obtain ⟨t109, A20, H⟩ := H
  replace H : (if t109 = true then (some (wrap64 ((Go.bits .and .i64 a0 65535) - 1))) else (some (-1))) = some r := H
  have A2 := Aside0.mk A20
  clear A20
  by_cases c3 : t109 = true
  · subst c3
    have H1 : (some (wrap64 ((Go.bits .and .i64 a0 65535) - 1))) = some r := by rw [if_pos rfl] at H; exact H
    clear H
    have H := H1
    clear H1
    obtain rfl := Option.some.inj H
    go_enter Try.func35, Try.ntmps35
    go_wp2_with (first | ((with_reducible refine gate_callee (f := 33) rfl ?_); refine goesL_ (some 4) rfl rfl Try.func33 (by kernel_rfl) rfl #[.int .i64 a0] rfl (by (try simp only [List.map_toArray, List.map_cons, List.map_nil]); first | done | rfl | (simp only [List.length_drop, List.length_take]; rfl)) ?_; (with_reducible refine (tag_Right.calls a0 true _ A2.out).mono ?_); rintro e w' ⟨rfl, ⟨nd, rfl⟩⟩; refine ⟨_, rfl, ?_⟩))
    go_ret
    exact ⟨by first | rfl | (simp; done) | (simp [*]; done), by repeat (first | exact Drawn0.refl _ | apply Drawn0.step)⟩
  · replace c3 := Bool.eq_false_iff.mpr c3
    subst c3
    have H1 : (some (-1)) = some r := by rw [if_neg (show ¬ (false = true) by decide)] at H; exact H
    clear H
    have H := H1
    clear H1
    obtain rfl := Option.some.inj H
    go_enter Try.func35, Try.ntmps35
    go_wp2_with (first | ((with_reducible refine gate_callee (f := 33) rfl ?_); refine goesL_ (some 4) rfl rfl Try.func33 (by kernel_rfl) rfl #[.int .i64 a0] rfl (by (try simp only [List.map_toArray, List.map_cons, List.map_nil]); first | done | rfl | (simp only [List.length_drop, List.length_take]; rfl)) ?_; (with_reducible refine (tag_Right.calls a0 false _ A2.out).mono ?_); rintro e w' ⟨rfl, ⟨nd, rfl⟩⟩; refine ⟨_, rfl, ?_⟩))
    go_ret
    exact ⟨by first | rfl | (simp; done) | (simp [*]; done), by repeat (first | exact Drawn0.refl _ | apply Drawn0.step)⟩

/-! ### tag_Gen: function 36 -/
def tag_Gen.f (a0 : Int) : Option (Int) := (tag_Right.f a0).bind fun t110 => (if t110 = true then (some (a0 / 65536)) else (some (-1)))
set_option maxHeartbeats 8000000 in
set_option maxRecDepth 100000 in
theorem tag_Gen.calls (a0 : Int) (r : Int) (w : World) (h : tag_Gen.f a0 = some r) :
    Calls Try.prog 36 #[.int .i64 a0] w fun e w' => e = .returned (.int .i64 r) ∧ Drawn0 w w' := by
  have H : ((tag_Right.f a0).bind fun t110 => (if t110 = true then (some (a0 / 65536)) else (some (-1)))) = some r := h
  clear h
  replace H := Option.bind_eq_some_iff.mp H
  obtain ⟨t110, A20, H⟩ := H
  replace H : (if t110 = true then (some (a0 / 65536)) else (some (-1))) = some r := H
  have A2 := Aside0.mk A20
  clear A20
  by_cases c3 : t110 = true
  · subst c3
    have H1 : (some (a0 / 65536)) = some r := by rw [if_pos rfl] at H; exact H
    clear H
    have H := H1
    clear H1
    obtain rfl := Option.some.inj H
    go_enter Try.func36, Try.ntmps36
    go_wp2_with (first | ((with_reducible refine gate_callee (f := 33) rfl ?_); refine goesL_ (some 4) rfl rfl Try.func33 (by kernel_rfl) rfl #[.int .i64 a0] rfl (by (try simp only [List.map_toArray, List.map_cons, List.map_nil]); first | done | rfl | (simp only [List.length_drop, List.length_take]; rfl)) ?_; (with_reducible refine (tag_Right.calls a0 true _ A2.out).mono ?_); rintro e w' ⟨rfl, ⟨nd, rfl⟩⟩; refine ⟨_, rfl, ?_⟩))
    go_ret
    exact ⟨by first | rfl | (simp; done) | (simp [*]; done), by repeat (first | exact Drawn0.refl _ | apply Drawn0.step)⟩
  · replace c3 := Bool.eq_false_iff.mpr c3
    subst c3
    have H1 : (some (-1)) = some r := by rw [if_neg (show ¬ (false = true) by decide)] at H; exact H
    clear H
    have H := H1
    clear H1
    obtain rfl := Option.some.inj H
    go_enter Try.func36, Try.ntmps36
    go_wp2_with (first | ((with_reducible refine gate_callee (f := 33) rfl ?_); refine goesL_ (some 4) rfl rfl Try.func33 (by kernel_rfl) rfl #[.int .i64 a0] rfl (by (try simp only [List.map_toArray, List.map_cons, List.map_nil]); first | done | rfl | (simp only [List.length_drop, List.length_take]; rfl)) ?_; (with_reducible refine (tag_Right.calls a0 false _ A2.out).mono ?_); rintro e w' ⟨rfl, ⟨nd, rfl⟩⟩; refine ⟨_, rfl, ?_⟩))
    go_ret
    exact ⟨by first | rfl | (simp; done) | (simp [*]; done), by repeat (first | exact Drawn0.refl _ | apply Drawn0.step)⟩

/-! ### tag_Stamp: function 38 -/
def tag_Stamp.f (a0 : Int) : Option (Int) := (tag_within.f (a0 / 2147483648) 1073741824).bind fun t111 => (if t111 = true then (if (Go.bits .and .i64 a0 2147483647) = 0 then (some (a0 / 2147483648)) else ((tag_Right.f (Go.bits .and .i64 a0 2147483647)).bind fun t112 => (if t112 = true then (some (a0 / 2147483648)) else (some (-1))))) else (some (-1)))
set_option maxHeartbeats 8000000 in
set_option maxRecDepth 100000 in
theorem tag_Stamp.calls (a0 : Int) (r : Int) (w : World) (h : tag_Stamp.f a0 = some r) :
    Calls Try.prog 38 #[.int .i64 a0] w fun e w' => e = .returned (.int .i64 r) ∧ Drawn0 w w' := by
  have H : ((tag_within.f (a0 / 2147483648) 1073741824).bind fun t111 => (if t111 = true then (if (Go.bits .and .i64 a0 2147483647) = 0 then (some (a0 / 2147483648)) else ((tag_Right.f (Go.bits .and .i64 a0 2147483647)).bind fun t112 => (if t112 = true then (some (a0 / 2147483648)) else (some (-1))))) else (some (-1)))) = some r := h
  clear h
  replace H := Option.bind_eq_some_iff.mp H
  obtain ⟨t111, A20, H⟩ := H
  replace H : (if t111 = true then (if (Go.bits .and .i64 a0 2147483647) = 0 then (some (a0 / 2147483648)) else ((tag_Right.f (Go.bits .and .i64 a0 2147483647)).bind fun t112 => (if t112 = true then (some (a0 / 2147483648)) else (some (-1))))) else (some (-1))) = some r := H
  have A2 := Aside0.mk A20
  clear A20
  by_cases c3 : t111 = true
  · subst c3
    have H1 : (if (Go.bits .and .i64 a0 2147483647) = 0 then (some (a0 / 2147483648)) else ((tag_Right.f (Go.bits .and .i64 a0 2147483647)).bind fun t112 => (if t112 = true then (some (a0 / 2147483648)) else (some (-1))))) = some r := by rw [if_pos rfl] at H; exact H
    clear H
    have H := H1
    clear H1
    by_cases c4 : (Go.bits .and .i64 a0 2147483647) = 0
    · rw [if_pos c4] at H
      have c4b0 : ((Go.bits .and .i64 a0 2147483647) == 0) = true := beq_iff_eq.mpr c4
      have c4b1 : ((Go.bits .and .i64 a0 2147483647) != 0) = false := bne_eq_false_iff_eq.mpr c4
      clear c4
      obtain rfl := Option.some.inj H
      go_enter Try.func38, Try.ntmps38
      go_wp2_with (first | ((with_reducible refine gate_callee (f := 45) rfl ?_); refine goesL_ (some 8) rfl rfl Try.func45 (by kernel_rfl) rfl #[.int .i64 (a0 / 2147483648), .int .i64 1073741824] rfl (by (try simp only [List.map_toArray, List.map_cons, List.map_nil]); first | done | rfl | (simp only [List.length_drop, List.length_take]; rfl)) ?_; (with_reducible refine (tag_within.calls (a0 / 2147483648) 1073741824 true _ A2.out).mono ?_); rintro e w' ⟨rfl, ⟨nd, rfl⟩⟩; refine ⟨_, rfl, ?_⟩))
      go_ret
      exact ⟨by first | rfl | (simp; done) | (simp [*]; done), by repeat (first | exact Drawn0.refl _ | apply Drawn0.step)⟩
    · rw [if_neg c4] at H
      have c4b0 : ((Go.bits .and .i64 a0 2147483647) == 0) = false := beq_eq_false_iff_ne.mpr c4
      have c4b1 : ((Go.bits .and .i64 a0 2147483647) != 0) = true := bne_iff_ne.mpr c4
      replace H := Option.bind_eq_some_iff.mp H
      obtain ⟨t112, A50, H⟩ := H
      replace H : (if t112 = true then (some (a0 / 2147483648)) else (some (-1))) = some r := H
      have A5 := Aside0.mk A50
      clear A50
      by_cases c6 : t112 = true
      · subst c6
        have H1 : (some (a0 / 2147483648)) = some r := by rw [if_pos rfl] at H; exact H
        clear H
        have H := H1
        clear H1
        obtain rfl := Option.some.inj H
        go_enter Try.func38, Try.ntmps38
        go_wp2_with (first | ((with_reducible refine gate_callee (f := 45) rfl ?_); refine goesL_ (some 8) rfl rfl Try.func45 (by kernel_rfl) rfl #[.int .i64 (a0 / 2147483648), .int .i64 1073741824] rfl (by (try simp only [List.map_toArray, List.map_cons, List.map_nil]); first | done | rfl | (simp only [List.length_drop, List.length_take]; rfl)) ?_; (with_reducible refine (tag_within.calls (a0 / 2147483648) 1073741824 true _ A2.out).mono ?_); rintro e w' ⟨rfl, ⟨nd, rfl⟩⟩; refine ⟨_, rfl, ?_⟩) | (go_at_call 33; (with_reducible refine (tag_Right.calls (Go.bits .and .i64 a0 2147483647) true _ A5.out).mono ?_); rintro e w' ⟨rfl, ⟨nd, rfl⟩⟩))
        go_ret
        exact ⟨by first | rfl | (simp; done) | (simp [*]; done), by repeat (first | exact Drawn0.refl _ | apply Drawn0.step)⟩
      · replace c6 := Bool.eq_false_iff.mpr c6
        subst c6
        have H1 : (some (-1)) = some r := by rw [if_neg (show ¬ (false = true) by decide)] at H; exact H
        clear H
        have H := H1
        clear H1
        obtain rfl := Option.some.inj H
        go_enter Try.func38, Try.ntmps38
        go_wp2_with (first | ((with_reducible refine gate_callee (f := 45) rfl ?_); refine goesL_ (some 8) rfl rfl Try.func45 (by kernel_rfl) rfl #[.int .i64 (a0 / 2147483648), .int .i64 1073741824] rfl (by (try simp only [List.map_toArray, List.map_cons, List.map_nil]); first | done | rfl | (simp only [List.length_drop, List.length_take]; rfl)) ?_; (with_reducible refine (tag_within.calls (a0 / 2147483648) 1073741824 true _ A2.out).mono ?_); rintro e w' ⟨rfl, ⟨nd, rfl⟩⟩; refine ⟨_, rfl, ?_⟩) | (go_at_call 33; (with_reducible refine (tag_Right.calls (Go.bits .and .i64 a0 2147483647) false _ A5.out).mono ?_); rintro e w' ⟨rfl, ⟨nd, rfl⟩⟩))
        go_ret
        exact ⟨by first | rfl | (simp; done) | (simp [*]; done), by repeat (first | exact Drawn0.refl _ | apply Drawn0.step)⟩
  · replace c3 := Bool.eq_false_iff.mpr c3
    subst c3
    have H1 : (some (-1)) = some r := by rw [if_neg (show ¬ (false = true) by decide)] at H; exact H
    clear H
    have H := H1
    clear H1
    obtain rfl := Option.some.inj H
    go_enter Try.func38, Try.ntmps38
    go_wp2_with (first | ((with_reducible refine gate_callee (f := 45) rfl ?_); refine goesL_ (some 8) rfl rfl Try.func45 (by kernel_rfl) rfl #[.int .i64 (a0 / 2147483648), .int .i64 1073741824] rfl (by (try simp only [List.map_toArray, List.map_cons, List.map_nil]); first | done | rfl | (simp only [List.length_drop, List.length_take]; rfl)) ?_; (with_reducible refine (tag_within.calls (a0 / 2147483648) 1073741824 false _ A2.out).mono ?_); rintro e w' ⟨rfl, ⟨nd, rfl⟩⟩; refine ⟨_, rfl, ?_⟩))
    go_ret
    exact ⟨by first | rfl | (simp; done) | (simp [*]; done), by repeat (first | exact Drawn0.refl _ | apply Drawn0.step)⟩

/-! ### tag_To: function 40 -/
def tag_To.f (a0 : Int) : Option (Int) := if a0 < 0 then (some 0) else ((tag_Right.f (Go.bits .and .i64 a0 2147483647)).bind fun t113 => (if t113 = true then (some (Go.bits .and .i64 a0 2147483647)) else (some 0)))
set_option maxHeartbeats 8000000 in
set_option maxRecDepth 100000 in
theorem tag_To.calls (a0 : Int) (r : Int) (w : World) (h : tag_To.f a0 = some r) :
    Calls Try.prog 40 #[.int .i64 a0] w fun e w' => e = .returned (.int .i64 r) ∧ Drawn0 w w' := by
  have H : (if a0 < 0 then (some 0) else ((tag_Right.f (Go.bits .and .i64 a0 2147483647)).bind fun t113 => (if t113 = true then (some (Go.bits .and .i64 a0 2147483647)) else (some 0)))) = some r := h
  clear h
  by_cases c2 : a0 < 0
  · rw [if_pos c2] at H
    have c2b0 : decide (a0 < 0) = true := decide_eq_true c2
    clear c2
    obtain rfl := Option.some.inj H
    go_enter Try.func40, Try.ntmps40
    go_wp2
    go_ret
    exact ⟨by first | rfl | (simp; done) | (simp [*]; done), by repeat (first | exact Drawn0.refl _ | apply Drawn0.step)⟩
  · rw [if_neg c2] at H
    have c2b0 : decide (a0 < 0) = false := decide_eq_false c2
    clear c2
    replace H := Option.bind_eq_some_iff.mp H
    obtain ⟨t113, A30, H⟩ := H
    replace H : (if t113 = true then (some (Go.bits .and .i64 a0 2147483647)) else (some 0)) = some r := H
    have A3 := Aside0.mk A30
    clear A30
    by_cases c4 : t113 = true
    · subst c4
      have H1 : (some (Go.bits .and .i64 a0 2147483647)) = some r := by rw [if_pos rfl] at H; exact H
      clear H
      have H := H1
      clear H1
      obtain rfl := Option.some.inj H
      go_enter Try.func40, Try.ntmps40
      go_wp2_with (first | (go_at_call 33; (with_reducible refine (tag_Right.calls (Go.bits .and .i64 a0 2147483647) true _ A3.out).mono ?_); rintro e w' ⟨rfl, ⟨nd, rfl⟩⟩))
      go_ret
      exact ⟨by first | rfl | (simp; done) | (simp [*]; done), by repeat (first | exact Drawn0.refl _ | apply Drawn0.step)⟩
    · replace c4 := Bool.eq_false_iff.mpr c4
      subst c4
      have H1 : (some 0) = some r := by rw [if_neg (show ¬ (false = true) by decide)] at H; exact H
      clear H
      have H := H1
      clear H1
      obtain rfl := Option.some.inj H
      go_enter Try.func40, Try.ntmps40
      go_wp2_with (first | (go_at_call 33; (with_reducible refine (tag_Right.calls (Go.bits .and .i64 a0 2147483647) false _ A3.out).mono ?_); rintro e w' ⟨rfl, ⟨nd, rfl⟩⟩))
      go_ret
      exact ⟨by first | rfl | (simp; done) | (simp [*]; done), by repeat (first | exact Drawn0.refl _ | apply Drawn0.step)⟩

/-! ### rundlelaw11_TagBack: function 14 -/
def rundlelaw11_TagBack.f (a0 : Int) (a1 : Int) (a2 : Int) : Option (Bool) := (rundlelaw11_awake.f).bind fun t114 => (if t114 = true then ((tag_Handle.f (Int.tmod (wrap64 (a0)) 65535) (Int.tmod (wrap64 (a1)) 16384)).bind fun t115 => ((tag_Word.f t115 (Int.tmod (wrap64 (a2)) 1073741825)).bind fun t116 => ((tag_Word.f 0 (Int.tmod (wrap64 (a2)) 1073741825)).bind fun t117 => ((tag_Right.f t115).bind fun t118 => (if t118 = true then ((tag_Place.f t115).bind fun t119 => (if t119 = (Int.tmod (wrap64 (a0)) 65535) then ((tag_Gen.f t115).bind fun t120 => (if t120 = (Int.tmod (wrap64 (a1)) 16384) then ((tag_To.f t116).bind fun t121 => (if t121 = t115 then ((tag_Stamp.f t116).bind fun t122 => (if t122 = (Int.tmod (wrap64 (a2)) 1073741825) then ((tag_To.f t117).bind fun t123 => (if t123 = 0 then ((tag_Stamp.f t117).bind fun t124 => (if t124 = (Int.tmod (wrap64 (a2)) 1073741825) then (some (decide (t116 > t117))) else (some false))) else (some false))) else (some false))) else (some false))) else (some false))) else (some false))) else (some false)))))) else (some false))
set_option maxHeartbeats 8000000 in
set_option maxRecDepth 100000 in
theorem rundlelaw11_TagBack.calls (a0 : Int) (a1 : Int) (a2 : Int) (r : Bool) (w : World) (h : rundlelaw11_TagBack.f a0 a1 a2 = some r) :
    Calls Try.prog 14 #[.int .u16 a0, .int .u16 a1, .int .u32 a2] w fun e w' => e = .returned (.bool r) ∧ Drawn0 w w' := by
  have H : ((rundlelaw11_awake.f).bind fun t114 => (if t114 = true then ((tag_Handle.f (Int.tmod (wrap64 (a0)) 65535) (Int.tmod (wrap64 (a1)) 16384)).bind fun t115 => ((tag_Word.f t115 (Int.tmod (wrap64 (a2)) 1073741825)).bind fun t116 => ((tag_Word.f 0 (Int.tmod (wrap64 (a2)) 1073741825)).bind fun t117 => ((tag_Right.f t115).bind fun t118 => (if t118 = true then ((tag_Place.f t115).bind fun t119 => (if t119 = (Int.tmod (wrap64 (a0)) 65535) then ((tag_Gen.f t115).bind fun t120 => (if t120 = (Int.tmod (wrap64 (a1)) 16384) then ((tag_To.f t116).bind fun t121 => (if t121 = t115 then ((tag_Stamp.f t116).bind fun t122 => (if t122 = (Int.tmod (wrap64 (a2)) 1073741825) then ((tag_To.f t117).bind fun t123 => (if t123 = 0 then ((tag_Stamp.f t117).bind fun t124 => (if t124 = (Int.tmod (wrap64 (a2)) 1073741825) then (some (decide (t116 > t117))) else (some false))) else (some false))) else (some false))) else (some false))) else (some false))) else (some false))) else (some false)))))) else (some false))) = some r := h
  clear h
  replace H := Option.bind_eq_some_iff.mp H
  obtain ⟨t114, A40, H⟩ := H
  replace H : (if t114 = true then ((tag_Handle.f (Int.tmod (wrap64 (a0)) 65535) (Int.tmod (wrap64 (a1)) 16384)).bind fun t115 => ((tag_Word.f t115 (Int.tmod (wrap64 (a2)) 1073741825)).bind fun t116 => ((tag_Word.f 0 (Int.tmod (wrap64 (a2)) 1073741825)).bind fun t117 => ((tag_Right.f t115).bind fun t118 => (if t118 = true then ((tag_Place.f t115).bind fun t119 => (if t119 = (Int.tmod (wrap64 (a0)) 65535) then ((tag_Gen.f t115).bind fun t120 => (if t120 = (Int.tmod (wrap64 (a1)) 16384) then ((tag_To.f t116).bind fun t121 => (if t121 = t115 then ((tag_Stamp.f t116).bind fun t122 => (if t122 = (Int.tmod (wrap64 (a2)) 1073741825) then ((tag_To.f t117).bind fun t123 => (if t123 = 0 then ((tag_Stamp.f t117).bind fun t124 => (if t124 = (Int.tmod (wrap64 (a2)) 1073741825) then (some (decide (t116 > t117))) else (some false))) else (some false))) else (some false))) else (some false))) else (some false))) else (some false))) else (some false)))))) else (some false)) = some r := H
  have A4 := Aside0.mk A40
  clear A40
  by_cases c5 : t114 = true
  · subst c5
    have H1 : ((tag_Handle.f (Int.tmod (wrap64 (a0)) 65535) (Int.tmod (wrap64 (a1)) 16384)).bind fun t115 => ((tag_Word.f t115 (Int.tmod (wrap64 (a2)) 1073741825)).bind fun t116 => ((tag_Word.f 0 (Int.tmod (wrap64 (a2)) 1073741825)).bind fun t117 => ((tag_Right.f t115).bind fun t118 => (if t118 = true then ((tag_Place.f t115).bind fun t119 => (if t119 = (Int.tmod (wrap64 (a0)) 65535) then ((tag_Gen.f t115).bind fun t120 => (if t120 = (Int.tmod (wrap64 (a1)) 16384) then ((tag_To.f t116).bind fun t121 => (if t121 = t115 then ((tag_Stamp.f t116).bind fun t122 => (if t122 = (Int.tmod (wrap64 (a2)) 1073741825) then ((tag_To.f t117).bind fun t123 => (if t123 = 0 then ((tag_Stamp.f t117).bind fun t124 => (if t124 = (Int.tmod (wrap64 (a2)) 1073741825) then (some (decide (t116 > t117))) else (some false))) else (some false))) else (some false))) else (some false))) else (some false))) else (some false))) else (some false)))))) = some r := by rw [if_pos rfl] at H; exact H
    clear H
    have H := H1
    clear H1
    replace H := Option.bind_eq_some_iff.mp H
    obtain ⟨t115, A60, H⟩ := H
    replace H : ((tag_Word.f t115 (Int.tmod (wrap64 (a2)) 1073741825)).bind fun t116 => ((tag_Word.f 0 (Int.tmod (wrap64 (a2)) 1073741825)).bind fun t117 => ((tag_Right.f t115).bind fun t118 => (if t118 = true then ((tag_Place.f t115).bind fun t119 => (if t119 = (Int.tmod (wrap64 (a0)) 65535) then ((tag_Gen.f t115).bind fun t120 => (if t120 = (Int.tmod (wrap64 (a1)) 16384) then ((tag_To.f t116).bind fun t121 => (if t121 = t115 then ((tag_Stamp.f t116).bind fun t122 => (if t122 = (Int.tmod (wrap64 (a2)) 1073741825) then ((tag_To.f t117).bind fun t123 => (if t123 = 0 then ((tag_Stamp.f t117).bind fun t124 => (if t124 = (Int.tmod (wrap64 (a2)) 1073741825) then (some (decide (t116 > t117))) else (some false))) else (some false))) else (some false))) else (some false))) else (some false))) else (some false))) else (some false))))) = some r := H
    have A6 := Aside0.mk A60
    clear A60
    replace H := Option.bind_eq_some_iff.mp H
    obtain ⟨t116, A70, H⟩ := H
    replace H : ((tag_Word.f 0 (Int.tmod (wrap64 (a2)) 1073741825)).bind fun t117 => ((tag_Right.f t115).bind fun t118 => (if t118 = true then ((tag_Place.f t115).bind fun t119 => (if t119 = (Int.tmod (wrap64 (a0)) 65535) then ((tag_Gen.f t115).bind fun t120 => (if t120 = (Int.tmod (wrap64 (a1)) 16384) then ((tag_To.f t116).bind fun t121 => (if t121 = t115 then ((tag_Stamp.f t116).bind fun t122 => (if t122 = (Int.tmod (wrap64 (a2)) 1073741825) then ((tag_To.f t117).bind fun t123 => (if t123 = 0 then ((tag_Stamp.f t117).bind fun t124 => (if t124 = (Int.tmod (wrap64 (a2)) 1073741825) then (some (decide (t116 > t117))) else (some false))) else (some false))) else (some false))) else (some false))) else (some false))) else (some false))) else (some false)))) = some r := H
    have A7 := Aside0.mk A70
    clear A70
    replace H := Option.bind_eq_some_iff.mp H
    obtain ⟨t117, A80, H⟩ := H
    replace H : ((tag_Right.f t115).bind fun t118 => (if t118 = true then ((tag_Place.f t115).bind fun t119 => (if t119 = (Int.tmod (wrap64 (a0)) 65535) then ((tag_Gen.f t115).bind fun t120 => (if t120 = (Int.tmod (wrap64 (a1)) 16384) then ((tag_To.f t116).bind fun t121 => (if t121 = t115 then ((tag_Stamp.f t116).bind fun t122 => (if t122 = (Int.tmod (wrap64 (a2)) 1073741825) then ((tag_To.f t117).bind fun t123 => (if t123 = 0 then ((tag_Stamp.f t117).bind fun t124 => (if t124 = (Int.tmod (wrap64 (a2)) 1073741825) then (some (decide (t116 > t117))) else (some false))) else (some false))) else (some false))) else (some false))) else (some false))) else (some false))) else (some false))) = some r := H
    have A8 := Aside0.mk A80
    clear A80
    replace H := Option.bind_eq_some_iff.mp H
    obtain ⟨t118, A90, H⟩ := H
    replace H : (if t118 = true then ((tag_Place.f t115).bind fun t119 => (if t119 = (Int.tmod (wrap64 (a0)) 65535) then ((tag_Gen.f t115).bind fun t120 => (if t120 = (Int.tmod (wrap64 (a1)) 16384) then ((tag_To.f t116).bind fun t121 => (if t121 = t115 then ((tag_Stamp.f t116).bind fun t122 => (if t122 = (Int.tmod (wrap64 (a2)) 1073741825) then ((tag_To.f t117).bind fun t123 => (if t123 = 0 then ((tag_Stamp.f t117).bind fun t124 => (if t124 = (Int.tmod (wrap64 (a2)) 1073741825) then (some (decide (t116 > t117))) else (some false))) else (some false))) else (some false))) else (some false))) else (some false))) else (some false))) else (some false)) = some r := H
    have A9 := Aside0.mk A90
    clear A90
    by_cases c10 : t118 = true
    · subst c10
      have H1 : ((tag_Place.f t115).bind fun t119 => (if t119 = (Int.tmod (wrap64 (a0)) 65535) then ((tag_Gen.f t115).bind fun t120 => (if t120 = (Int.tmod (wrap64 (a1)) 16384) then ((tag_To.f t116).bind fun t121 => (if t121 = t115 then ((tag_Stamp.f t116).bind fun t122 => (if t122 = (Int.tmod (wrap64 (a2)) 1073741825) then ((tag_To.f t117).bind fun t123 => (if t123 = 0 then ((tag_Stamp.f t117).bind fun t124 => (if t124 = (Int.tmod (wrap64 (a2)) 1073741825) then (some (decide (t116 > t117))) else (some false))) else (some false))) else (some false))) else (some false))) else (some false))) else (some false))) = some r := by rw [if_pos rfl] at H; exact H
      clear H
      have H := H1
      clear H1
      replace H := Option.bind_eq_some_iff.mp H
      obtain ⟨t119, A110, H⟩ := H
      replace H : (if t119 = (Int.tmod (wrap64 (a0)) 65535) then ((tag_Gen.f t115).bind fun t120 => (if t120 = (Int.tmod (wrap64 (a1)) 16384) then ((tag_To.f t116).bind fun t121 => (if t121 = t115 then ((tag_Stamp.f t116).bind fun t122 => (if t122 = (Int.tmod (wrap64 (a2)) 1073741825) then ((tag_To.f t117).bind fun t123 => (if t123 = 0 then ((tag_Stamp.f t117).bind fun t124 => (if t124 = (Int.tmod (wrap64 (a2)) 1073741825) then (some (decide (t116 > t117))) else (some false))) else (some false))) else (some false))) else (some false))) else (some false))) else (some false)) = some r := H
      have A11 := Aside0.mk A110
      clear A110
      by_cases c12 : t119 = (Int.tmod (wrap64 (a0)) 65535)
      · rw [if_pos c12] at H
        have c12b0 : (t119 == (Int.tmod (wrap64 (a0)) 65535)) = true := beq_iff_eq.mpr c12
        have c12b1 : (t119 != (Int.tmod (wrap64 (a0)) 65535)) = false := bne_eq_false_iff_eq.mpr c12
        clear c12
        replace H := Option.bind_eq_some_iff.mp H
        obtain ⟨t120, A130, H⟩ := H
        replace H : (if t120 = (Int.tmod (wrap64 (a1)) 16384) then ((tag_To.f t116).bind fun t121 => (if t121 = t115 then ((tag_Stamp.f t116).bind fun t122 => (if t122 = (Int.tmod (wrap64 (a2)) 1073741825) then ((tag_To.f t117).bind fun t123 => (if t123 = 0 then ((tag_Stamp.f t117).bind fun t124 => (if t124 = (Int.tmod (wrap64 (a2)) 1073741825) then (some (decide (t116 > t117))) else (some false))) else (some false))) else (some false))) else (some false))) else (some false)) = some r := H
        have A13 := Aside0.mk A130
        clear A130
        by_cases c14 : t120 = (Int.tmod (wrap64 (a1)) 16384)
        · rw [if_pos c14] at H
          have c14b0 : (t120 == (Int.tmod (wrap64 (a1)) 16384)) = true := beq_iff_eq.mpr c14
          have c14b1 : (t120 != (Int.tmod (wrap64 (a1)) 16384)) = false := bne_eq_false_iff_eq.mpr c14
          clear c14
          replace H := Option.bind_eq_some_iff.mp H
          obtain ⟨t121, A150, H⟩ := H
          replace H : (if t121 = t115 then ((tag_Stamp.f t116).bind fun t122 => (if t122 = (Int.tmod (wrap64 (a2)) 1073741825) then ((tag_To.f t117).bind fun t123 => (if t123 = 0 then ((tag_Stamp.f t117).bind fun t124 => (if t124 = (Int.tmod (wrap64 (a2)) 1073741825) then (some (decide (t116 > t117))) else (some false))) else (some false))) else (some false))) else (some false)) = some r := H
          have A15 := Aside0.mk A150
          clear A150
          by_cases c16 : t121 = t115
          · rw [if_pos c16] at H
            have c16b0 : (t121 == t115) = true := beq_iff_eq.mpr c16
            have c16b1 : (t121 != t115) = false := bne_eq_false_iff_eq.mpr c16
            clear c16
            replace H := Option.bind_eq_some_iff.mp H
            obtain ⟨t122, A170, H⟩ := H
            replace H : (if t122 = (Int.tmod (wrap64 (a2)) 1073741825) then ((tag_To.f t117).bind fun t123 => (if t123 = 0 then ((tag_Stamp.f t117).bind fun t124 => (if t124 = (Int.tmod (wrap64 (a2)) 1073741825) then (some (decide (t116 > t117))) else (some false))) else (some false))) else (some false)) = some r := H
            have A17 := Aside0.mk A170
            clear A170
            by_cases c18 : t122 = (Int.tmod (wrap64 (a2)) 1073741825)
            · rw [if_pos c18] at H
              have c18b0 : (t122 == (Int.tmod (wrap64 (a2)) 1073741825)) = true := beq_iff_eq.mpr c18
              have c18b1 : (t122 != (Int.tmod (wrap64 (a2)) 1073741825)) = false := bne_eq_false_iff_eq.mpr c18
              clear c18
              replace H := Option.bind_eq_some_iff.mp H
              obtain ⟨t123, A190, H⟩ := H
              replace H : (if t123 = 0 then ((tag_Stamp.f t117).bind fun t124 => (if t124 = (Int.tmod (wrap64 (a2)) 1073741825) then (some (decide (t116 > t117))) else (some false))) else (some false)) = some r := H
              have A19 := Aside0.mk A190
              clear A190
              by_cases c20 : t123 = 0
              · rw [if_pos c20] at H
                have c20b0 : (t123 == 0) = true := beq_iff_eq.mpr c20
                have c20b1 : (t123 != 0) = false := bne_eq_false_iff_eq.mpr c20
                clear c20
                replace H := Option.bind_eq_some_iff.mp H
                obtain ⟨t124, A210, H⟩ := H
                replace H : (if t124 = (Int.tmod (wrap64 (a2)) 1073741825) then (some (decide (t116 > t117))) else (some false)) = some r := H
                have A21 := Aside0.mk A210
                clear A210
                by_cases c22 : t124 = (Int.tmod (wrap64 (a2)) 1073741825)
                · rw [if_pos c22] at H
                  have c22b0 : (t124 == (Int.tmod (wrap64 (a2)) 1073741825)) = true := beq_iff_eq.mpr c22
                  have c22b1 : (t124 != (Int.tmod (wrap64 (a2)) 1073741825)) = false := bne_eq_false_iff_eq.mpr c22
                  clear c22
                  obtain rfl := Option.some.inj H
                  go_enter Try.func14, Try.ntmps14
                  go_wp2_with (first | ((with_reducible refine gate_callee (f := 30) rfl ?_); refine goesL_ (some 13) rfl rfl Try.func30 (by kernel_rfl) rfl #[] rfl (by (try simp only [List.map_toArray, List.map_cons, List.map_nil]); first | done | rfl | (simp only [List.length_drop, List.length_take]; rfl)) ?_; (with_reducible refine (rundlelaw11_awake.calls  true _ A4.out).mono ?_); rintro e w' ⟨rfl, ⟨nd, rfl⟩⟩; refine ⟨_, rfl, ?_⟩) | ((with_reducible refine gate_callee (f := 31) rfl ?_); refine goesL_ (some 26) rfl rfl Try.func31 (by kernel_rfl) rfl #[.int .i64 (Int.tmod (wrap64 (a0)) 65535), .int .i64 (Int.tmod (wrap64 (a1)) 16384)] rfl (by (try simp only [List.map_toArray, List.map_cons, List.map_nil]); first | done | rfl | (simp only [List.length_drop, List.length_take]; rfl)) ?_; (with_reducible refine (tag_Handle.calls (Int.tmod (wrap64 (a0)) 65535) (Int.tmod (wrap64 (a1)) 16384) t115 _ A6.out).mono ?_); rintro e w' ⟨rfl, ⟨nd, rfl⟩⟩; refine ⟨_, rfl, ?_⟩) | ((with_reducible refine gate_callee (f := 29) rfl ?_); refine goesL_ (some 29) rfl rfl Try.func29 (by kernel_rfl) rfl #[.int .i64 t115, .int .i64 (Int.tmod (wrap64 (a2)) 1073741825)] rfl (by (try simp only [List.map_toArray, List.map_cons, List.map_nil]); first | done | rfl | (simp only [List.length_drop, List.length_take]; rfl)) ?_; (with_reducible refine (tag_Word.calls t115 (Int.tmod (wrap64 (a2)) 1073741825) t116 _ A7.out).mono ?_); rintro e w' ⟨rfl, ⟨nd, rfl⟩⟩; refine ⟨_, rfl, ?_⟩) | ((with_reducible refine gate_callee (f := 29) rfl ?_); refine goesL_ (some 31) rfl rfl Try.func29 (by kernel_rfl) rfl #[.int .i64 0, .int .i64 (Int.tmod (wrap64 (a2)) 1073741825)] rfl (by (try simp only [List.map_toArray, List.map_cons, List.map_nil]); first | done | rfl | (simp only [List.length_drop, List.length_take]; rfl)) ?_; (with_reducible refine (tag_Word.calls 0 (Int.tmod (wrap64 (a2)) 1073741825) t117 _ A8.out).mono ?_); rintro e w' ⟨rfl, ⟨nd, rfl⟩⟩; refine ⟨_, rfl, ?_⟩) | ((with_reducible refine gate_callee (f := 33) rfl ?_); refine goesL_ (some 33) rfl rfl Try.func33 (by kernel_rfl) rfl #[.int .i64 t115] rfl (by (try simp only [List.map_toArray, List.map_cons, List.map_nil]); first | done | rfl | (simp only [List.length_drop, List.length_take]; rfl)) ?_; (with_reducible refine (tag_Right.calls t115 true _ A9.out).mono ?_); rintro e w' ⟨rfl, ⟨nd, rfl⟩⟩; refine ⟨_, rfl, ?_⟩) | (go_at_call 35; (with_reducible refine (tag_Place.calls t115 t119 _ A11.out).mono ?_); rintro e w' ⟨rfl, ⟨nd, rfl⟩⟩) | (go_at_call 36; (with_reducible refine (tag_Gen.calls t115 t120 _ A13.out).mono ?_); rintro e w' ⟨rfl, ⟨nd, rfl⟩⟩) | (go_at_call 40; (with_reducible refine (tag_To.calls t116 t121 _ A15.out).mono ?_); rintro e w' ⟨rfl, ⟨nd, rfl⟩⟩) | (go_at_call 38; (with_reducible refine (tag_Stamp.calls t116 t122 _ A17.out).mono ?_); rintro e w' ⟨rfl, ⟨nd, rfl⟩⟩) | (go_at_call 40; (with_reducible refine (tag_To.calls t117 t123 _ A19.out).mono ?_); rintro e w' ⟨rfl, ⟨nd, rfl⟩⟩) | (go_at_call 38; (with_reducible refine (tag_Stamp.calls t117 t124 _ A21.out).mono ?_); rintro e w' ⟨rfl, ⟨nd, rfl⟩⟩))
                  go_ret
                  exact ⟨by first | rfl | (simp; done) | (simp [*]; done), by repeat (first | exact Drawn0.refl _ | apply Drawn0.step)⟩
                · rw [if_neg c22] at H
                  have c22b0 : (t124 == (Int.tmod (wrap64 (a2)) 1073741825)) = false := beq_eq_false_iff_ne.mpr c22
                  have c22b1 : (t124 != (Int.tmod (wrap64 (a2)) 1073741825)) = true := bne_iff_ne.mpr c22
                  obtain rfl := Option.some.inj H
                  go_enter Try.func14, Try.ntmps14
                  go_wp2_with (first | ((with_reducible refine gate_callee (f := 30) rfl ?_); refine goesL_ (some 13) rfl rfl Try.func30 (by kernel_rfl) rfl #[] rfl (by (try simp only [List.map_toArray, List.map_cons, List.map_nil]); first | done | rfl | (simp only [List.length_drop, List.length_take]; rfl)) ?_; (with_reducible refine (rundlelaw11_awake.calls  true _ A4.out).mono ?_); rintro e w' ⟨rfl, ⟨nd, rfl⟩⟩; refine ⟨_, rfl, ?_⟩) | ((with_reducible refine gate_callee (f := 31) rfl ?_); refine goesL_ (some 26) rfl rfl Try.func31 (by kernel_rfl) rfl #[.int .i64 (Int.tmod (wrap64 (a0)) 65535), .int .i64 (Int.tmod (wrap64 (a1)) 16384)] rfl (by (try simp only [List.map_toArray, List.map_cons, List.map_nil]); first | done | rfl | (simp only [List.length_drop, List.length_take]; rfl)) ?_; (with_reducible refine (tag_Handle.calls (Int.tmod (wrap64 (a0)) 65535) (Int.tmod (wrap64 (a1)) 16384) t115 _ A6.out).mono ?_); rintro e w' ⟨rfl, ⟨nd, rfl⟩⟩; refine ⟨_, rfl, ?_⟩) | ((with_reducible refine gate_callee (f := 29) rfl ?_); refine goesL_ (some 29) rfl rfl Try.func29 (by kernel_rfl) rfl #[.int .i64 t115, .int .i64 (Int.tmod (wrap64 (a2)) 1073741825)] rfl (by (try simp only [List.map_toArray, List.map_cons, List.map_nil]); first | done | rfl | (simp only [List.length_drop, List.length_take]; rfl)) ?_; (with_reducible refine (tag_Word.calls t115 (Int.tmod (wrap64 (a2)) 1073741825) t116 _ A7.out).mono ?_); rintro e w' ⟨rfl, ⟨nd, rfl⟩⟩; refine ⟨_, rfl, ?_⟩) | ((with_reducible refine gate_callee (f := 29) rfl ?_); refine goesL_ (some 31) rfl rfl Try.func29 (by kernel_rfl) rfl #[.int .i64 0, .int .i64 (Int.tmod (wrap64 (a2)) 1073741825)] rfl (by (try simp only [List.map_toArray, List.map_cons, List.map_nil]); first | done | rfl | (simp only [List.length_drop, List.length_take]; rfl)) ?_; (with_reducible refine (tag_Word.calls 0 (Int.tmod (wrap64 (a2)) 1073741825) t117 _ A8.out).mono ?_); rintro e w' ⟨rfl, ⟨nd, rfl⟩⟩; refine ⟨_, rfl, ?_⟩) | ((with_reducible refine gate_callee (f := 33) rfl ?_); refine goesL_ (some 33) rfl rfl Try.func33 (by kernel_rfl) rfl #[.int .i64 t115] rfl (by (try simp only [List.map_toArray, List.map_cons, List.map_nil]); first | done | rfl | (simp only [List.length_drop, List.length_take]; rfl)) ?_; (with_reducible refine (tag_Right.calls t115 true _ A9.out).mono ?_); rintro e w' ⟨rfl, ⟨nd, rfl⟩⟩; refine ⟨_, rfl, ?_⟩) | (go_at_call 35; (with_reducible refine (tag_Place.calls t115 t119 _ A11.out).mono ?_); rintro e w' ⟨rfl, ⟨nd, rfl⟩⟩) | (go_at_call 36; (with_reducible refine (tag_Gen.calls t115 t120 _ A13.out).mono ?_); rintro e w' ⟨rfl, ⟨nd, rfl⟩⟩) | (go_at_call 40; (with_reducible refine (tag_To.calls t116 t121 _ A15.out).mono ?_); rintro e w' ⟨rfl, ⟨nd, rfl⟩⟩) | (go_at_call 38; (with_reducible refine (tag_Stamp.calls t116 t122 _ A17.out).mono ?_); rintro e w' ⟨rfl, ⟨nd, rfl⟩⟩) | (go_at_call 40; (with_reducible refine (tag_To.calls t117 t123 _ A19.out).mono ?_); rintro e w' ⟨rfl, ⟨nd, rfl⟩⟩) | (go_at_call 38; (with_reducible refine (tag_Stamp.calls t117 t124 _ A21.out).mono ?_); rintro e w' ⟨rfl, ⟨nd, rfl⟩⟩))
                  go_ret
                  exact ⟨by first | rfl | (simp; done) | (simp [*]; done), by repeat (first | exact Drawn0.refl _ | apply Drawn0.step)⟩
              · rw [if_neg c20] at H
                have c20b0 : (t123 == 0) = false := beq_eq_false_iff_ne.mpr c20
                have c20b1 : (t123 != 0) = true := bne_iff_ne.mpr c20
                obtain rfl := Option.some.inj H
                go_enter Try.func14, Try.ntmps14
                go_wp2_with (first | ((with_reducible refine gate_callee (f := 30) rfl ?_); refine goesL_ (some 13) rfl rfl Try.func30 (by kernel_rfl) rfl #[] rfl (by (try simp only [List.map_toArray, List.map_cons, List.map_nil]); first | done | rfl | (simp only [List.length_drop, List.length_take]; rfl)) ?_; (with_reducible refine (rundlelaw11_awake.calls  true _ A4.out).mono ?_); rintro e w' ⟨rfl, ⟨nd, rfl⟩⟩; refine ⟨_, rfl, ?_⟩) | ((with_reducible refine gate_callee (f := 31) rfl ?_); refine goesL_ (some 26) rfl rfl Try.func31 (by kernel_rfl) rfl #[.int .i64 (Int.tmod (wrap64 (a0)) 65535), .int .i64 (Int.tmod (wrap64 (a1)) 16384)] rfl (by (try simp only [List.map_toArray, List.map_cons, List.map_nil]); first | done | rfl | (simp only [List.length_drop, List.length_take]; rfl)) ?_; (with_reducible refine (tag_Handle.calls (Int.tmod (wrap64 (a0)) 65535) (Int.tmod (wrap64 (a1)) 16384) t115 _ A6.out).mono ?_); rintro e w' ⟨rfl, ⟨nd, rfl⟩⟩; refine ⟨_, rfl, ?_⟩) | ((with_reducible refine gate_callee (f := 29) rfl ?_); refine goesL_ (some 29) rfl rfl Try.func29 (by kernel_rfl) rfl #[.int .i64 t115, .int .i64 (Int.tmod (wrap64 (a2)) 1073741825)] rfl (by (try simp only [List.map_toArray, List.map_cons, List.map_nil]); first | done | rfl | (simp only [List.length_drop, List.length_take]; rfl)) ?_; (with_reducible refine (tag_Word.calls t115 (Int.tmod (wrap64 (a2)) 1073741825) t116 _ A7.out).mono ?_); rintro e w' ⟨rfl, ⟨nd, rfl⟩⟩; refine ⟨_, rfl, ?_⟩) | ((with_reducible refine gate_callee (f := 29) rfl ?_); refine goesL_ (some 31) rfl rfl Try.func29 (by kernel_rfl) rfl #[.int .i64 0, .int .i64 (Int.tmod (wrap64 (a2)) 1073741825)] rfl (by (try simp only [List.map_toArray, List.map_cons, List.map_nil]); first | done | rfl | (simp only [List.length_drop, List.length_take]; rfl)) ?_; (with_reducible refine (tag_Word.calls 0 (Int.tmod (wrap64 (a2)) 1073741825) t117 _ A8.out).mono ?_); rintro e w' ⟨rfl, ⟨nd, rfl⟩⟩; refine ⟨_, rfl, ?_⟩) | ((with_reducible refine gate_callee (f := 33) rfl ?_); refine goesL_ (some 33) rfl rfl Try.func33 (by kernel_rfl) rfl #[.int .i64 t115] rfl (by (try simp only [List.map_toArray, List.map_cons, List.map_nil]); first | done | rfl | (simp only [List.length_drop, List.length_take]; rfl)) ?_; (with_reducible refine (tag_Right.calls t115 true _ A9.out).mono ?_); rintro e w' ⟨rfl, ⟨nd, rfl⟩⟩; refine ⟨_, rfl, ?_⟩) | (go_at_call 35; (with_reducible refine (tag_Place.calls t115 t119 _ A11.out).mono ?_); rintro e w' ⟨rfl, ⟨nd, rfl⟩⟩) | (go_at_call 36; (with_reducible refine (tag_Gen.calls t115 t120 _ A13.out).mono ?_); rintro e w' ⟨rfl, ⟨nd, rfl⟩⟩) | (go_at_call 40; (with_reducible refine (tag_To.calls t116 t121 _ A15.out).mono ?_); rintro e w' ⟨rfl, ⟨nd, rfl⟩⟩) | (go_at_call 38; (with_reducible refine (tag_Stamp.calls t116 t122 _ A17.out).mono ?_); rintro e w' ⟨rfl, ⟨nd, rfl⟩⟩) | (go_at_call 40; (with_reducible refine (tag_To.calls t117 t123 _ A19.out).mono ?_); rintro e w' ⟨rfl, ⟨nd, rfl⟩⟩))
                go_ret
                exact ⟨by first | rfl | (simp; done) | (simp [*]; done), by repeat (first | exact Drawn0.refl _ | apply Drawn0.step)⟩
            · rw [if_neg c18] at H
              have c18b0 : (t122 == (Int.tmod (wrap64 (a2)) 1073741825)) = false := beq_eq_false_iff_ne.mpr c18
              have c18b1 : (t122 != (Int.tmod (wrap64 (a2)) 1073741825)) = true := bne_iff_ne.mpr c18
              obtain rfl := Option.some.inj H
              go_enter Try.func14, Try.ntmps14
              go_wp2_with (first | ((with_reducible refine gate_callee (f := 30) rfl ?_); refine goesL_ (some 13) rfl rfl Try.func30 (by kernel_rfl) rfl #[] rfl (by (try simp only [List.map_toArray, List.map_cons, List.map_nil]); first | done | rfl | (simp only [List.length_drop, List.length_take]; rfl)) ?_; (with_reducible refine (rundlelaw11_awake.calls  true _ A4.out).mono ?_); rintro e w' ⟨rfl, ⟨nd, rfl⟩⟩; refine ⟨_, rfl, ?_⟩) | ((with_reducible refine gate_callee (f := 31) rfl ?_); refine goesL_ (some 26) rfl rfl Try.func31 (by kernel_rfl) rfl #[.int .i64 (Int.tmod (wrap64 (a0)) 65535), .int .i64 (Int.tmod (wrap64 (a1)) 16384)] rfl (by (try simp only [List.map_toArray, List.map_cons, List.map_nil]); first | done | rfl | (simp only [List.length_drop, List.length_take]; rfl)) ?_; (with_reducible refine (tag_Handle.calls (Int.tmod (wrap64 (a0)) 65535) (Int.tmod (wrap64 (a1)) 16384) t115 _ A6.out).mono ?_); rintro e w' ⟨rfl, ⟨nd, rfl⟩⟩; refine ⟨_, rfl, ?_⟩) | ((with_reducible refine gate_callee (f := 29) rfl ?_); refine goesL_ (some 29) rfl rfl Try.func29 (by kernel_rfl) rfl #[.int .i64 t115, .int .i64 (Int.tmod (wrap64 (a2)) 1073741825)] rfl (by (try simp only [List.map_toArray, List.map_cons, List.map_nil]); first | done | rfl | (simp only [List.length_drop, List.length_take]; rfl)) ?_; (with_reducible refine (tag_Word.calls t115 (Int.tmod (wrap64 (a2)) 1073741825) t116 _ A7.out).mono ?_); rintro e w' ⟨rfl, ⟨nd, rfl⟩⟩; refine ⟨_, rfl, ?_⟩) | ((with_reducible refine gate_callee (f := 29) rfl ?_); refine goesL_ (some 31) rfl rfl Try.func29 (by kernel_rfl) rfl #[.int .i64 0, .int .i64 (Int.tmod (wrap64 (a2)) 1073741825)] rfl (by (try simp only [List.map_toArray, List.map_cons, List.map_nil]); first | done | rfl | (simp only [List.length_drop, List.length_take]; rfl)) ?_; (with_reducible refine (tag_Word.calls 0 (Int.tmod (wrap64 (a2)) 1073741825) t117 _ A8.out).mono ?_); rintro e w' ⟨rfl, ⟨nd, rfl⟩⟩; refine ⟨_, rfl, ?_⟩) | ((with_reducible refine gate_callee (f := 33) rfl ?_); refine goesL_ (some 33) rfl rfl Try.func33 (by kernel_rfl) rfl #[.int .i64 t115] rfl (by (try simp only [List.map_toArray, List.map_cons, List.map_nil]); first | done | rfl | (simp only [List.length_drop, List.length_take]; rfl)) ?_; (with_reducible refine (tag_Right.calls t115 true _ A9.out).mono ?_); rintro e w' ⟨rfl, ⟨nd, rfl⟩⟩; refine ⟨_, rfl, ?_⟩) | (go_at_call 35; (with_reducible refine (tag_Place.calls t115 t119 _ A11.out).mono ?_); rintro e w' ⟨rfl, ⟨nd, rfl⟩⟩) | (go_at_call 36; (with_reducible refine (tag_Gen.calls t115 t120 _ A13.out).mono ?_); rintro e w' ⟨rfl, ⟨nd, rfl⟩⟩) | (go_at_call 40; (with_reducible refine (tag_To.calls t116 t121 _ A15.out).mono ?_); rintro e w' ⟨rfl, ⟨nd, rfl⟩⟩) | (go_at_call 38; (with_reducible refine (tag_Stamp.calls t116 t122 _ A17.out).mono ?_); rintro e w' ⟨rfl, ⟨nd, rfl⟩⟩))
              go_ret
              exact ⟨by first | rfl | (simp; done) | (simp [*]; done), by repeat (first | exact Drawn0.refl _ | apply Drawn0.step)⟩
          · rw [if_neg c16] at H
            have c16b0 : (t121 == t115) = false := beq_eq_false_iff_ne.mpr c16
            have c16b1 : (t121 != t115) = true := bne_iff_ne.mpr c16
            obtain rfl := Option.some.inj H
            go_enter Try.func14, Try.ntmps14
            go_wp2_with (first | ((with_reducible refine gate_callee (f := 30) rfl ?_); refine goesL_ (some 13) rfl rfl Try.func30 (by kernel_rfl) rfl #[] rfl (by (try simp only [List.map_toArray, List.map_cons, List.map_nil]); first | done | rfl | (simp only [List.length_drop, List.length_take]; rfl)) ?_; (with_reducible refine (rundlelaw11_awake.calls  true _ A4.out).mono ?_); rintro e w' ⟨rfl, ⟨nd, rfl⟩⟩; refine ⟨_, rfl, ?_⟩) | ((with_reducible refine gate_callee (f := 31) rfl ?_); refine goesL_ (some 26) rfl rfl Try.func31 (by kernel_rfl) rfl #[.int .i64 (Int.tmod (wrap64 (a0)) 65535), .int .i64 (Int.tmod (wrap64 (a1)) 16384)] rfl (by (try simp only [List.map_toArray, List.map_cons, List.map_nil]); first | done | rfl | (simp only [List.length_drop, List.length_take]; rfl)) ?_; (with_reducible refine (tag_Handle.calls (Int.tmod (wrap64 (a0)) 65535) (Int.tmod (wrap64 (a1)) 16384) t115 _ A6.out).mono ?_); rintro e w' ⟨rfl, ⟨nd, rfl⟩⟩; refine ⟨_, rfl, ?_⟩) | ((with_reducible refine gate_callee (f := 29) rfl ?_); refine goesL_ (some 29) rfl rfl Try.func29 (by kernel_rfl) rfl #[.int .i64 t115, .int .i64 (Int.tmod (wrap64 (a2)) 1073741825)] rfl (by (try simp only [List.map_toArray, List.map_cons, List.map_nil]); first | done | rfl | (simp only [List.length_drop, List.length_take]; rfl)) ?_; (with_reducible refine (tag_Word.calls t115 (Int.tmod (wrap64 (a2)) 1073741825) t116 _ A7.out).mono ?_); rintro e w' ⟨rfl, ⟨nd, rfl⟩⟩; refine ⟨_, rfl, ?_⟩) | ((with_reducible refine gate_callee (f := 29) rfl ?_); refine goesL_ (some 31) rfl rfl Try.func29 (by kernel_rfl) rfl #[.int .i64 0, .int .i64 (Int.tmod (wrap64 (a2)) 1073741825)] rfl (by (try simp only [List.map_toArray, List.map_cons, List.map_nil]); first | done | rfl | (simp only [List.length_drop, List.length_take]; rfl)) ?_; (with_reducible refine (tag_Word.calls 0 (Int.tmod (wrap64 (a2)) 1073741825) t117 _ A8.out).mono ?_); rintro e w' ⟨rfl, ⟨nd, rfl⟩⟩; refine ⟨_, rfl, ?_⟩) | ((with_reducible refine gate_callee (f := 33) rfl ?_); refine goesL_ (some 33) rfl rfl Try.func33 (by kernel_rfl) rfl #[.int .i64 t115] rfl (by (try simp only [List.map_toArray, List.map_cons, List.map_nil]); first | done | rfl | (simp only [List.length_drop, List.length_take]; rfl)) ?_; (with_reducible refine (tag_Right.calls t115 true _ A9.out).mono ?_); rintro e w' ⟨rfl, ⟨nd, rfl⟩⟩; refine ⟨_, rfl, ?_⟩) | (go_at_call 35; (with_reducible refine (tag_Place.calls t115 t119 _ A11.out).mono ?_); rintro e w' ⟨rfl, ⟨nd, rfl⟩⟩) | (go_at_call 36; (with_reducible refine (tag_Gen.calls t115 t120 _ A13.out).mono ?_); rintro e w' ⟨rfl, ⟨nd, rfl⟩⟩) | (go_at_call 40; (with_reducible refine (tag_To.calls t116 t121 _ A15.out).mono ?_); rintro e w' ⟨rfl, ⟨nd, rfl⟩⟩))
            go_ret
            exact ⟨by first | rfl | (simp; done) | (simp [*]; done), by repeat (first | exact Drawn0.refl _ | apply Drawn0.step)⟩
        · rw [if_neg c14] at H
          have c14b0 : (t120 == (Int.tmod (wrap64 (a1)) 16384)) = false := beq_eq_false_iff_ne.mpr c14
          have c14b1 : (t120 != (Int.tmod (wrap64 (a1)) 16384)) = true := bne_iff_ne.mpr c14
          obtain rfl := Option.some.inj H
          go_enter Try.func14, Try.ntmps14
          go_wp2_with (first | ((with_reducible refine gate_callee (f := 30) rfl ?_); refine goesL_ (some 13) rfl rfl Try.func30 (by kernel_rfl) rfl #[] rfl (by (try simp only [List.map_toArray, List.map_cons, List.map_nil]); first | done | rfl | (simp only [List.length_drop, List.length_take]; rfl)) ?_; (with_reducible refine (rundlelaw11_awake.calls  true _ A4.out).mono ?_); rintro e w' ⟨rfl, ⟨nd, rfl⟩⟩; refine ⟨_, rfl, ?_⟩) | ((with_reducible refine gate_callee (f := 31) rfl ?_); refine goesL_ (some 26) rfl rfl Try.func31 (by kernel_rfl) rfl #[.int .i64 (Int.tmod (wrap64 (a0)) 65535), .int .i64 (Int.tmod (wrap64 (a1)) 16384)] rfl (by (try simp only [List.map_toArray, List.map_cons, List.map_nil]); first | done | rfl | (simp only [List.length_drop, List.length_take]; rfl)) ?_; (with_reducible refine (tag_Handle.calls (Int.tmod (wrap64 (a0)) 65535) (Int.tmod (wrap64 (a1)) 16384) t115 _ A6.out).mono ?_); rintro e w' ⟨rfl, ⟨nd, rfl⟩⟩; refine ⟨_, rfl, ?_⟩) | ((with_reducible refine gate_callee (f := 29) rfl ?_); refine goesL_ (some 29) rfl rfl Try.func29 (by kernel_rfl) rfl #[.int .i64 t115, .int .i64 (Int.tmod (wrap64 (a2)) 1073741825)] rfl (by (try simp only [List.map_toArray, List.map_cons, List.map_nil]); first | done | rfl | (simp only [List.length_drop, List.length_take]; rfl)) ?_; (with_reducible refine (tag_Word.calls t115 (Int.tmod (wrap64 (a2)) 1073741825) t116 _ A7.out).mono ?_); rintro e w' ⟨rfl, ⟨nd, rfl⟩⟩; refine ⟨_, rfl, ?_⟩) | ((with_reducible refine gate_callee (f := 29) rfl ?_); refine goesL_ (some 31) rfl rfl Try.func29 (by kernel_rfl) rfl #[.int .i64 0, .int .i64 (Int.tmod (wrap64 (a2)) 1073741825)] rfl (by (try simp only [List.map_toArray, List.map_cons, List.map_nil]); first | done | rfl | (simp only [List.length_drop, List.length_take]; rfl)) ?_; (with_reducible refine (tag_Word.calls 0 (Int.tmod (wrap64 (a2)) 1073741825) t117 _ A8.out).mono ?_); rintro e w' ⟨rfl, ⟨nd, rfl⟩⟩; refine ⟨_, rfl, ?_⟩) | ((with_reducible refine gate_callee (f := 33) rfl ?_); refine goesL_ (some 33) rfl rfl Try.func33 (by kernel_rfl) rfl #[.int .i64 t115] rfl (by (try simp only [List.map_toArray, List.map_cons, List.map_nil]); first | done | rfl | (simp only [List.length_drop, List.length_take]; rfl)) ?_; (with_reducible refine (tag_Right.calls t115 true _ A9.out).mono ?_); rintro e w' ⟨rfl, ⟨nd, rfl⟩⟩; refine ⟨_, rfl, ?_⟩) | (go_at_call 35; (with_reducible refine (tag_Place.calls t115 t119 _ A11.out).mono ?_); rintro e w' ⟨rfl, ⟨nd, rfl⟩⟩) | (go_at_call 36; (with_reducible refine (tag_Gen.calls t115 t120 _ A13.out).mono ?_); rintro e w' ⟨rfl, ⟨nd, rfl⟩⟩))
          go_ret
          exact ⟨by first | rfl | (simp; done) | (simp [*]; done), by repeat (first | exact Drawn0.refl _ | apply Drawn0.step)⟩
      · rw [if_neg c12] at H
        have c12b0 : (t119 == (Int.tmod (wrap64 (a0)) 65535)) = false := beq_eq_false_iff_ne.mpr c12
        have c12b1 : (t119 != (Int.tmod (wrap64 (a0)) 65535)) = true := bne_iff_ne.mpr c12
        obtain rfl := Option.some.inj H
        go_enter Try.func14, Try.ntmps14
        go_wp2_with (first | ((with_reducible refine gate_callee (f := 30) rfl ?_); refine goesL_ (some 13) rfl rfl Try.func30 (by kernel_rfl) rfl #[] rfl (by (try simp only [List.map_toArray, List.map_cons, List.map_nil]); first | done | rfl | (simp only [List.length_drop, List.length_take]; rfl)) ?_; (with_reducible refine (rundlelaw11_awake.calls  true _ A4.out).mono ?_); rintro e w' ⟨rfl, ⟨nd, rfl⟩⟩; refine ⟨_, rfl, ?_⟩) | ((with_reducible refine gate_callee (f := 31) rfl ?_); refine goesL_ (some 26) rfl rfl Try.func31 (by kernel_rfl) rfl #[.int .i64 (Int.tmod (wrap64 (a0)) 65535), .int .i64 (Int.tmod (wrap64 (a1)) 16384)] rfl (by (try simp only [List.map_toArray, List.map_cons, List.map_nil]); first | done | rfl | (simp only [List.length_drop, List.length_take]; rfl)) ?_; (with_reducible refine (tag_Handle.calls (Int.tmod (wrap64 (a0)) 65535) (Int.tmod (wrap64 (a1)) 16384) t115 _ A6.out).mono ?_); rintro e w' ⟨rfl, ⟨nd, rfl⟩⟩; refine ⟨_, rfl, ?_⟩) | ((with_reducible refine gate_callee (f := 29) rfl ?_); refine goesL_ (some 29) rfl rfl Try.func29 (by kernel_rfl) rfl #[.int .i64 t115, .int .i64 (Int.tmod (wrap64 (a2)) 1073741825)] rfl (by (try simp only [List.map_toArray, List.map_cons, List.map_nil]); first | done | rfl | (simp only [List.length_drop, List.length_take]; rfl)) ?_; (with_reducible refine (tag_Word.calls t115 (Int.tmod (wrap64 (a2)) 1073741825) t116 _ A7.out).mono ?_); rintro e w' ⟨rfl, ⟨nd, rfl⟩⟩; refine ⟨_, rfl, ?_⟩) | ((with_reducible refine gate_callee (f := 29) rfl ?_); refine goesL_ (some 31) rfl rfl Try.func29 (by kernel_rfl) rfl #[.int .i64 0, .int .i64 (Int.tmod (wrap64 (a2)) 1073741825)] rfl (by (try simp only [List.map_toArray, List.map_cons, List.map_nil]); first | done | rfl | (simp only [List.length_drop, List.length_take]; rfl)) ?_; (with_reducible refine (tag_Word.calls 0 (Int.tmod (wrap64 (a2)) 1073741825) t117 _ A8.out).mono ?_); rintro e w' ⟨rfl, ⟨nd, rfl⟩⟩; refine ⟨_, rfl, ?_⟩) | ((with_reducible refine gate_callee (f := 33) rfl ?_); refine goesL_ (some 33) rfl rfl Try.func33 (by kernel_rfl) rfl #[.int .i64 t115] rfl (by (try simp only [List.map_toArray, List.map_cons, List.map_nil]); first | done | rfl | (simp only [List.length_drop, List.length_take]; rfl)) ?_; (with_reducible refine (tag_Right.calls t115 true _ A9.out).mono ?_); rintro e w' ⟨rfl, ⟨nd, rfl⟩⟩; refine ⟨_, rfl, ?_⟩) | (go_at_call 35; (with_reducible refine (tag_Place.calls t115 t119 _ A11.out).mono ?_); rintro e w' ⟨rfl, ⟨nd, rfl⟩⟩))
        go_ret
        exact ⟨by first | rfl | (simp; done) | (simp [*]; done), by repeat (first | exact Drawn0.refl _ | apply Drawn0.step)⟩
    · replace c10 := Bool.eq_false_iff.mpr c10
      subst c10
      have H1 : (some false) = some r := by rw [if_neg (show ¬ (false = true) by decide)] at H; exact H
      clear H
      have H := H1
      clear H1
      obtain rfl := Option.some.inj H
      go_enter Try.func14, Try.ntmps14
      go_wp2_with (first | ((with_reducible refine gate_callee (f := 30) rfl ?_); refine goesL_ (some 13) rfl rfl Try.func30 (by kernel_rfl) rfl #[] rfl (by (try simp only [List.map_toArray, List.map_cons, List.map_nil]); first | done | rfl | (simp only [List.length_drop, List.length_take]; rfl)) ?_; (with_reducible refine (rundlelaw11_awake.calls  true _ A4.out).mono ?_); rintro e w' ⟨rfl, ⟨nd, rfl⟩⟩; refine ⟨_, rfl, ?_⟩) | ((with_reducible refine gate_callee (f := 31) rfl ?_); refine goesL_ (some 26) rfl rfl Try.func31 (by kernel_rfl) rfl #[.int .i64 (Int.tmod (wrap64 (a0)) 65535), .int .i64 (Int.tmod (wrap64 (a1)) 16384)] rfl (by (try simp only [List.map_toArray, List.map_cons, List.map_nil]); first | done | rfl | (simp only [List.length_drop, List.length_take]; rfl)) ?_; (with_reducible refine (tag_Handle.calls (Int.tmod (wrap64 (a0)) 65535) (Int.tmod (wrap64 (a1)) 16384) t115 _ A6.out).mono ?_); rintro e w' ⟨rfl, ⟨nd, rfl⟩⟩; refine ⟨_, rfl, ?_⟩) | ((with_reducible refine gate_callee (f := 29) rfl ?_); refine goesL_ (some 29) rfl rfl Try.func29 (by kernel_rfl) rfl #[.int .i64 t115, .int .i64 (Int.tmod (wrap64 (a2)) 1073741825)] rfl (by (try simp only [List.map_toArray, List.map_cons, List.map_nil]); first | done | rfl | (simp only [List.length_drop, List.length_take]; rfl)) ?_; (with_reducible refine (tag_Word.calls t115 (Int.tmod (wrap64 (a2)) 1073741825) t116 _ A7.out).mono ?_); rintro e w' ⟨rfl, ⟨nd, rfl⟩⟩; refine ⟨_, rfl, ?_⟩) | ((with_reducible refine gate_callee (f := 29) rfl ?_); refine goesL_ (some 31) rfl rfl Try.func29 (by kernel_rfl) rfl #[.int .i64 0, .int .i64 (Int.tmod (wrap64 (a2)) 1073741825)] rfl (by (try simp only [List.map_toArray, List.map_cons, List.map_nil]); first | done | rfl | (simp only [List.length_drop, List.length_take]; rfl)) ?_; (with_reducible refine (tag_Word.calls 0 (Int.tmod (wrap64 (a2)) 1073741825) t117 _ A8.out).mono ?_); rintro e w' ⟨rfl, ⟨nd, rfl⟩⟩; refine ⟨_, rfl, ?_⟩) | ((with_reducible refine gate_callee (f := 33) rfl ?_); refine goesL_ (some 33) rfl rfl Try.func33 (by kernel_rfl) rfl #[.int .i64 t115] rfl (by (try simp only [List.map_toArray, List.map_cons, List.map_nil]); first | done | rfl | (simp only [List.length_drop, List.length_take]; rfl)) ?_; (with_reducible refine (tag_Right.calls t115 false _ A9.out).mono ?_); rintro e w' ⟨rfl, ⟨nd, rfl⟩⟩; refine ⟨_, rfl, ?_⟩))
      go_ret
      exact ⟨by first | rfl | (simp; done) | (simp [*]; done), by repeat (first | exact Drawn0.refl _ | apply Drawn0.step)⟩
  · replace c5 := Bool.eq_false_iff.mpr c5
    subst c5
    have H1 : (some false) = some r := by rw [if_neg (show ¬ (false = true) by decide)] at H; exact H
    clear H
    have H := H1
    clear H1
    obtain rfl := Option.some.inj H
    go_enter Try.func14, Try.ntmps14
    go_wp2_with (first | ((with_reducible refine gate_callee (f := 30) rfl ?_); refine goesL_ (some 13) rfl rfl Try.func30 (by kernel_rfl) rfl #[] rfl (by (try simp only [List.map_toArray, List.map_cons, List.map_nil]); first | done | rfl | (simp only [List.length_drop, List.length_take]; rfl)) ?_; (with_reducible refine (rundlelaw11_awake.calls  false _ A4.out).mono ?_); rintro e w' ⟨rfl, ⟨nd, rfl⟩⟩; refine ⟨_, rfl, ?_⟩))
    go_ret
    exact ⟨by first | rfl | (simp; done) | (simp [*]; done), by repeat (first | exact Drawn0.refl _ | apply Drawn0.step)⟩

/-- THE ONE PURE STATEMENT of rundlelaw11_TagBack: yours. -/
def rundlelaw11_TagBack.Pure : Prop := ∀ (a0 : Int) (a1 : Int) (a2 : Int), (Lit.int .u16 a0).wf = true → (Lit.int .u16 a1).wf = true → (Lit.int .u32 a2).wf = true → rundlelaw11_TagBack.f a0 a1 a2 = some true
theorem rundlelaw11_TagBack.walk (P : rundlelaw11_TagBack.Pure) (a0 : Int) (a1 : Int) (a2 : Int) (w : World) (w0 : (Lit.int .u16 a0).wf = true) (w1 : (Lit.int .u16 a1).wf = true) (w2 : (Lit.int .u32 a2).wf = true) :
    Calls Try.prog 14 #[.int .u16 a0, .int .u16 a1, .int .u32 a2] w fun e w' => e = .returned (.bool true) ∧ Below w.heap.size w w' := by
  have h := P a0 a1 a2 w0 w1 w2
  refine (rundlelaw11_TagBack.calls a0 a1 a2 true w h).mono ?_
  rintro e w' ⟨rfl, hd⟩
  exact ⟨rfl, hd.below⟩

end Go.Proofs.Ytnnkckijpikhlaa.PTagBack
