-- written by a program of this session (the print, turned)
import Derived.Test.YtoaacdjcjicemaaPPlanRelinksx0
import Derived.Test.YtoaacdjcjicemaaPPlanRelinksx4
import Derived.Test.YtoaacdjcjicemaaWAl
namespace Go.Proofs.Ytoaacdjcjicemaa.PPlanRelinks
open Go.RowKit Go.Proofs.YtoaacdjcjicemaaW.PrintWords Go.Proofs.YtoaacdjcjicemaaW.PrintLast Go.Proofs.YtoaacdjcjicemaaW.PrintMore
attribute [local go_sem] cell_self cell_there leq_str geq_str gtr_str max2_str max2_int min2_int max_two min_two max_three min_three max_four min_four   -- for this text's walks alone
set_option linter.unusedVariables false
set_option linter.unusedSimpArgs false
/-! ### tag_Right: function 75 -/
def tag_Right.f (a0 : Int) : Option (Bool) := (tag_within.f (a0 / 65536) 16383).bind fun t156 => (if t156 = true then (some ((Go.bits .and .i64 a0 65535) != 0)) else (some false))
set_option maxHeartbeats 8000000 in
set_option maxRecDepth 100000 in
theorem tag_Right.calls (a0 : Int) (r : Bool) (w : World) (h : tag_Right.f a0 = some r) :
  Calls Try.prog 75 #[.int .i64 a0] w fun e w' => e = .returned (.bool r) ∧ Drawn0 w w' := by
 have H : ((tag_within.f (a0 / 65536) 16383).bind fun t156 => (if t156 = true then (some ((Go.bits .and .i64 a0 65535) != 0)) else (some false))) = some r := h
 clear h
 replace H := Option.bind_eq_some_iff.mp H
 obtain ⟨t156, A20, H⟩ := H
 replace H : (if t156 = true then (some ((Go.bits .and .i64 a0 65535) != 0)) else (some false)) = some r := H
 have A2 := K0 A20
 clear A20
 by_cases c3 : t156 = true
 ·
  subst c3
  have H1 : (some ((Go.bits .and .i64 a0 65535) != 0)) = some r := by rw [if_pos rfl] at H; exact H
  clear H
  have H := H1
  clear H1
  obtain rfl := Option.some.inj H
  go_enter Try.func75, Try.ntmps75
  go_wp2_with (first | ((with_reducible refine gate_callee (f := 76) rfl ?_); refine goesL_ (some 5) rfl rfl Try.func76 (by kernel_rfl) rfl #[.int .i64 (a0 / 65536), .int .i64 16383] rfl (by (try simp only [List.map_toArray, List.map_cons, List.map_nil]); first | done | rfl | (simp only [lD, lT]; rfl)) ?_; (with_reducible refine (tag_within.calls (a0 / 65536) 16383 true _ A2.out).mono ?_); rintro e w' ⟨rfl, ⟨nd, rfl⟩⟩; refine ⟨_, rfl, ?_⟩))
  go_ret
  exact ⟨by first | rfl | (simp; done) | (simp [*]; done), by repeat (first | exact Drawn0.refl _ | apply Drawn0.step)⟩
 replace c3 := Bool.eq_false_iff.mpr c3
 subst c3
 have H1 : (some false) = some r := by rw [if_neg (show ¬ (false = true) by decide)] at H; exact H
 clear H
 have H := H1
 clear H1
 obtain rfl := Option.some.inj H
 go_enter Try.func75, Try.ntmps75
 go_wp2_with (first | ((with_reducible refine gate_callee (f := 76) rfl ?_); refine goesL_ (some 5) rfl rfl Try.func76 (by kernel_rfl) rfl #[.int .i64 (a0 / 65536), .int .i64 16383] rfl (by (try simp only [List.map_toArray, List.map_cons, List.map_nil]); first | done | rfl | (simp only [lD, lT]; rfl)) ?_; (with_reducible refine (tag_within.calls (a0 / 65536) 16383 false _ A2.out).mono ?_); rintro e w' ⟨rfl, ⟨nd, rfl⟩⟩; refine ⟨_, rfl, ?_⟩))
 go_ret
 exact ⟨by first | rfl | (simp; done) | (simp [*]; done), by repeat (first | exact Drawn0.refl _ | apply Drawn0.step)⟩
/-! ### tag_Word: function 41 -/
def tag_Word.f (a0 : Int) (a1 : Int) : Option (Int) := if a0 = 0 then ((tag_within.f a1 1073741824).bind fun t157 => (if t157 = true then (some (Go.bits .or .i64 (wrap64 (a1 * 2147483648)) a0)) else (some (-1)))) else ((tag_Right.f a0).bind fun t158 => (if t158 = true then ((tag_within.f a1 1073741824).bind fun t159 => (if t159 = true then (some (Go.bits .or .i64 (wrap64 (a1 * 2147483648)) a0)) else (some (-1)))) else (some (-1))))
set_option maxHeartbeats 8000000 in
set_option maxRecDepth 100000 in
theorem tag_Word.calls (a0 : Int) (a1 : Int) (r : Int) (w : World) (h : tag_Word.f a0 a1 = some r) :
  Calls Try.prog 41 #[.int .i64 a0, .int .i64 a1] w fun e w' => e = .returned (.int .i64 r) ∧ Drawn0 w w' := by
 have H : (if a0 = 0 then ((tag_within.f a1 1073741824).bind fun t157 => (if t157 = true then (some (Go.bits .or .i64 (wrap64 (a1 * 2147483648)) a0)) else (some (-1)))) else ((tag_Right.f a0).bind fun t158 => (if t158 = true then ((tag_within.f a1 1073741824).bind fun t159 => (if t159 = true then (some (Go.bits .or .i64 (wrap64 (a1 * 2147483648)) a0)) else (some (-1)))) else (some (-1))))) = some r := h
 clear h
 by_cases c3 : a0 = 0
 ·
  rw [if_pos c3] at H
  have c3b0 : (a0 == 0) = true := beq_iff_eq.mpr c3
  have c3b1 : (a0 != 0) = false := bne_eq_false_iff_eq.mpr c3
  clear c3
  replace H := Option.bind_eq_some_iff.mp H
  obtain ⟨t157, A40, H⟩ := H
  replace H : (if t157 = true then (some (Go.bits .or .i64 (wrap64 (a1 * 2147483648)) a0)) else (some (-1))) = some r := H
  have A4 := K0 A40
  clear A40
  by_cases c5 : t157 = true
  ·
   subst c5; have H1 : (some (Go.bits .or .i64 (wrap64 (a1 * 2147483648)) a0)) = some r := by rw [if_pos rfl] at H; exact H
   clear H; have H := H1; clear H1; obtain rfl := Option.some.inj H; go_enter Try.func41, Try.ntmps41
   go_wp2_with (first | (go_at_call 76; (with_reducible refine (tag_within.calls a1 1073741824 true _ A4.out).mono ?_); rintro e w' ⟨rfl, ⟨nd, rfl⟩⟩))
   go_ret; exact ⟨by first | rfl | (simp; done) | (simp [*]; done), by repeat (first | exact Drawn0.refl _ | apply Drawn0.step)⟩
  replace c5 := Bool.eq_false_iff.mpr c5
  subst c5
  have H1 : (some (-1)) = some r := by rw [if_neg (show ¬ (false = true) by decide)] at H; exact H
  clear H
  have H := H1
  clear H1
  obtain rfl := Option.some.inj H
  go_enter Try.func41, Try.ntmps41
  go_wp2_with (first | (go_at_call 76; (with_reducible refine (tag_within.calls a1 1073741824 false _ A4.out).mono ?_); rintro e w' ⟨rfl, ⟨nd, rfl⟩⟩))
  go_ret
  exact ⟨by first | rfl | (simp; done) | (simp [*]; done), by repeat (first | exact Drawn0.refl _ | apply Drawn0.step)⟩
 rw [if_neg c3] at H
 have c3b0 : (a0 == 0) = false := beq_eq_false_iff_ne.mpr c3
 have c3b1 : (a0 != 0) = true := bne_iff_ne.mpr c3
 replace H := Option.bind_eq_some_iff.mp H
 obtain ⟨t158, A60, H⟩ := H
 replace H : (if t158 = true then ((tag_within.f a1 1073741824).bind fun t159 => (if t159 = true then (some (Go.bits .or .i64 (wrap64 (a1 * 2147483648)) a0)) else (some (-1)))) else (some (-1))) = some r := H
 have A6 := K0 A60
 clear A60
 by_cases c7 : t158 = true
 ·
  subst c7
  have H1 : ((tag_within.f a1 1073741824).bind fun t159 => (if t159 = true then (some (Go.bits .or .i64 (wrap64 (a1 * 2147483648)) a0)) else (some (-1)))) = some r := by rw [if_pos rfl] at H; exact H
  clear H
  have H := H1
  clear H1
  replace H := Option.bind_eq_some_iff.mp H
  obtain ⟨t159, A80, H⟩ := H
  replace H : (if t159 = true then (some (Go.bits .or .i64 (wrap64 (a1 * 2147483648)) a0)) else (some (-1))) = some r := H
  have A8 := K0 A80
  clear A80
  by_cases c9 : t159 = true
  ·
   subst c9; have H1 : (some (Go.bits .or .i64 (wrap64 (a1 * 2147483648)) a0)) = some r := by rw [if_pos rfl] at H; exact H
   clear H; have H := H1; clear H1; obtain rfl := Option.some.inj H; go_enter Try.func41, Try.ntmps41
   go_wp2_with (first | (go_at_call 75; (with_reducible refine (tag_Right.calls a0 true _ A6.out).mono ?_); rintro e w' ⟨rfl, ⟨nd, rfl⟩⟩) | (go_at_call 76; (with_reducible refine (tag_within.calls a1 1073741824 true _ A8.out).mono ?_); rintro e w' ⟨rfl, ⟨nd, rfl⟩⟩))
   go_ret; exact ⟨by first | rfl | (simp; done) | (simp [*]; done), by repeat (first | exact Drawn0.refl _ | apply Drawn0.step)⟩
  replace c9 := Bool.eq_false_iff.mpr c9
  subst c9
  have H1 : (some (-1)) = some r := by rw [if_neg (show ¬ (false = true) by decide)] at H; exact H
  clear H
  have H := H1
  clear H1
  obtain rfl := Option.some.inj H
  go_enter Try.func41, Try.ntmps41
  go_wp2_with (first | (go_at_call 75; (with_reducible refine (tag_Right.calls a0 true _ A6.out).mono ?_); rintro e w' ⟨rfl, ⟨nd, rfl⟩⟩) | (go_at_call 76; (with_reducible refine (tag_within.calls a1 1073741824 false _ A8.out).mono ?_); rintro e w' ⟨rfl, ⟨nd, rfl⟩⟩))
  go_ret
  exact ⟨by first | rfl | (simp; done) | (simp [*]; done), by repeat (first | exact Drawn0.refl _ | apply Drawn0.step)⟩
 replace c7 := Bool.eq_false_iff.mpr c7
 subst c7
 have H1 : (some (-1)) = some r := by rw [if_neg (show ¬ (false = true) by decide)] at H; exact H
 clear H
 have H := H1
 clear H1
 obtain rfl := Option.some.inj H
 go_enter Try.func41, Try.ntmps41
 go_wp2_with (first | (go_at_call 75; (with_reducible refine (tag_Right.calls a0 false _ A6.out).mono ?_); rintro e w' ⟨rfl, ⟨nd, rfl⟩⟩))
 go_ret
 exact ⟨by first | rfl | (simp; done) | (simp [*]; done), by repeat (first | exact Drawn0.refl _ | apply Drawn0.step)⟩
/-! ### rundlelaw18_heights: function 68 -/
def rundlelaw18_heights.l0 : Nat → List (S108) → List Int → Int → Int → Option (List Int)
 | 0, _, _, _, _ => none
 | k + 1, x0, x3, x4, x5 => if x5 < (x0.length : Int) then (if 0 ≤ x5 then (if x3.length < 17592186044416 then (rundlelaw18_heights.l0 k x0 (x3 ++ [wrap64 (1 + (Int.tmod (wrap64 ((rd_T108 x0 x5).f0)) 6))]) (mx x4 (wrap64 (1 + (Int.tmod (wrap64 ((rd_T108 x0 x5).f0)) 6)))) (wrap64 (x5 + 1))) else (none)) else (none)) else (if (x3.length : Int) > 0 then (if 0 < (x3.length : Int) then (some (x3.set (0 : Int).toNat x4)) else (none)) else (some x3))
def rundlelaw18_heights.f (k : Nat) (l0 : List (S108)) : Option (List Int) := rundlelaw18_heights.l0 k l0 ([] : List Int) 1 0
set_option maxHeartbeats 8000000 in
set_option maxRecDepth 100000 in
theorem rundlelaw18_heights.calls (k : Nat) (A0 : Option Addr) (c0 : Nat) (l0 : List (S108)) (r : List Int) (w : World) (hr0 : Kd.C k108 w A0 l0.length l0) (hc0 : l0.length ≤ c0) (h : rundlelaw18_heights.f k l0 = some r) :
  Calls Try.prog 68 #[.slice A0 l0.length c0] w fun e w' => ∃ v0_ : Value, e = .returned (v0_) ∧ Kd.R (Kd.int .i64) 3 w' w.heap.size (fun _ => True) v0_ r ∧ Below w.heap.size w w' := by
 have HR0 := K0 hr0
 have HC0 := K0 hc0
 clear hr0 hc0
 have HB := K0 (Below.refl w.heap.size w)
 have H : (rundlelaw18_heights.l0 k l0 ([] : List Int) 1 0) = some r := h
 clear h
 have H' := K0 H
 clear H
 go_enter Try.func68, Try.ntmps68
 go_wp2
 go_loopg [3, 4, 5] k (fun kq v3 v4 v5 w' => ∃ (x3_1 : List Int) (x4_1 : Int) (x5_1 : Int), v4 = .int .i64 x4_1 ∧ v5 = .int .i64 x5_1 ∧ Aside0 (rundlelaw18_heights.l0 kq l0 x3_1 x4_1 x5_1 = some r) ∧ Aside0 (kq ≤ k) ∧ Aside0 (Kd.R (Kd.int .i64) 3 w' w.heap.size (fun _ => True) v3 x3_1) ∧ Aside0 (Below w.heap.size w w'))
 case atStart => exact ⟨(([] : List Int)), (1), (0), (by first | rfl | (simp; done) | (simp [*]; done)), (by first | rfl | (simp; done) | (simp [*]; done)), H', ⟨Nat.le_refl _⟩, ⟨by first | exact Kd.R_nil _ _ _ _ _ | exact Kd.N_nil _ _ _ _ _ | exact Kd.V_nil _ _ _ _ _ | exact Kd.Q_nil _ _ _ _ _ | exact Kd.S_nil _ _ _ _ _⟩, ⟨by repeat (first | (with_reducible first | exact HB.out | apply wA | apply wN | apply wD) | exact HB.out)⟩⟩
 case round =>
  clear H'
  obtain ⟨x3_1, x4_1, x5_1, rfl, rfl, HA, HK1, HO_3, HB⟩ := hrel
  cases gk with
  | zero => exact absurd HA.out (by simp [rundlelaw18_heights.l0])
  | succ k1 =>
   have H := HA.out; clear HA; simp only [rundlelaw18_heights.l0] at H; by_cases c2 : x5_1 < (l0.length : Int)
   ·
    rw [if_pos c2] at H; have c2b0 : decide (x5_1 < (l0.length : Int)) = true := dT c2; clear c2; by_cases c3 : 0 ≤ x5_1
    ·
     rw [if_pos c3] at H; have c3b0 : decide (0 ≤ x5_1) = true := dT c3; clear c3; by_cases c4 : x3_1.length < 17592186044416
     ·
      rw [if_pos c4] at H; have LMc4 := K0 c4; clear c4; obtain ⟨y161, hy161⟩ : ∃ y_ : List Int, y_ = (x3_1 ++ [wrap64 (1 + (Int.tmod (wrap64 ((rd_T108 l0 x5_1).f0)) 6))]) := ⟨_, rfl⟩; replace H : (rundlelaw18_heights.l0 k1 l0 y161 (mx x4_1 (wrap64 (1 + (Int.tmod (wrap64 ((rd_T108 l0 x5_1).f0)) 6)))) (wrap64 (x5_1 + 1))) = some r := by first | (rw [hy161]; with_reducible exact H) | (have H2_ := (Option.bind_some _ _).symm.trans H; rw [hy161]; with_reducible exact H2_) | (have H2_ := (Option.bind_some _ _).symm.trans H; with_reducible exact H2_) | with_reducible exact H | (rw [hy161]; exact H) | exact H
      have Ny161 := K0 hy161; clear hy161; obtain ⟨ji5, hji5⟩ : ∃ j_ : Int, (mx x4_1 (wrap64 (1 + (Int.tmod (wrap64 ((rd_T108 l0 x5_1).f0)) 6)))) = j_ := ⟨_, rfl⟩; replace H : (rundlelaw18_heights.l0 k1 l0 y161 ji5 (wrap64 (x5_1 + 1))) = some r := by first | (rw [hji5] at H; exact H) | (simp only [hji5] at H ⊢; exact H)
      have hji5_ : (if x4_1 < (wrap64 (1 + (Int.tmod (wrap64 ((rd_T108 l0 x5_1).f0)) 6))) then (wrap64 (1 + (Int.tmod (wrap64 ((rd_T108 l0 x5_1).f0)) 6))) else x4_1) = ji5 := hji5; have H' := K0 H; clear H; have p160 : 0 ≤ (x5_1 : Int) := oT (by first | (with_reducible assumption) | assumption); have q160 : x5_1 < (l0.length : Int) := oT (by first | (with_reducible assumption) | assumption); obtain ⟨ad160, e160, hx160_0, hx160_1, hx160_2, hx160_3, hx160_4, hx160_5⟩ := at_T108b HR0.out HB.out x5_1 p160 q160
      cases e160; replace p160 := eq_true p160; replace q160 := eq_true q160; go_wp2_with (first | ((with_reducible refine gate_builtin (b := .append) (xs := #[.tmp 21, .tmp 23]) rfl ?_); at_builtin; refine Kd.R_append (Kd.int .i64) (w0 := w) w.heap.size rfl (.tmp 21) (.tmp 23) 35 3 (.int .i64 0) 8 rfl Try.underlying35 info3 rfl (by decide) (by omega) u3 x3_1 (wrap64 (1 + (Int.tmod (wrap64 ((rd_T108 l0 x5_1).f0)) 6))) [.int .i64 (wrap64 (1 + (Int.tmod (wrap64 ((rd_T108 l0 x5_1).f0)) 6)))] (fun _ => True) (fun _ => False) rfl rfl ?aP (fun _ hk => hk.elim) ?aF ?aO ?aB ?aS ?aL ?_; (case aP => exact rfl); (case aB => exact (by repeat (first | (with_reducible first | exact HB.out | apply wA | apply wN | apply wD) | exact HB.out))); (case aF => exact (fun _ _ => trivial)); (case aO => exact (by (with_reducible repeat (first | apply rA | apply rN | apply rD)); exact HO_3.out)); (case aS => exact (below_size (by repeat (first | (with_reducible first | exact HB.out | apply wA | apply wN | apply wD) | exact HB.out)))); (case aL => have := LMc4.out; omega); intro v162 w6 ho hb hg hat; rw [← Ny161.out] at ho; have n0_ := K0 (hb); have n1_ := K0 (ho); clear HB; clear HO_3; have HB := n0_; have HO163 := n1_; clear n0_ n1_; clear ho hb hg hat))
      go_roundg k1
      case measure => have := HK1.out; omega
      case rel => exact ⟨(y161), (ji5), (wrap64 (x5_1 + 1)), (by first | rfl | (simp; done) | (simp only [← hji5] <;> (first | rfl | simp)) | (simp [*]; done)), (by first | rfl | (simp; done) | (simp [*]; done)), H', ⟨by have := HK1.out; omega⟩, ⟨by (with_reducible repeat (first | apply rA | apply rN | apply rD)); exact HO163.out⟩, ⟨by repeat (first | (with_reducible first | exact HB.out | apply wA | apply wN | apply wD) | exact HB.out)⟩⟩
     rw [if_neg c4] at H; exact absurd H (by simp)
    rw [if_neg c3] at H; exact absurd H (by simp)
   rw [if_neg c2] at H; have c2b0 : decide (x5_1 < (l0.length : Int)) = false := dF c2; clear c2; by_cases c7 : (x3_1.length : Int) > 0
   ·
    rw [if_pos c7] at H; have c7b0 : decide (0 < (x3_1.length : Int)) = true := dT c7; have c7b1 : decide (0 < x3_1.length) = true := dT (by omega); clear c7; by_cases c8 : 0 < (x3_1.length : Int)
    ·
     rw [if_pos c8] at H; have c8b0 : decide (0 < (x3_1.length : Int)) = true := dT c8; have c8b1 : decide (0 < x3_1.length) = true := dT (by omega); clear c8; obtain ⟨y164, hy164⟩ : ∃ y_ : List Int, y_ = (x3_1.set (0 : Int).toNat x4_1) := ⟨_, rfl⟩; replace H : (some y164) = some r := by first | (rw [hy164]; with_reducible exact H) | (have H2_ := (Option.bind_some _ _).symm.trans H; rw [hy164]; with_reducible exact H2_) | (have H2_ := (Option.bind_some _ _).symm.trans H; with_reducible exact H2_) | with_reducible exact H | (rw [hy164]; exact H) | exact H
     have Ny164 := K0 hy164; clear hy164; obtain rfl := Option.some.inj H; obtain ⟨Ao10, co10, eo10⟩ := Kd.R_slice HO_3.out; subst eo10; have p9 : 0 ≤ (0 : Int) := (by omega); have q9 : (0 : Int) < ((x3_1.length : Int) : Int) := oT (by first | (with_reducible assumption) | assumption); have qi9 : (0 < x3_1.length) = True := eq_true (by omega); obtain ⟨go9, co9, eo9, gb9, gl9, cl9, HG9⟩ := Kd.R_form HO_3.out (by omega); (first | cases eo9 | (injection eo9 with ea_ en_ ec_; (first | subst ea_ | (injection ea_ with ea_; subst ea_)); subst ec_; clear en_))
     have GB9 := K0 gb9; have GG9 := K0 HG9; clear gb9 gl9 HG9; obtain ⟨hx9_0, hf9_0⟩ := Kd.R_celln 0 HO_3.out (0 : Int) p9 q9; (try rw [show ((0 : Int)).toNat = 0 from rfl] at hx9_0)
     (try simp only [Nat.reduceMul, Nat.zero_mul, Nat.zero_add, Nat.reduceAdd] at hx9_0)
     (try rw [show ((0 : Int)).toNat = 0 from rfl] at hf9_0)
     (try simp only [Nat.reduceMul, Nat.zero_mul, Nat.zero_add, Nat.reduceAdd] at hf9_0)
     replace p9 := eq_true p9; replace q9 := eq_true q9; have HP11 := Kd.R_putg HO_3.out (0 : Int) x4_1; go_wp2_with (first | ((with_reducible refine gate_store (t := 3) (p := 33) rfl ?_); refine store_event (t := 3) (p := 33) (v := ?vo_w12) (w1 := (wr.setCell ⟨go9, (0 : Int).toNat, none⟩ (.int .i64 x4_1))) ?hg ?ho ?hn ?hr ?_; (case ho => rfl); (case hg => rfl); (case hn => rfl); (case hr => first | (go_simp; done) | (go_simp; rfl)); intro w12 hw; have hg : wr.grownBy w12 (some go9) := (by rw [hw]; exact HP11.2); have hp_ : Kd.R (Kd.int .i64) 3 w12 w.heap.size (fun _ => True) (.slice (some ⟨go9, 0, none⟩) x3_1.length co10) y164 := (by rw [hw, Ny164.out]; exact HP11.1); clear HP11; have n0_ := K0 (hp_); have n1_ := K0 ((by rw [hw]; exact wS (HB.out) GB9.out : Below w.heap.size w w12)); clear HO_3; clear HB; have HO_3 := n0_; have HB := n1_; clear n0_ n1_; clear hg hw hp_))
     go_ret; exact ⟨_, by first | rfl | (simp [errW_none, errW_some] <;> rfl) | (simp [*, errW_none, errW_some] <;> rfl), by (with_reducible repeat (first | apply rA | apply rN | apply rD)); exact HO_3.out, by repeat (first | (with_reducible first | exact HB.out | apply wA | apply wN | apply wD) | exact HB.out)⟩
    rw [if_neg c8] at H; exact absurd H (by simp)
   rw [if_neg c7] at H; have c7b0 : decide (0 < (x3_1.length : Int)) = false := dF c7; have c7b1 : decide (0 < x3_1.length) = false := dF (by omega); clear c7; obtain rfl := Option.some.inj H; obtain ⟨Ao13, co13, eo13⟩ := Kd.R_slice HO_3.out; subst eo13; go_wp2
   go_ret; exact ⟨_, by first | rfl | (simp [errW_none, errW_some] <;> rfl) | (simp [*, errW_none, errW_some] <;> rfl), by (with_reducible repeat (first | apply rA | apply rN | apply rD)); exact HO_3.out, by repeat (first | (with_reducible first | exact HB.out | apply wA | apply wN | apply wD) | exact HB.out)⟩
/-! ### rundlelaw18_name: function 69 -/
def rundlelaw18_name.f (a0 : Int) : Option (ByteArray) := if a0 = 0 then (some (⟨#[]⟩ : ByteArray)) else (some (strOfNums (([(wrap64 ((wrap64 (97 + a0)) - 1)) % 256] : List Int))))
set_option maxHeartbeats 8000000 in
set_option maxRecDepth 100000 in
theorem rundlelaw18_name.calls (a0 : Int) (r : ByteArray) (w : World) (h : rundlelaw18_name.f a0 = some r) :
  Calls Try.prog 69 #[.int .i64 a0] w fun e w' => e = .returned (.string r) ∧ Below w.heap.size w w' := by
 have HB := K0 (Below.refl w.heap.size w)
 have H : (if a0 = 0 then (some (⟨#[]⟩ : ByteArray)) else (some (strOfNums (([(wrap64 ((wrap64 (97 + a0)) - 1)) % 256] : List Int))))) = some r := h
 clear h
 by_cases c2 : a0 = 0
 ·
  rw [if_pos c2] at H
  have c2b0 : (a0 == 0) = true := beq_iff_eq.mpr c2
  have c2b1 : (a0 != 0) = false := bne_eq_false_iff_eq.mpr c2
  clear c2
  obtain rfl := Option.some.inj H
  go_enter Try.func69, Try.ntmps69
  go_wp2
  go_ret
  exact ⟨by first | rfl | (simp [errW_none, errW_some] <;> rfl) | (simp [*, errW_none, errW_some] <;> rfl), by repeat (first | (with_reducible first | exact HB.out | apply wA | apply wN | apply wD) | exact HB.out)⟩
 rw [if_neg c2] at H
 have c2b0 : (a0 == 0) = false := beq_eq_false_iff_ne.mpr c2
 have c2b1 : (a0 != 0) = true := bne_iff_ne.mpr c2
 obtain ⟨y165, hy165⟩ : ∃ y_ : List Int, y_ = (([(wrap64 ((wrap64 (97 + a0)) - 1)) % 256] : List Int)) := ⟨_, rfl⟩
 replace H : (some (strOfNums y165)) = some r := by first | (rw [hy165]; with_reducible exact H) | (have H2_ := (Option.bind_some _ _).symm.trans H; rw [hy165]; with_reducible exact H2_) | (have H2_ := (Option.bind_some _ _).symm.trans H; with_reducible exact H2_) | with_reducible exact H | (rw [hy165]; exact H) | exact H
 have Ny165 := K0 hy165
 clear hy165
 obtain rfl := Option.some.inj H
 go_enter Try.func69, Try.ntmps69
 go_wp2_with (first | ((with_reducible refine gate_dst (N := 9) rfl ?_); refine Kd.R_lit (Kd.int .u8) _ 5 ?hg (N := 9) ?hd (xs := ([(wrap64 ((wrap64 (97 + a0)) - 1)) % 256] : List Int)) (inner := [.int .u8 ((wrap64 ((wrap64 (97 + a0)) - 1)) % 256)]) (ok := fun _ => True) (okp := fun _ => True) ?hr ?hp (fun _ hk => hk) trivial (Below.refl _ _) (Nat.le_refl _) (by simp) ?_; (case hd => rfl); (case hg => rfl); (case hr => first | (go_simp; done) | (go_simp; rfl)); (case hp => exact (Reps.one (show Kd.M (Kd.int .u8) _ _ _ ((wrap64 ((wrap64 (97 + a0)) - 1)) % 256) [.int .u8 ((wrap64 ((wrap64 (97 + a0)) - 1)) % 256)] from rfl) (Reps.none _ _))); intro v166 w3 ho4 hb hg_ hnew_; clear hg_ hnew_; (first | rw [← Ny165.out] at ho4 | (simp only [Int.reduceToNat] at ho4; rw [← Ny165.out] at ho4)); have n0_ := K0 (Kd.R_lower ho4 (below_size (by repeat (first | (with_reducible first | exact HB.out | apply wA | apply wN | apply wD) | exact HB.out)))); have n1_ := K0 (below_step (by repeat (first | (with_reducible first | exact HB.out | apply wA | apply wN | apply wD) | exact HB.out)) hb); clear HB; have HO167 := n0_; have HB := n1_; clear n0_ n1_; clear hb ho4; have hcv5 := own_string (P := Try.prog) Try.underlying153 Try.underlying5 Try.underlying9 (Kd.own_of_R HO167.out)))
 go_ret
 exact ⟨by first | rfl | (simp [errW_none, errW_some] <;> rfl) | (simp [*, errW_none, errW_some] <;> rfl), by repeat (first | (with_reducible first | exact HB.out | apply wA | apply wN | apply wD) | exact HB.out)⟩
/-! ### rundlelaw18_entries: function 70 -/
mutual
def rundlelaw18_entries.j0 : Nat → List (S114) → ByteArray → Int → Int → Int → Int → Bool → Bool → Option ((List (S114)))
 | 0, _, _, _, _, _, _, _, _ => none
 | k + 1, x5, x6, x169000, x169001, x169002, x169003, x169004, x169005 => rundlelaw18_entries.l0 k x5 x6 0 x169000 x169001 x169002 x169003 x169004 x169005
def rundlelaw18_entries.l0 : Nat → List (S114) → ByteArray → Int → Int → Int → Int → Int → Bool → Bool → Option ((List (S114)))
 | 0, _, _, _, _, _, _, _, _, _ => none
 | k + 1, x5, x6, x7, x169000, x169001, x169002, x169003, x169004, x169005 => if x7 < (Int.tmod (wrap64 (x169003)) 70) then ((some (([(wrap64 (48 + (wrap64 (Int.tdiv x7 10)))) % 256, (wrap64 (48 + (Int.tmod x7 10))) % 256] : List Int) : List Int)).bind fun y170 => (if x6.size + (strOfNums y170).size ≤ 9223372036854775807 then (if x5.length < 3518437208883 then (rundlelaw18_entries.l0 k (x5 ++ [(⟨x6 ++ (strOfNums y170), (⟨#[118]⟩ : ByteArray), false⟩ : S114)]) x6 (wrap64 (x7 + 1)) x169000 x169001 x169002 x169003 x169004 x169005) else (none)) else (none))) else (if x169004 = true then (if x6.size + 1 ≤ 9223372036854775807 then (if x5.length < 3518437208883 then (some (x5 ++ [(⟨x6 ++ (⟨#[120]⟩ : ByteArray), (⟨#[]⟩ : ByteArray), true⟩ : S114)])) else (none)) else (none)) else (some x5))
end
def rundlelaw18_entries.f (k : Nat) (a0 : Int) (a1_0 : Int) (a1_1 : Int) (a1_2 : Int) (a1_3 : Int) (a1_4 : Bool) (a1_5 : Bool) : Option ((List (S114))) := (rundlelaw18_name.f a0).bind fun t169 => (if a0 = 0 then (rundlelaw18_entries.j0 k ([] : List (S114)) (⟨#[48]⟩ : ByteArray) a1_0 a1_1 a1_2 a1_3 a1_4 a1_5) else (rundlelaw18_entries.j0 k ([] : List (S114)) t169 a1_0 a1_1 a1_2 a1_3 a1_4 a1_5))
set_option maxHeartbeats 8000000 in
set_option maxRecDepth 100000 in
theorem rundlelaw18_entries.calls (k : Nat) (a0 : Int) (a1_0 : Int) (a1_1 : Int) (a1_2 : Int) (a1_3 : Int) (a1_4 : Bool) (a1_5 : Bool) (r : List (S114)) (w : World) (h : rundlelaw18_entries.f k a0 a1_0 a1_1 a1_2 a1_3 a1_4 a1_5 = some r) :
  Calls Try.prog 70 #[.int .i64 a0, .agg #[.int .u8 a1_0, .int .u8 a1_1, .int .u8 a1_2, .int .u8 a1_3, .bool a1_4, .bool a1_5]] w fun e w' => ∃ v0_ : Value, e = .returned (v0_) ∧ Kd.R k114 114 w' w.heap.size (fun _ => True) v0_ r ∧ Below w.heap.size w w' := by
 have hu108 := Try.underlying108
 have hu114 := Try.underlying114
 have HB := K0 (Below.refl w.heap.size w)
 have H : ((rundlelaw18_name.f a0).bind fun t169 => (if a0 = 0 then (rundlelaw18_entries.j0 k ([] : List (S114)) (⟨#[48]⟩ : ByteArray) a1_0 a1_1 a1_2 a1_3 a1_4 a1_5) else (rundlelaw18_entries.j0 k ([] : List (S114)) t169 a1_0 a1_1 a1_2 a1_3 a1_4 a1_5))) = some r := h
 clear h
 replace H := Option.bind_eq_some_iff.mp H
 obtain ⟨t169, A30, H⟩ := H
 replace H : (if a0 = 0 then (rundlelaw18_entries.j0 k ([] : List (S114)) (⟨#[48]⟩ : ByteArray) a1_0 a1_1 a1_2 a1_3 a1_4 a1_5) else (rundlelaw18_entries.j0 k ([] : List (S114)) t169 a1_0 a1_1 a1_2 a1_3 a1_4 a1_5)) = some r := H
 have A3 := K0 A30
 clear A30
 have HC4 := K0 H
 clear H
 go_enter Try.func70, Try.ntmps70
 go_upto_if 11 with (first | ((with_reducible refine gate_dst (N := 3) rfl ?_); refine box_event ?hg (N := 3) ?hd (cs := #[.int .u8 a1_0, .int .u8 a1_1, .int .u8 a1_2, .int .u8 a1_3, .bool a1_4, .bool a1_5]) (t := 108) ?hr ?_; (case hd => rfl); (case hg => rfl); (case hr => first | (go_simp; done) | (go_simp; rfl)); intro gb168 hg w5 hbox hb; have n0_ := K0 (below_step (by repeat (first | (with_reducible first | exact HB.out | apply wA | apply wN | apply wD) | exact HB.out)) hb); have n1_ := K0 (hbox); have n2_ := K0 ((by rw [hg]; exact (below_size (by repeat (first | (with_reducible first | exact HB.out | apply wA | apply wN | apply wD) | exact HB.out))) : w.heap.size ≤ gb168)); have n3_ := K0 ((by rw [hg]; exact (below_size (by repeat (first | (with_reducible first | exact HB.out | apply wA | apply wN | apply wD) | exact HB.out))) : w.heap.size ≤ gb168)); clear HB; have HB := n0_; have BK168 := n1_; have GW168 := n2_; have GE168 := n3_; clear n0_ n1_ n2_ n3_; clear hb hbox hg) | ((with_reducible refine gate_callee (f := 69) rfl ?_); refine goesL_ (some 9) rfl rfl Try.func69 (by kernel_rfl) rfl #[.int .i64 a0] rfl (by (try simp only [List.map_toArray, List.map_cons, List.map_nil]); first | done | rfl | (simp only [lD, lT]; rfl)) ?_; (with_reducible refine (rundlelaw18_name.calls a0 t169 _ A3.out).mono ?_); rintro e w6 ⟨rfl, hb⟩; refine ⟨_, rfl, ?_⟩; have n0_ := K0 (bB (g := gb168) (o := .cells #[.int .u8 a1_0, .int .u8 a1_1, .int .u8 a1_2, .int .u8 a1_3, .bool a1_4, .bool a1_5] 108 (0, 0)) (by (with_reducible repeat (first | refine bN ?_ _ | refine bD ?_ | refine bA ?_ _)); exact BK168.out) hb); have n1_ := K0 (below_step (by repeat (first | (with_reducible first | exact HB.out | apply wA | apply wN | apply wD | refine wS ?_ GE168.out) | exact HB.out)) hb); clear BK168; clear HB; have BK168 := n0_; have HB := n1_; clear n0_ n1_; (try clear hb); (try clear hb2); (try clear hk); (try clear hi)))
 (try simp only [Act.put, s1, s2, s3])
 go_cut [6] (fun v6 wc => ∃ (kq : Nat) (x6_3 : ByteArray), v6 = .string x6_3 ∧ Aside0 (rundlelaw18_entries.j0 kq ([] : List (S114)) x6_3 a1_0 a1_1 a1_2 a1_3 a1_4 a1_5 = some r) ∧ Aside0 (kq ≤ k) ∧ Aside0 (Kd.R k114 114 wc w.heap.size (fun _ => True) (.slice none 0 0) ([] : List (S114))) ∧ Aside0 (wc.heap[gb168]? = some (.cells #[.int .u8 a1_0, .int .u8 a1_1, .int .u8 a1_2, .int .u8 a1_3, .bool a1_4, .bool a1_5] 108 (0, 0))) ∧ Aside0 (Below w.heap.size w wc))
 case first =>
  have H := HC4.out
  clear HC4
  by_cases c7 : a0 = 0
  ·
   rw [if_pos c7] at H; have c7b0 : (a0 == 0) = true := beq_iff_eq.mpr c7; have c7b1 : (a0 != 0) = false := bne_eq_false_iff_eq.mpr c7; clear c7; (first | rw [c7b0] | (simp only [i64_w, i32_w]; rw [c7b0]) | skip)
   have H' := K0 H; clear H; go_wp2
   go_meet
   case rel => exact ⟨_, ((⟨#[48]⟩ : ByteArray)), (by first | rfl | (simp; done) | (simp [*]; done)), H', ⟨by first | omega | exact Nat.le_refl _⟩, ⟨by first | exact Kd.R_nil _ _ _ _ _ | exact Kd.N_nil _ _ _ _ _ | exact Kd.V_nil _ _ _ _ _ | exact Kd.Q_nil _ _ _ _ _ | exact Kd.S_nil _ _ _ _ _⟩, ⟨by (with_reducible repeat (first | refine bN ?_ _ | refine bD ?_ | refine bA ?_ _)); exact BK168.out⟩, ⟨by repeat (first | (with_reducible first | exact HB.out | apply wA | apply wN | apply wD | refine wS ?_ GE168.out) | exact HB.out)⟩⟩
  rw [if_neg c7] at H
  have c7b0 : (a0 == 0) = false := beq_eq_false_iff_ne.mpr c7
  have c7b1 : (a0 != 0) = true := bne_iff_ne.mpr c7
  (first | rw [c7b0] | (simp only [i64_w, i32_w]; rw [c7b0]) | skip)
  have H' := K0 H
  clear H
  go_wp2
  go_meet
  case rel => exact ⟨_, (t169), (by first | rfl | (simp; done) | (simp [*]; done)), H', ⟨by first | omega | exact Nat.le_refl _⟩, ⟨by first | exact Kd.R_nil _ _ _ _ _ | exact Kd.N_nil _ _ _ _ _ | exact Kd.V_nil _ _ _ _ _ | exact Kd.Q_nil _ _ _ _ _ | exact Kd.S_nil _ _ _ _ _⟩, ⟨by (with_reducible repeat (first | refine bN ?_ _ | refine bD ?_ | refine bA ?_ _)); exact BK168.out⟩, ⟨by repeat (first | (with_reducible first | exact HB.out | apply wA | apply wN | apply wD | refine wS ?_ GE168.out) | exact HB.out)⟩⟩
 case rest =>
  clear HC4
  try clear p2
  try clear c6
  try clear c7
  try clear c7b0
  try clear c7b1
  obtain ⟨kq, x6_3, rfl, HA, HJ3, HO_5, BK168, HB⟩ := hcut
  cases kq with
  | zero => exact absurd HA.out (by simp [rundlelaw18_entries.j0])
  | succ kj3 =>
   have H := HA.out; clear HA; simp only [rundlelaw18_entries.j0] at H; have H' := K0 H; clear H; go_wp2
   go_loopg [5, 7] kj3 (fun kq v5 v7 w' => ∃ (x5_2 : List (S114)) (x7_2 : Int), v7 = .int .i64 x7_2 ∧ Aside0 (rundlelaw18_entries.l0 kq x5_2 x6_3 x7_2 a1_0 a1_1 a1_2 a1_3 a1_4 a1_5 = some r) ∧ Aside0 (kq ≤ kj3) ∧ Aside0 (Kd.R k114 114 w' w.heap.size (fun _ => True) v5 x5_2) ∧ Aside0 (w'.heap[gb168]? = some (.cells #[.int .u8 a1_0, .int .u8 a1_1, .int .u8 a1_2, .int .u8 a1_3, .bool a1_4, .bool a1_5] 108 (0, 0))) ∧ Aside0 (Below w.heap.size w w'))
   case atStart => exact ⟨(([] : List (S114))), (0), (by first | rfl | (simp; done) | (simp [*]; done)), H', ⟨Nat.le_refl _⟩, ⟨by (with_reducible repeat (first | apply rA | apply rN | apply rD)); exact HO_5.out⟩, ⟨by (with_reducible repeat (first | refine bN ?_ _ | refine bD ?_ | refine bA ?_ _)); exact BK168.out⟩, ⟨by repeat (first | (with_reducible first | exact HB.out | apply wA | apply wN | apply wD | refine wS ?_ GE168.out) | exact HB.out)⟩⟩
   case round =>
    clear H'; try clear p2
    try clear c6
    try clear c7
    try clear c7b0
    try clear c7b1
    try clear p2
    obtain ⟨x5_2, x7_2, rfl, HA, HK2, HO_5, BK168, HB⟩ := hrel
    cases gk with
    | zero => exact absurd HA.out (by simp [rundlelaw18_entries.l0])
    | succ k2 =>
     have H := HA.out; clear HA; simp only [rundlelaw18_entries.l0] at H; by_cases c8 : x7_2 < (Int.tmod (wrap64 (a1_3)) 70)
     ·
      rw [if_pos c8] at H; have c8b0 : decide (x7_2 < (Int.tmod (wrap64 (a1_3)) 70)) = true := dT c8; clear c8; obtain ⟨y170, hy170⟩ : ∃ y_ : List Int, y_ = (([(wrap64 (48 + (wrap64 (Int.tdiv x7_2 10)))) % 256, (wrap64 (48 + (Int.tmod x7_2 10))) % 256] : List Int)) := ⟨_, rfl⟩; replace H : (if x6_3.size + (strOfNums y170).size ≤ 9223372036854775807 then (if x5_2.length < 3518437208883 then (rundlelaw18_entries.l0 k2 (x5_2 ++ [(⟨x6_3 ++ (strOfNums y170), (⟨#[118]⟩ : ByteArray), false⟩ : S114)]) x6_3 (wrap64 (x7_2 + 1)) a1_0 a1_1 a1_2 a1_3 a1_4 a1_5) else (none)) else (none)) = some r := by first | (rw [hy170]; with_reducible exact H) | (have H2_ := (Option.bind_some _ _).symm.trans H; rw [hy170]; with_reducible exact H2_) | (have H2_ := (Option.bind_some _ _).symm.trans H; with_reducible exact H2_) | with_reducible exact H | (rw [hy170]; exact H) | exact H
      have Ny170 := K0 hy170; clear hy170; by_cases c9 : x6_3.size + (strOfNums y170).size ≤ 9223372036854775807
      ·
       rw [if_pos c9] at H; have c9b0 := eq_true c9; have c9b1 : decide (x6_3.size + (strOfNums y170).size ≤ 9223372036854775807) = true := dT c9; try have c9b2 : (9223372036854775807 < x6_3.size + (strOfNums y170).size) = False := eq_false (Nat.not_lt.2 c9)
       by_cases c10 : x5_2.length < 3518437208883
       ·
        rw [if_pos c10] at H; have LMc10 := K0 c10; clear c10; obtain ⟨y173, hy173⟩ : ∃ y_ : List (S114), y_ = (x5_2 ++ [(⟨x6_3 ++ (strOfNums y170), (⟨#[118]⟩ : ByteArray), false⟩ : S114)]) := ⟨_, rfl⟩; replace H : (rundlelaw18_entries.l0 k2 y173 x6_3 (wrap64 (x7_2 + 1)) a1_0 a1_1 a1_2 a1_3 a1_4 a1_5) = some r := by first | (rw [hy173]; with_reducible exact H) | (have H2_ := (Option.bind_some _ _).symm.trans H; rw [hy173]; with_reducible exact H2_) | (have H2_ := (Option.bind_some _ _).symm.trans H; with_reducible exact H2_) | with_reducible exact H | (rw [hy173]; exact H) | exact H
        have Ny173 := K0 hy173; clear hy173; have H' := K0 H; clear H; obtain ⟨hcz11_0, hcz11_1, hcz11_2, hcz11_3, hcz11_4, hcz11_5⟩ := cellS6 BK168.out; obtain ⟨hfz11_0, hfz11_1, hfz11_2, hfz11_3, hfz11_4, hfz11_5⟩ := frozS6 BK168.out; go_wp2_with (first | ((with_reducible refine gate_dst (N := 30) rfl ?_); refine Kd.R_lit (Kd.int .u8) _ 5 ?hg (N := 30) ?hd (xs := ([(wrap64 (48 + (wrap64 (Int.tdiv x7_2 10)))) % 256, (wrap64 (48 + (Int.tmod x7_2 10))) % 256] : List Int)) (inner := [.int .u8 ((wrap64 (48 + (wrap64 (Int.tdiv x7_2 10)))) % 256), .int .u8 ((wrap64 (48 + (Int.tmod x7_2 10))) % 256)]) (ok := fun _ => True) (okp := fun _ => True) ?hr ?hp (fun _ hk => hk) trivial (Below.refl _ _) (Nat.le_refl _) (by simp) ?_; (case hd => rfl); (case hg => rfl); (case hr => first | (go_simp; done) | (go_simp; rfl)); (case hp => exact (Reps.one (show Kd.M (Kd.int .u8) _ _ _ ((wrap64 (48 + (wrap64 (Int.tdiv x7_2 10)))) % 256) [.int .u8 ((wrap64 (48 + (wrap64 (Int.tdiv x7_2 10)))) % 256)] from rfl) (Reps.one (show Kd.M (Kd.int .u8) _ _ _ ((wrap64 (48 + (Int.tmod x7_2 10))) % 256) [.int .u8 ((wrap64 (48 + (Int.tmod x7_2 10))) % 256)] from rfl) (Reps.none _ _)))); intro v171 w12 ho13 hb hg_ hnew_; clear hg_ hnew_; (first | rw [← Ny170.out] at ho13 | (simp only [Int.reduceToNat] at ho13; rw [← Ny170.out] at ho13)); have n0_ := K0 (rB (by (with_reducible repeat (first | apply rA | apply rN | apply rD)); exact HO_5.out) hb); have n1_ := K0 (Kd.R_lower ho13 (below_size (by repeat (first | (with_reducible first | exact HB.out | apply wA | apply wN | apply wD | refine wS ?_ GE168.out) | exact HB.out)))); have n2_ := K0 (bB (g := gb168) (o := .cells #[.int .u8 a1_0, .int .u8 a1_1, .int .u8 a1_2, .int .u8 a1_3, .bool a1_4, .bool a1_5] 108 (0, 0)) (by (with_reducible repeat (first | refine bN ?_ _ | refine bD ?_ | refine bA ?_ _)); exact BK168.out) hb); have n3_ := K0 (below_step (by repeat (first | (with_reducible first | exact HB.out | apply wA | apply wN | apply wD | refine wS ?_ GE168.out) | exact HB.out)) hb); clear HO_5; clear BK168; clear HB; have HO_5 := n0_; have HO172 := n1_; have BK168 := n2_; have HB := n3_; clear n0_ n1_ n2_ n3_; clear hb ho13; have hcv14 := own_string (P := Try.prog) Try.underlying153 Try.underlying5 Try.underlying9 (Kd.own_of_R HO172.out)) | ((with_reducible refine gate_builtin (b := .append) (xs := #[.tmp 20, .tmp 34]) rfl ?_); at_builtin; refine Kd.R_append k114 (w0 := w) w.heap.size rfl (.tmp 20) (.tmp 34) 42 114 (.agg #[(.string ⟨#[]⟩), (.string ⟨#[]⟩), (.bool false)]) 40 rfl Try.underlying42 info114 rfl (by decide) (by omega) u5 x5_2 (⟨x6_3 ++ (strOfNums y170), (⟨#[118]⟩ : ByteArray), false⟩ : S114) [.string (x6_3 ++ (strOfNums y170)), .string (⟨#[118]⟩ : ByteArray), .bool false] (fun _ => True) (fun _ => False) rfl rfl ?aP (fun _ hk => hk.elim) ?aF ?aO ?aB ?aS ?aL ?_; (case aP => exact k114_mkM _ _ _ (⟨x6_3 ++ (strOfNums y170), (⟨#[118]⟩ : ByteArray), false⟩ : S114)); (case aB => exact (by repeat (first | (with_reducible first | exact HB.out | apply wA | apply wN | apply wD | refine wS ?_ GE168.out) | exact HB.out))); (case aF => exact (fun _ _ => trivial)); (case aO => exact (by (with_reducible repeat (first | apply rA | apply rN | apply rD)); exact HO_5.out)); (case aS => exact (below_size (by repeat (first | (with_reducible first | exact HB.out | apply wA | apply wN | apply wD | refine wS ?_ GE168.out) | exact HB.out)))); (case aL => have := LMc10.out; omega); intro v174 w15 ho hb hg hat; rw [← Ny173.out] at ho; have n0_ := K0 (blk_grown (g := gb168) (o := .cells #[.int .u8 a1_0, .int .u8 a1_1, .int .u8 a1_2, .int .u8 a1_3, .bool a1_4, .bool a1_5] 108 (0, 0)) (by (with_reducible repeat (first | refine bN ?_ _ | refine bD ?_ | refine bA ?_ _)); exact BK168.out) hg (Kd.R_ne HO_5.out BK168.out (by decide))); have n1_ := K0 (Kd.R_over' (by (with_reducible repeat (first | apply rA | apply rN | apply rD)); exact HO172.out) (Kd.R_typed (by (with_reducible repeat (first | apply rA | apply rN | apply rD)); exact HO_5.out)) (by decide) hg); have n2_ := K0 (hb); have n3_ := K0 (ho); clear BK168; clear HO172; clear HB; clear HO_5; have BK168 := n0_; have HO172 := n1_; have HB := n2_; have HO175 := n3_; clear n0_ n1_ n2_ n3_; clear ho hb hg hat))
        go_roundg k2
        case measure => have := HJ3.out; have := HK2.out; omega
        case rel => exact ⟨(y173), (wrap64 (x7_2 + 1)), (by first | rfl | (simp; done) | (simp [*]; done)), H', ⟨by have := HJ3.out; have := HK2.out; omega⟩, ⟨by (with_reducible repeat (first | apply rA | apply rN | apply rD)); exact HO175.out⟩, ⟨by (with_reducible repeat (first | refine bN ?_ _ | refine bD ?_ | refine bA ?_ _)); exact BK168.out⟩, ⟨by repeat (first | (with_reducible first | exact HB.out | apply wA | apply wN | apply wD | refine wS ?_ GE168.out) | exact HB.out)⟩⟩
       rw [if_neg c10] at H; exact absurd H (by simp)
      rw [if_neg c9] at H; exact absurd H (by simp)
     rw [if_neg c8] at H; have c8b0 : decide (x7_2 < (Int.tmod (wrap64 (a1_3)) 70)) = false := dF c8; clear c8; by_cases c16 : a1_4 = true
     ·
      subst c16; have H1 : (if x6_3.size + 1 ≤ 9223372036854775807 then (if x5_2.length < 3518437208883 then (some (x5_2 ++ [(⟨x6_3 ++ (⟨#[120]⟩ : ByteArray), (⟨#[]⟩ : ByteArray), true⟩ : S114)])) else (none)) else (none)) = some r := by rw [if_pos rfl] at H; exact H
      clear H; have H := H1; clear H1; by_cases c17 : x6_3.size + 1 ≤ 9223372036854775807
      ·
       rw [if_pos c17] at H; have c17b0 := eq_true c17; have c17b1 : decide (x6_3.size + 1 ≤ 9223372036854775807) = true := dT c17; try have c17b2 : (9223372036854775807 < x6_3.size + 1) = False := eq_false (Nat.not_lt.2 c17)
       by_cases c18 : x5_2.length < 3518437208883
       ·
        rw [if_pos c18] at H; have LMc18 := K0 c18; clear c18; obtain ⟨y176, hy176⟩ : ∃ y_ : List (S114), y_ = (x5_2 ++ [(⟨x6_3 ++ (⟨#[120]⟩ : ByteArray), (⟨#[]⟩ : ByteArray), true⟩ : S114)]) := ⟨_, rfl⟩; replace H : (some y176) = some r := by first | (rw [hy176]; with_reducible exact H) | (have H2_ := (Option.bind_some _ _).symm.trans H; rw [hy176]; with_reducible exact H2_) | (have H2_ := (Option.bind_some _ _).symm.trans H; with_reducible exact H2_) | with_reducible exact H | (rw [hy176]; exact H) | exact H
        have Ny176 := K0 hy176; clear hy176; obtain rfl := Option.some.inj H; obtain ⟨hcz19_0, hcz19_1, hcz19_2, hcz19_3, hcz19_4, hcz19_5⟩ := cellS6 BK168.out; obtain ⟨hfz19_0, hfz19_1, hfz19_2, hfz19_3, hfz19_4, hfz19_5⟩ := frozS6 BK168.out; go_wp2_with (first | ((with_reducible refine gate_builtin (b := .append) (xs := #[.tmp 38, .tmp 42]) rfl ?_); at_builtin; refine Kd.R_append k114 (w0 := w) w.heap.size rfl (.tmp 38) (.tmp 42) 42 114 (.agg #[(.string ⟨#[]⟩), (.string ⟨#[]⟩), (.bool false)]) 40 rfl Try.underlying42 info114 rfl (by decide) (by omega) u5 x5_2 (⟨x6_3 ++ (⟨#[120]⟩ : ByteArray), (⟨#[]⟩ : ByteArray), true⟩ : S114) [.string (x6_3 ++ (⟨#[120]⟩ : ByteArray)), .string (⟨#[]⟩ : ByteArray), .bool true] (fun _ => True) (fun _ => False) rfl rfl ?aP (fun _ hk => hk.elim) ?aF ?aO ?aB ?aS ?aL ?_; (case aP => exact k114_mkM _ _ _ (⟨x6_3 ++ (⟨#[120]⟩ : ByteArray), (⟨#[]⟩ : ByteArray), true⟩ : S114)); (case aB => exact (by repeat (first | (with_reducible first | exact HB.out | apply wA | apply wN | apply wD | refine wS ?_ GE168.out) | exact HB.out))); (case aF => exact (fun _ _ => trivial)); (case aO => exact (by (with_reducible repeat (first | apply rA | apply rN | apply rD)); exact HO_5.out)); (case aS => exact (below_size (by repeat (first | (with_reducible first | exact HB.out | apply wA | apply wN | apply wD | refine wS ?_ GE168.out) | exact HB.out)))); (case aL => have := LMc18.out; omega); intro v177 w20 ho hb hg hat; rw [← Ny176.out] at ho; have n0_ := K0 (blk_grown (g := gb168) (o := .cells #[.int .u8 a1_0, .int .u8 a1_1, .int .u8 a1_2, .int .u8 a1_3, .bool true, .bool a1_5] 108 (0, 0)) (by (with_reducible repeat (first | refine bN ?_ _ | refine bD ?_ | refine bA ?_ _)); exact BK168.out) hg (Kd.R_ne HO_5.out BK168.out (by decide))); have n1_ := K0 (hb); have n2_ := K0 (ho); clear BK168; clear HB; clear HO_5; have BK168 := n0_; have HB := n1_; have HO178 := n2_; clear n0_ n1_ n2_; clear ho hb hg hat))
        go_ret; exact ⟨_, by first | rfl | (simp [errW_none, errW_some] <;> rfl) | (simp [*, errW_none, errW_some] <;> rfl), by (with_reducible repeat (first | apply rA | apply rN | apply rD)); exact HO178.out, by repeat (first | (with_reducible first | exact HB.out | apply wA | apply wN | apply wD | refine wS ?_ GE168.out) | exact HB.out)⟩
       rw [if_neg c18] at H; exact absurd H (by simp)
      rw [if_neg c17] at H; exact absurd H (by simp)
     replace c16 := Bool.eq_false_iff.mpr c16; subst c16; have H1 : (some x5_2) = some r := by rw [if_neg (show ¬ (false = true) by decide)] at H; exact H
     clear H; have H := H1; clear H1; obtain rfl := Option.some.inj H; obtain ⟨hcz21_0, hcz21_1, hcz21_2, hcz21_3, hcz21_4, hcz21_5⟩ := cellS6 BK168.out; obtain ⟨hfz21_0, hfz21_1, hfz21_2, hfz21_3, hfz21_4, hfz21_5⟩ := frozS6 BK168.out; go_wp2
     go_ret; exact ⟨_, by first | rfl | (simp [errW_none, errW_some] <;> rfl) | (simp [*, errW_none, errW_some] <;> rfl), by (with_reducible repeat (first | apply rA | apply rN | apply rD)); exact HO_5.out, by repeat (first | (with_reducible first | exact HB.out | apply wA | apply wN | apply wD | refine wS ?_ GE168.out) | exact HB.out)⟩
/-! ### rundleref17_To: function 71 -/
def rundleref17_To.l0 : Nat → List Int → Int → Int → Option (Int)
 | 0, _, _, _ => none
 | k + 1, x0, x2, x7 => if x7 < (x0.length : Int) then (if 0 ≤ x7 then (if (rd x0 x7) > x2 then (some x7) else (rundleref17_To.l0 k x0 x2 (wrap64 (x7 + 1)))) else (none)) else (some (-1))
def rundleref17_To.f (k : Nat) (l0 : List Int) (a1 : Int) (a2 : Int) : Option (Int) := rundleref17_To.l0 k l0 a2 (wrap64 (a1 + 1))
set_option maxHeartbeats 8000000 in
set_option maxRecDepth 100000 in
theorem rundleref17_To.calls (k : Nat) (A0 : Option Addr) (c0 : Nat) (l0 : List Int) (a1 : Int) (a2 : Int) (r : Int) (w : World) (hr0 : Kd.C (Kd.int .i64) w A0 l0.length l0) (hc0 : l0.length ≤ c0) (h : rundleref17_To.f k l0 a1 a2 = some r) :
  Calls Try.prog 71 #[.slice A0 l0.length c0, .int .i64 a1, .int .i64 a2] w fun e w' => e = .returned (.int .i64 r) ∧ Drawn0 w w' := by
 have HR0 := K0 hr0
 have HC0 := K0 hc0
 clear hr0 hc0
 have H : (rundleref17_To.l0 k l0 a2 (wrap64 (a1 + 1))) = some r := h
 clear h
 have H' := K0 H
 clear H
 go_enter Try.func71, Try.ntmps71
 go_wp2
 go_loopg [7] k (fun kq v7 w' => ∃ (x7_1 : Int), v7 = .int .i64 x7_1 ∧ Aside0 (rundleref17_To.l0 kq l0 a2 x7_1 = some r) ∧ Aside0 (kq ≤ k) ∧ Drawn0 w w')
 case atStart => exact ⟨(wrap64 (a1 + 1)), (by first | rfl | (simp; done) | (simp [*]; done)), H', ⟨Nat.le_refl _⟩, by repeat (first | exact Drawn0.refl _ | apply Drawn0.step)⟩
 case round =>
  clear H'
  try clear p2
  obtain ⟨x7_1, rfl, HA, HK1, ⟨m1, rfl⟩⟩ := hrel
  cases gk with
  | zero => exact absurd HA.out (by simp [rundleref17_To.l0])
  | succ k1 =>
   have H := HA.out; clear HA; simp only [rundleref17_To.l0] at H; by_cases c4 : x7_1 < (l0.length : Int)
   ·
    rw [if_pos c4] at H; have c4b0 : decide (x7_1 < (l0.length : Int)) = true := dT c4; clear c4; by_cases c5 : 0 ≤ x7_1
    ·
     rw [if_pos c5] at H; have c5b0 : decide (0 ≤ x7_1) = true := dT c5; clear c5; by_cases c6 : (rd l0 x7_1) > a2
     ·
      rw [if_pos c6] at H; have c6b0 : decide (a2 < (rd l0 x7_1)) = true := dT c6; clear c6; obtain rfl := Option.some.inj H; have p179 : 0 ≤ (x7_1 : Int) := oT (by first | (with_reducible assumption) | assumption); have q179 : x7_1 < (l0.length : Int) := oT (by first | (with_reducible assumption) | assumption); obtain ⟨ad179, e179, hx179_0⟩ := Kd.at_int HR0.out x7_1 p179 q179
      cases e179; replace p179 := eq_true p179; replace q179 := eq_true q179; go_wp2
      go_ret; exact ⟨by first | rfl | (simp; done) | (simp [*]; done), by repeat (first | exact Drawn0.refl _ | apply Drawn0.step)⟩
     rw [if_neg c6] at H; have c6b0 : decide (a2 < (rd l0 x7_1)) = false := dF c6; clear c6; have H' := K0 H; clear H; have p179 : 0 ≤ (x7_1 : Int) := oT (by first | (with_reducible assumption) | assumption); have q179 : x7_1 < (l0.length : Int) := oT (by first | (with_reducible assumption) | assumption); obtain ⟨ad179, e179, hx179_0⟩ := Kd.at_int HR0.out x7_1 p179 q179
     cases e179; replace p179 := eq_true p179; replace q179 := eq_true q179; go_wp2
     go_roundg k1
     case measure => have := HK1.out; omega
     case rel => exact ⟨(wrap64 (x7_1 + 1)), (by first | rfl | (simp; done) | (simp [*]; done)), H', ⟨by have := HK1.out; omega⟩, by repeat (first | exact Drawn0.refl _ | apply Drawn0.step)⟩
    rw [if_neg c5] at H; exact absurd H (by simp)
   rw [if_neg c4] at H; have c4b0 : decide (x7_1 < (l0.length : Int)) = false := dF c4; clear c4; obtain rfl := Option.some.inj H; go_wp2
   go_ret; exact ⟨by first | rfl | (simp; done) | (simp [*]; done), by repeat (first | exact Drawn0.refl _ | apply Drawn0.step)⟩
/-! ### tag_To: function 39 -/
def tag_To.f (a0 : Int) : Option (Int) := if a0 < 0 then (some 0) else ((tag_Right.f (Go.bits .and .i64 a0 2147483647)).bind fun t180 => (if t180 = true then (some (Go.bits .and .i64 a0 2147483647)) else (some 0)))
set_option maxHeartbeats 8000000 in
set_option maxRecDepth 100000 in
theorem tag_To.calls (a0 : Int) (r : Int) (w : World) (h : tag_To.f a0 = some r) :
  Calls Try.prog 39 #[.int .i64 a0] w fun e w' => e = .returned (.int .i64 r) ∧ Drawn0 w w' := by
 have H : (if a0 < 0 then (some 0) else ((tag_Right.f (Go.bits .and .i64 a0 2147483647)).bind fun t180 => (if t180 = true then (some (Go.bits .and .i64 a0 2147483647)) else (some 0)))) = some r := h
 clear h
 by_cases c2 : a0 < 0
 ·
  rw [if_pos c2] at H
  have c2b0 : decide (a0 < 0) = true := dT c2
  clear c2
  obtain rfl := Option.some.inj H
  go_enter Try.func39, Try.ntmps39
  go_wp2
  go_ret
  exact ⟨by first | rfl | (simp; done) | (simp [*]; done), by repeat (first | exact Drawn0.refl _ | apply Drawn0.step)⟩
 rw [if_neg c2] at H
 have c2b0 : decide (a0 < 0) = false := dF c2
 clear c2
 replace H := Option.bind_eq_some_iff.mp H
 obtain ⟨t180, A30, H⟩ := H
 replace H : (if t180 = true then (some (Go.bits .and .i64 a0 2147483647)) else (some 0)) = some r := H
 have A3 := K0 A30
 clear A30
 by_cases c4 : t180 = true
 ·
  subst c4
  have H1 : (some (Go.bits .and .i64 a0 2147483647)) = some r := by rw [if_pos rfl] at H; exact H
  clear H
  have H := H1
  clear H1
  obtain rfl := Option.some.inj H
  go_enter Try.func39, Try.ntmps39
  go_wp2_with (first | (go_at_call 75; (with_reducible refine (tag_Right.calls (Go.bits .and .i64 a0 2147483647) true _ A3.out).mono ?_); rintro e w' ⟨rfl, ⟨nd, rfl⟩⟩))
  go_ret
  exact ⟨by first | rfl | (simp; done) | (simp [*]; done), by repeat (first | exact Drawn0.refl _ | apply Drawn0.step)⟩
 replace c4 := Bool.eq_false_iff.mpr c4
 subst c4
 have H1 : (some 0) = some r := by rw [if_neg (show ¬ (false = true) by decide)] at H; exact H
 clear H
 have H := H1
 clear H1
 obtain rfl := Option.some.inj H
 go_enter Try.func39, Try.ntmps39
 go_wp2_with (first | (go_at_call 75; (with_reducible refine (tag_Right.calls (Go.bits .and .i64 a0 2147483647) false _ A3.out).mono ?_); rintro e w' ⟨rfl, ⟨nd, rfl⟩⟩))
 go_ret
 exact ⟨by first | rfl | (simp; done) | (simp [*]; done), by repeat (first | exact Drawn0.refl _ | apply Drawn0.step)⟩
/-! ### key_Good: function 81 -/
def key_Good.f (a0_0 : ByteArray) (a0_1 : ByteArray) (a0_2 : Bool) : Option (Bool) := if a0_2 = true then (some true) else (some (!(Op.bytesLess a0_1.toList a0_0.toList)))
set_option maxHeartbeats 8000000 in
set_option maxRecDepth 100000 in
theorem key_Good.calls (a0_0 : ByteArray) (a0_1 : ByteArray) (a0_2 : Bool) (r : Bool) (w : World) (h : key_Good.f a0_0 a0_1 a0_2 = some r) :
  Calls Try.prog 81 #[.agg #[.string a0_0, .string a0_1, .bool a0_2]] w fun e w' => e = .returned (.bool r) ∧ Below w.heap.size w w' := by
 have hu32 := Try.underlying32
 have HB := K0 (Below.refl w.heap.size w)
 have H : (if a0_2 = true then (some true) else (some (!(Op.bytesLess a0_1.toList a0_0.toList)))) = some r := h
 clear h
 by_cases c2 : a0_2 = true
 ·
  subst c2
  have H1 : (some true) = some r := by rw [if_pos rfl] at H; exact H
  clear H
  have H := H1
  clear H1
  obtain rfl := Option.some.inj H
  go_enter Try.func81, Try.ntmps81
  go_wp2_with (first | ((with_reducible refine gate_dst (N := 1) rfl ?_); refine box_event ?hg (N := 1) ?hd (cs := #[.string a0_0, .string a0_1, .bool true]) (t := 32) ?hr ?_; (case hd => rfl); (case hg => rfl); (case hr => first | (go_simp; done) | (go_simp; rfl)); intro gb181 hg w3 hbox hb; have n0_ := K0 (below_step (by repeat (first | (with_reducible first | exact HB.out | apply wA | apply wN | apply wD) | exact HB.out)) hb); have n1_ := K0 (hbox); have n2_ := K0 ((by rw [hg]; exact (below_size (by repeat (first | (with_reducible first | exact HB.out | apply wA | apply wN | apply wD) | exact HB.out))) : w.heap.size ≤ gb181)); have n3_ := K0 ((by rw [hg]; exact (below_size (by repeat (first | (with_reducible first | exact HB.out | apply wA | apply wN | apply wD) | exact HB.out))) : w.heap.size ≤ gb181)); clear HB; have HB := n0_; have BK181 := n1_; have GW181 := n2_; have GE181 := n3_; clear n0_ n1_ n2_ n3_; clear hb hbox hg; obtain ⟨hcz4_0, hcz4_1, hcz4_2⟩ := cellS3 BK181.out; obtain ⟨hfz4_0, hfz4_1, hfz4_2⟩ := frozS3 BK181.out))
  go_ret
  exact ⟨by first | rfl | (simp [errW_none, errW_some] <;> rfl) | (simp [*, errW_none, errW_some] <;> rfl), by repeat (first | (with_reducible first | exact HB.out | apply wA | apply wN | apply wD | refine wS ?_ GE181.out) | exact HB.out)⟩
 replace c2 := Bool.eq_false_iff.mpr c2
 subst c2
 have H1 : (some (!(Op.bytesLess a0_1.toList a0_0.toList))) = some r := by rw [if_neg (show ¬ (false = true) by decide)] at H; exact H
 clear H
 have H := H1
 clear H1
 obtain rfl := Option.some.inj H
 go_enter Try.func81, Try.ntmps81
 go_wp2_with (first | ((with_reducible refine gate_dst (N := 1) rfl ?_); refine box_event ?hg (N := 1) ?hd (cs := #[.string a0_0, .string a0_1, .bool false]) (t := 32) ?hr ?_; (case hd => rfl); (case hg => rfl); (case hr => first | (go_simp; done) | (go_simp; rfl)); intro gb181 hg w5 hbox hb; have n0_ := K0 (below_step (by repeat (first | (with_reducible first | exact HB.out | apply wA | apply wN | apply wD) | exact HB.out)) hb); have n1_ := K0 (hbox); have n2_ := K0 ((by rw [hg]; exact (below_size (by repeat (first | (with_reducible first | exact HB.out | apply wA | apply wN | apply wD) | exact HB.out))) : w.heap.size ≤ gb181)); have n3_ := K0 ((by rw [hg]; exact (below_size (by repeat (first | (with_reducible first | exact HB.out | apply wA | apply wN | apply wD) | exact HB.out))) : w.heap.size ≤ gb181)); clear HB; have HB := n0_; have BK181 := n1_; have GW181 := n2_; have GE181 := n3_; clear n0_ n1_ n2_ n3_; clear hb hbox hg; obtain ⟨hcz6_0, hcz6_1, hcz6_2⟩ := cellS3 BK181.out; obtain ⟨hfz6_0, hfz6_1, hfz6_2⟩ := frozS3 BK181.out))
 go_ret
 exact ⟨by first | rfl | (simp [errW_none, errW_some] <;> rfl) | (simp [*, errW_none, errW_some] <;> rfl), by repeat (first | (with_reducible first | exact HB.out | apply wA | apply wN | apply wD | refine wS ?_ GE181.out) | exact HB.out)⟩
/-! ### key_Empty: function 93 -/
def key_Empty.f (a0_0 : ByteArray) (a0_1 : ByteArray) (a0_2 : Bool) : Option (Bool) := if a0_2 = true then (some false) else (some (!(Op.bytesLess a0_0.toList a0_1.toList)))
set_option maxHeartbeats 8000000 in
set_option maxRecDepth 100000 in
theorem key_Empty.calls (a0_0 : ByteArray) (a0_1 : ByteArray) (a0_2 : Bool) (r : Bool) (w : World) (h : key_Empty.f a0_0 a0_1 a0_2 = some r) :
  Calls Try.prog 93 #[.agg #[.string a0_0, .string a0_1, .bool a0_2]] w fun e w' => e = .returned (.bool r) ∧ Below w.heap.size w w' := by
 have hu32 := Try.underlying32
 have HB := K0 (Below.refl w.heap.size w)
 have H : (if a0_2 = true then (some false) else (some (!(Op.bytesLess a0_0.toList a0_1.toList)))) = some r := h
 clear h
 by_cases c2 : a0_2 = true
 ·
  subst c2
  have H1 : (some false) = some r := by rw [if_pos rfl] at H; exact H
  clear H
  have H := H1
  clear H1
  obtain rfl := Option.some.inj H
  go_enter Try.func93, Try.ntmps93
  go_wp2_with (first | ((with_reducible refine gate_dst (N := 1) rfl ?_); refine box_event ?hg (N := 1) ?hd (cs := #[.string a0_0, .string a0_1, .bool true]) (t := 32) ?hr ?_; (case hd => rfl); (case hg => rfl); (case hr => first | (go_simp; done) | (go_simp; rfl)); intro gb182 hg w3 hbox hb; have n0_ := K0 (below_step (by repeat (first | (with_reducible first | exact HB.out | apply wA | apply wN | apply wD) | exact HB.out)) hb); have n1_ := K0 (hbox); have n2_ := K0 ((by rw [hg]; exact (below_size (by repeat (first | (with_reducible first | exact HB.out | apply wA | apply wN | apply wD) | exact HB.out))) : w.heap.size ≤ gb182)); have n3_ := K0 ((by rw [hg]; exact (below_size (by repeat (first | (with_reducible first | exact HB.out | apply wA | apply wN | apply wD) | exact HB.out))) : w.heap.size ≤ gb182)); clear HB; have HB := n0_; have BK182 := n1_; have GW182 := n2_; have GE182 := n3_; clear n0_ n1_ n2_ n3_; clear hb hbox hg; obtain ⟨hcz4_0, hcz4_1, hcz4_2⟩ := cellS3 BK182.out; obtain ⟨hfz4_0, hfz4_1, hfz4_2⟩ := frozS3 BK182.out))
  go_ret
  exact ⟨by first | rfl | (simp [errW_none, errW_some] <;> rfl) | (simp [*, errW_none, errW_some] <;> rfl), by repeat (first | (with_reducible first | exact HB.out | apply wA | apply wN | apply wD | refine wS ?_ GE182.out) | exact HB.out)⟩
 replace c2 := Bool.eq_false_iff.mpr c2
 subst c2
 have H1 : (some (!(Op.bytesLess a0_0.toList a0_1.toList))) = some r := by rw [if_neg (show ¬ (false = true) by decide)] at H; exact H
 clear H
 have H := H1
 clear H1
 obtain rfl := Option.some.inj H
 go_enter Try.func93, Try.ntmps93
 go_wp2_with (first | ((with_reducible refine gate_dst (N := 1) rfl ?_); refine box_event ?hg (N := 1) ?hd (cs := #[.string a0_0, .string a0_1, .bool false]) (t := 32) ?hr ?_; (case hd => rfl); (case hg => rfl); (case hr => first | (go_simp; done) | (go_simp; rfl)); intro gb182 hg w5 hbox hb; have n0_ := K0 (below_step (by repeat (first | (with_reducible first | exact HB.out | apply wA | apply wN | apply wD) | exact HB.out)) hb); have n1_ := K0 (hbox); have n2_ := K0 ((by rw [hg]; exact (below_size (by repeat (first | (with_reducible first | exact HB.out | apply wA | apply wN | apply wD) | exact HB.out))) : w.heap.size ≤ gb182)); have n3_ := K0 ((by rw [hg]; exact (below_size (by repeat (first | (with_reducible first | exact HB.out | apply wA | apply wN | apply wD) | exact HB.out))) : w.heap.size ≤ gb182)); clear HB; have HB := n0_; have BK182 := n1_; have GW182 := n2_; have GE182 := n3_; clear n0_ n1_ n2_ n3_; clear hb hbox hg; obtain ⟨hcz6_0, hcz6_1, hcz6_2⟩ := cellS3 BK182.out; obtain ⟨hfz6_0, hfz6_1, hfz6_2⟩ := frozS3 BK182.out))
 go_ret
 exact ⟨by first | rfl | (simp [errW_none, errW_some] <;> rfl) | (simp [*, errW_none, errW_some] <;> rfl), by repeat (first | (with_reducible first | exact HB.out | apply wA | apply wN | apply wD | refine wS ?_ GE182.out) | exact HB.out)⟩
end Go.Proofs.Ytoaacdjcjicemaa.PPlanRelinks
