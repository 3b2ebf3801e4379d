-- written by a program of this session (the print, turned)
import Derived.Test.YtoaacdjcjicemaaPRevPlaysx0
import Derived.Test.YtoaacdjcjicemaaPRevPlaysx2
import Derived.Test.YtoaacdjcjicemaaWAl
namespace Go.Proofs.Ytoaacdjcjicemaa.PRevPlays
open Go.RowKit Go.Proofs.YtoaacdjcjicemaaW.PrintWords Go.Proofs.YtoaacdjcjicemaaW.PrintLast Go.Proofs.YtoaacdjcjicemaaW.PrintMore
attribute [local go_sem] cell_self cell_there leq_str geq_str gtr_str max2_str max2_int min2_int max_two min_two max_three min_three max_four min_four   -- for this text's walks alone
set_option linter.unusedVariables false
set_option linter.unusedSimpArgs false
/-! ### rundleref08_Find: function 66 -/
def rundleref08_Find.l0 : Nat → List (S62) → ByteArray → Int → Option (Int)
 | 0, _, _, _ => none
 | k + 1, x0, x1, x5 => if x5 < (x0.length : Int) then (if 0 ≤ x5 then (if ((rd_T62 x0 x5).f0).toList = x1.toList then (some x5) else (rundleref08_Find.l0 k x0 x1 (wrap64 (x5 + 1)))) else (none)) else (some (-1))
def rundleref08_Find.f (k : Nat) (l0 : List (S62)) (a1 : ByteArray) : Option (Int) := rundleref08_Find.l0 k l0 a1 0
set_option maxHeartbeats 8000000 in
set_option maxRecDepth 100000 in
theorem rundleref08_Find.calls (k : Nat) (A0 : Option Addr) (c0 : Nat) (l0 : List (S62)) (a1 : ByteArray) (r : Int) (w : World) (hr0 : Kd.C k62 w A0 l0.length l0) (hc0 : l0.length ≤ c0) (h : rundleref08_Find.f k l0 a1 = some r) :
  Calls Try.prog 66 #[.slice A0 l0.length c0, .string a1] w fun e w' => e = .returned (.int .i64 r) ∧ Drawn0 w w' := by
 have HR0 := K0 hr0
 have HC0 := K0 hc0
 clear hr0 hc0
 have H : (rundleref08_Find.l0 k l0 a1 0) = some r := h
 clear h
 have H' := K0 H
 clear H
 go_enter Try.func66, Try.ntmps66
 go_wp2
 go_loopg [5] k (fun kq v5 w' => ∃ (x5_1 : Int), v5 = .int .i64 x5_1 ∧ Aside0 (rundleref08_Find.l0 kq l0 a1 x5_1 = some r) ∧ Aside0 (kq ≤ k) ∧ Drawn0 w w')
 case atStart => exact ⟨(0), (by first | rfl | (simp; done) | (simp [*]; done)), H', ⟨Nat.le_refl _⟩, by repeat (first | exact Drawn0.refl _ | apply Drawn0.step)⟩
 case round =>
  clear H'
  try clear p2
  obtain ⟨x5_1, rfl, HA, HK1, ⟨m1, rfl⟩⟩ := hrel
  cases gk with
  | zero => exact absurd HA.out (by simp [rundleref08_Find.l0])
  | succ k1 =>
   have H := HA.out
   clear HA
   simp only [rundleref08_Find.l0] at H
   by_cases c3 : x5_1 < (l0.length : Int)
   ·
    rw [if_pos c3] at H
    have c3b0 : decide (x5_1 < (l0.length : Int)) = true := dT c3
    clear c3
    by_cases c4 : 0 ≤ x5_1
    ·
     rw [if_pos c4] at H
     have c4b0 : decide (0 ≤ x5_1) = true := dT c4
     clear c4
     by_cases c5 : ((rd_T62 l0 x5_1).f0).toList = a1.toList
     ·
      rw [if_pos c5] at H
      have c5b0 : (((rd_T62 l0 x5_1).f0).toList == a1.toList) = true := beq_iff_eq.mpr c5
      have c5b1 : (((rd_T62 l0 x5_1).f0).toList != a1.toList) = false := bne_eq_false_iff_eq.mpr c5
      clear c5
      obtain rfl := Option.some.inj H
      have p350 : 0 ≤ (x5_1 : Int) := oT (by first | (with_reducible assumption) | assumption)
      have q350 : x5_1 < (l0.length : Int) := oT (by first | (with_reducible assumption) | assumption)
      obtain ⟨ad350, e350, hx350_0, hx350_1, hx350_2⟩ := at_T62 HR0.out x5_1 p350 q350
      cases e350
      replace p350 := eq_true p350
      replace q350 := eq_true q350
      go_wp2
      go_ret
      exact ⟨by first | rfl | (simp; done) | (simp [*]; done), by repeat (first | exact Drawn0.refl _ | apply Drawn0.step)⟩
     ·
      rw [if_neg c5] at H
      have c5b0 : (((rd_T62 l0 x5_1).f0).toList == a1.toList) = false := beq_eq_false_iff_ne.mpr c5
      have c5b1 : (((rd_T62 l0 x5_1).f0).toList != a1.toList) = true := bne_iff_ne.mpr c5
      have H' := K0 H
      clear H
      have p350 : 0 ≤ (x5_1 : Int) := oT (by first | (with_reducible assumption) | assumption)
      have q350 : x5_1 < (l0.length : Int) := oT (by first | (with_reducible assumption) | assumption)
      obtain ⟨ad350, e350, hx350_0, hx350_1, hx350_2⟩ := at_T62 HR0.out x5_1 p350 q350
      cases e350
      replace p350 := eq_true p350
      replace q350 := eq_true q350
      go_wp2
      go_roundg k1
      case measure => have := HK1.out; omega
      case rel => exact ⟨(wrap64 (x5_1 + 1)), (by first | rfl | (simp; done) | (simp [*]; done)), H', ⟨by have := HK1.out; omega⟩, by repeat (first | exact Drawn0.refl _ | apply Drawn0.step)⟩
    ·
     rw [if_neg c4] at H
     exact absurd H (by simp)
   ·
    rw [if_neg c3] at H
    have c3b0 : decide (x5_1 < (l0.length : Int)) = false := dF c3
    clear c3
    obtain rfl := Option.some.inj H
    go_wp2
    go_ret
    exact ⟨by first | rfl | (simp; done) | (simp [*]; done), by repeat (first | exact Drawn0.refl _ | apply Drawn0.step)⟩
/-! ### rundleref08_Get: function 25 -/
def rundleref08_Get.f (k : Nat) (l0 : List (S62)) (a1 : ByteArray) : Option (ByteArray × Bool) := (rundleref08_Find.f k l0 a1).bind fun t351 => (if t351 < 0 then (some ((⟨#[]⟩ : ByteArray), false)) else (if 0 ≤ t351 then (if t351 < (l0.length : Int) then (if (rd_T62 l0 t351).f2 = true then (some ((⟨#[]⟩ : ByteArray), false)) else (some ((rd_T62 l0 t351).f1, true))) else (none)) else (none)))
set_option maxHeartbeats 8000000 in
set_option maxRecDepth 100000 in
theorem rundleref08_Get.calls (k : Nat) (A0 : Option Addr) (c0 : Nat) (l0 : List (S62)) (a1 : ByteArray) (r1 : ByteArray) (r2 : Bool) (w : World) (hr0 : Kd.C k62 w A0 l0.length l0) (hc0 : l0.length ≤ c0) (h : rundleref08_Get.f k l0 a1 = some (r1, r2)) :
  Calls Try.prog 25 #[.slice A0 l0.length c0, .string a1] w fun e w' => e = .returned (.tuple #[.string r1, .bool r2]) ∧ Drawn0 w w' := by
 have HR0 := K0 hr0
 have HC0 := K0 hc0
 clear hr0 hc0
 have H : ((rundleref08_Find.f k l0 a1).bind fun t351 => (if t351 < 0 then (some ((⟨#[]⟩ : ByteArray), false)) else (if 0 ≤ t351 then (if t351 < (l0.length : Int) then (if (rd_T62 l0 t351).f2 = true then (some ((⟨#[]⟩ : ByteArray), false)) else (some ((rd_T62 l0 t351).f1, true))) else (none)) else (none)))) = some (r1, r2) := h
 clear h
 replace H := Option.bind_eq_some_iff.mp H
 obtain ⟨t351, A30, H⟩ := H
 replace H : (if t351 < 0 then (some ((⟨#[]⟩ : ByteArray), false)) else (if 0 ≤ t351 then (if t351 < (l0.length : Int) then (if (rd_T62 l0 t351).f2 = true then (some ((⟨#[]⟩ : ByteArray), false)) else (some ((rd_T62 l0 t351).f1, true))) else (none)) else (none))) = some (r1, r2) := H
 have A3 := K0 A30
 clear A30
 by_cases c4 : t351 < 0
 ·
  rw [if_pos c4] at H
  have c4b0 : decide (t351 < 0) = true := dT c4
  clear c4
  simp only [Option.some.injEq, Prod.mk.injEq] at H
  obtain ⟨rfl, rfl⟩ := H
  go_enter Try.func25, Try.ntmps25
  go_wp2_with (first | ((with_reducible refine gate_callee (f := 66) rfl ?_); refine goesL_ (some 9) rfl rfl Try.func66 (by kernel_rfl) rfl #[.slice A0 l0.length c0, .string a1] rfl (by (try simp only [List.map_toArray, List.map_cons, List.map_nil]); first | done | rfl | (simp only [lD, lT]; rfl)) ?_; (with_reducible refine (rundleref08_Find.calls k _ _ l0 a1 t351 _ ?side1 ?side2 A3.out).mono ?_); (case side1 => repeat (first | exact HR0.out | (with_reducible refine Kd.C_alloc ?_ _) | (with_reducible refine Kd.C_drewN ?_ _) | (with_reducible refine Kd.C_drew ?_))); (case side2 => exact HC0.out); rintro e w' ⟨rfl, ⟨nd, rfl⟩⟩; refine ⟨_, rfl, ?_⟩))
  go_ret2
  exact ⟨by first | rfl | (simp; done) | (simp [*]; done), by repeat (first | exact Drawn0.refl _ | apply Drawn0.step)⟩
 ·
  rw [if_neg c4] at H
  have c4b0 : decide (t351 < 0) = false := dF c4
  clear c4
  by_cases c5 : 0 ≤ t351
  ·
   rw [if_pos c5] at H
   have c5b0 : decide (0 ≤ t351) = true := dT c5
   clear c5
   by_cases c6 : t351 < (l0.length : Int)
   ·
    rw [if_pos c6] at H
    have c6b0 : decide (t351 < (l0.length : Int)) = true := dT c6
    clear c6
    obtain ⟨bq7, hbq7⟩ : ∃ b_ : Bool, b_ = ((rd_T62 l0 t351).f2) := ⟨_, rfl⟩
    replace H : (if bq7 = true then (some ((⟨#[]⟩ : ByteArray), false)) else (some ((rd_T62 l0 t351).f1, true))) = some (r1, r2) := by rw [← hbq7] at H; exact H
    have Nbq7 := K0 hbq7
    clear hbq7
    by_cases c8 : bq7 = true
    ·
     subst c8
     have H1 : (some ((⟨#[]⟩ : ByteArray), false)) = some (r1, r2) := by rw [if_pos rfl] at H; exact H
     clear H
     have H := H1
     clear H1
     simp only [Option.some.injEq, Prod.mk.injEq] at H
     obtain ⟨rfl, rfl⟩ := H
     go_enter Try.func25, Try.ntmps25
     go_wp2_with (first | ((with_reducible refine gate_callee (f := 66) rfl ?_); refine goesL_ (some 9) rfl rfl Try.func66 (by kernel_rfl) rfl #[.slice A0 l0.length c0, .string a1] rfl (by (try simp only [List.map_toArray, List.map_cons, List.map_nil]); first | done | rfl | (simp only [lD, lT]; rfl)) ?_; (with_reducible refine (rundleref08_Find.calls k _ _ l0 a1 t351 _ ?side1 ?side2 A3.out).mono ?_); (case side1 => repeat (first | exact HR0.out | (with_reducible refine Kd.C_alloc ?_ _) | (with_reducible refine Kd.C_drewN ?_ _) | (with_reducible refine Kd.C_drew ?_))); (case side2 => exact HC0.out); rintro e w' ⟨rfl, ⟨nd, rfl⟩⟩; refine ⟨_, rfl, ?_⟩; have p352 : 0 ≤ (t351 : Int) := oT (by first | (with_reducible assumption) | assumption); have q352 : t351 < (l0.length : Int) := oT (by first | (with_reducible assumption) | assumption); obtain ⟨ad352, e352, hx352_0, hx352_1, hx352_2⟩ := at_T62 HR0.out t351 p352 q352; (try rw [← Nbq7.out] at hx352_2); cases e352; replace p352 := eq_true p352; replace q352 := eq_true q352))
     go_ret2
     exact ⟨by first | rfl | (simp; done) | (simp [*]; done), by repeat (first | exact Drawn0.refl _ | apply Drawn0.step)⟩
    ·
     replace c8 := Bool.eq_false_iff.mpr c8
     subst c8
     have H1 : (some ((rd_T62 l0 t351).f1, true)) = some (r1, r2) := by rw [if_neg (show ¬ (false = true) by decide)] at H; exact H
     clear H
     have H := H1
     clear H1
     simp only [Option.some.injEq, Prod.mk.injEq] at H
     obtain ⟨rfl, rfl⟩ := H
     go_enter Try.func25, Try.ntmps25
     go_wp2_with (first | ((with_reducible refine gate_callee (f := 66) rfl ?_); refine goesL_ (some 9) rfl rfl Try.func66 (by kernel_rfl) rfl #[.slice A0 l0.length c0, .string a1] rfl (by (try simp only [List.map_toArray, List.map_cons, List.map_nil]); first | done | rfl | (simp only [lD, lT]; rfl)) ?_; (with_reducible refine (rundleref08_Find.calls k _ _ l0 a1 t351 _ ?side1 ?side2 A3.out).mono ?_); (case side1 => repeat (first | exact HR0.out | (with_reducible refine Kd.C_alloc ?_ _) | (with_reducible refine Kd.C_drewN ?_ _) | (with_reducible refine Kd.C_drew ?_))); (case side2 => exact HC0.out); rintro e w' ⟨rfl, ⟨nd, rfl⟩⟩; refine ⟨_, rfl, ?_⟩; have p352 : 0 ≤ (t351 : Int) := oT (by first | (with_reducible assumption) | assumption); have q352 : t351 < (l0.length : Int) := oT (by first | (with_reducible assumption) | assumption); obtain ⟨ad352, e352, hx352_0, hx352_1, hx352_2⟩ := at_T62 HR0.out t351 p352 q352; (try rw [← Nbq7.out] at hx352_2); cases e352; replace p352 := eq_true p352; replace q352 := eq_true q352; have p353 : 0 ≤ (t351 : Int) := oT (by first | (with_reducible assumption) | assumption); have q353 : t351 < (l0.length : Int) := oT (by first | (with_reducible assumption) | assumption); obtain ⟨ad353, e353, hx353_0, hx353_1, hx353_2⟩ := at_T62 HR0.out t351 p353 q353; (try rw [← Nbq7.out] at hx353_2); obtain rfl : ad352 = ad353 := (by injection e353); replace p353 := eq_true p353; replace q353 := eq_true q353))
     go_ret2
     exact ⟨by first | rfl | (simp; done) | (simp [*]; done), by repeat (first | exact Drawn0.refl _ | apply Drawn0.step)⟩
   ·
    rw [if_neg c6] at H
    exact absurd H (by simp)
  ·
   rw [if_neg c5] at H
   exact absurd H (by simp)
/-! ### rundleref08_Live: function 27 -/
def rundleref08_Live.l0 : Nat → List (S62) → List (S62) → Int → Option ((List (S62)))
 | 0, _, _, _ => none
 | k + 1, x0, x3, x4 => if x4 < (x0.length : Int) then (if 0 ≤ x4 then (if ((rd_T62 x0 x4).f2 = true) then (rundleref08_Live.l0 k x0 x3 (wrap64 (x4 + 1))) else (if x3.length < 3518437208883 then (rundleref08_Live.l0 k x0 (x3 ++ [(⟨(rd_T62 x0 x4).f0, (rd_T62 x0 x4).f1, (rd_T62 x0 x4).f2⟩ : S62)]) (wrap64 (x4 + 1))) else (none))) else (none)) else (some x3)
def rundleref08_Live.f (k : Nat) (l0 : List (S62)) : Option ((List (S62))) := rundleref08_Live.l0 k l0 ([] : List (S62)) 0
set_option maxHeartbeats 8000000 in
set_option maxRecDepth 100000 in
theorem rundleref08_Live.calls (k : Nat) (A0 : Option Addr) (c0 : Nat) (l0 : List (S62)) (r : List (S62)) (w : World) (hr0 : Kd.C k62 w A0 l0.length l0) (hc0 : l0.length ≤ c0) (h : rundleref08_Live.f k l0 = some r) :
  Calls Try.prog 27 #[.slice A0 l0.length c0] w fun e w' => ∃ v0_ : Value, e = .returned (v0_) ∧ Kd.R k62 62 w' w.heap.size (fun _ => True) v0_ r ∧ Below w.heap.size w w' := by
 have hu62 := Try.underlying62
 have HR0 := K0 hr0
 have HC0 := K0 hc0
 clear hr0 hc0
 have HB := K0 (Below.refl w.heap.size w)
 have H : (rundleref08_Live.l0 k l0 ([] : List (S62)) 0) = some r := h
 clear h
 have H' := K0 H
 clear H
 go_enter Try.func27, Try.ntmps27
 go_wp2
 go_loopg [3, 4] k (fun kq v3 v4 w' => ∃ (x3_1 : List (S62)) (x4_1 : Int), v4 = .int .i64 x4_1 ∧ Aside0 (rundleref08_Live.l0 kq l0 x3_1 x4_1 = some r) ∧ Aside0 (kq ≤ k) ∧ Aside0 (Kd.R k62 62 w' w.heap.size (fun _ => True) v3 x3_1) ∧ Aside0 (Below w.heap.size w w'))
 case atStart => exact ⟨(([] : List (S62))), (0), (by first | rfl | (simp; done) | (simp [*]; done)), H', ⟨Nat.le_refl _⟩, ⟨by first | exact Kd.R_nil _ _ _ _ _ | exact Kd.N_nil _ _ _ _ _ | exact Kd.V_nil _ _ _ _ _ | exact Kd.Q_nil _ _ _ _ _ | exact Kd.S_nil _ _ _ _ _⟩, ⟨by repeat (first | (with_reducible first | exact HB.out | apply wA | apply wN | apply wD) | exact HB.out)⟩⟩
 case round =>
  clear H'
  obtain ⟨x3_1, x4_1, rfl, HA, HK1, HO_3, HB⟩ := hrel
  cases gk with
  | zero => exact absurd HA.out (by simp [rundleref08_Live.l0])
  | succ k1 =>
   have H := HA.out
   clear HA
   simp only [rundleref08_Live.l0] at H
   by_cases c2 : x4_1 < (l0.length : Int)
   ·
    rw [if_pos c2] at H
    have c2b0 : decide (x4_1 < (l0.length : Int)) = true := dT c2
    clear c2
    by_cases c3 : 0 ≤ x4_1
    ·
     rw [if_pos c3] at H
     have c3b0 : decide (0 ≤ x4_1) = true := dT c3
     clear c3
     obtain ⟨bq4, hbq4⟩ : ∃ b_ : Bool, b_ = ((rd_T62 l0 x4_1).f2) := ⟨_, rfl⟩
     replace H : (if (bq4 = true) then (rundleref08_Live.l0 k1 l0 x3_1 (wrap64 (x4_1 + 1))) else (if x3_1.length < 3518437208883 then (rundleref08_Live.l0 k1 l0 (x3_1 ++ [(⟨(rd_T62 l0 x4_1).f0, (rd_T62 l0 x4_1).f1, bq4⟩ : S62)]) (wrap64 (x4_1 + 1))) else (none))) = some r := by rw [← hbq4] at H; exact H
     have Nbq4 := K0 hbq4
     clear hbq4
     by_cases c5 : (bq4 = true)
     ·
      subst c5
      have H1 : (rundleref08_Live.l0 k1 l0 x3_1 (wrap64 (x4_1 + 1))) = some r := by rw [if_pos rfl] at H; exact H
      clear H
      have H := H1
      clear H1
      have H' := K0 H
      clear H
      have p354 : 0 ≤ (x4_1 : Int) := oT (by first | (with_reducible assumption) | assumption)
      have q354 : x4_1 < (l0.length : Int) := oT (by first | (with_reducible assumption) | assumption)
      obtain ⟨ad354, e354, hx354_0, hx354_1, hx354_2⟩ := at_T62 HR0.out x4_1 p354 q354
      (try rw [← Nbq4.out] at hx354_2)
      cases e354
      replace hx354_0 := (HB.out.cell (bL w _ hx354_0)).trans hx354_0
      replace hx354_1 := (HB.out.cell (bL w _ hx354_1)).trans hx354_1
      replace hx354_2 := (HB.out.cell (bL w _ hx354_2)).trans hx354_2
      replace p354 := eq_true p354
      replace q354 := eq_true q354
      go_wp2
      go_roundg k1
      case measure => have := HK1.out; omega
      case rel => exact ⟨(x3_1), (wrap64 (x4_1 + 1)), (by first | rfl | (simp; done) | (simp [*]; done)), H', ⟨by have := HK1.out; omega⟩, ⟨by (with_reducible repeat (first | apply rA | apply rN | apply rD)); exact HO_3.out⟩, ⟨by repeat (first | (with_reducible first | exact HB.out | apply wA | apply wN | apply wD) | exact HB.out)⟩⟩
     ·
      replace c5 := Bool.eq_false_iff.mpr c5
      subst c5
      have H1 : (if x3_1.length < 3518437208883 then (rundleref08_Live.l0 k1 l0 (x3_1 ++ [(⟨(rd_T62 l0 x4_1).f0, (rd_T62 l0 x4_1).f1, false⟩ : S62)]) (wrap64 (x4_1 + 1))) else (none)) = some r := by rw [if_neg (show ¬ (false = true) by decide)] at H; exact H
      clear H
      have H := H1
      clear H1
      by_cases c6 : x3_1.length < 3518437208883
      ·
       rw [if_pos c6] at H
       have LMc6 := K0 c6
       clear c6
       obtain ⟨y356, hy356⟩ : ∃ y_ : List (S62), y_ = (x3_1 ++ [(⟨(rd_T62 l0 x4_1).f0, (rd_T62 l0 x4_1).f1, false⟩ : S62)]) := ⟨_, rfl⟩
       replace H : (rundleref08_Live.l0 k1 l0 y356 (wrap64 (x4_1 + 1))) = some r := by first | (rw [hy356]; with_reducible exact H) | (have H2_ := (Option.bind_some _ _).symm.trans H; rw [hy356]; with_reducible exact H2_) | (have H2_ := (Option.bind_some _ _).symm.trans H; with_reducible exact H2_) | with_reducible exact H | (rw [hy356]; exact H) | exact H
       have Ny356 := K0 hy356
       clear hy356
       have H' := K0 H
       clear H
       have p354 : 0 ≤ (x4_1 : Int) := oT (by first | (with_reducible assumption) | assumption)
       have q354 : x4_1 < (l0.length : Int) := oT (by first | (with_reducible assumption) | assumption)
       obtain ⟨ad354, e354, hx354_0, hx354_1, hx354_2⟩ := at_T62 HR0.out x4_1 p354 q354
       (try rw [← Nbq4.out] at hx354_2)
       cases e354
       replace hx354_0 := (HB.out.cell (bL w _ hx354_0)).trans hx354_0
       replace hx354_1 := (HB.out.cell (bL w _ hx354_1)).trans hx354_1
       replace hx354_2 := (HB.out.cell (bL w _ hx354_2)).trans hx354_2
       replace p354 := eq_true p354
       replace q354 := eq_true q354
       have p355 : 0 ≤ (x4_1 : Int) := oT (by first | (with_reducible assumption) | assumption)
       have q355 : x4_1 < (l0.length : Int) := oT (by first | (with_reducible assumption) | assumption)
       obtain ⟨ad355, e355, hx355_0, hx355_1, hx355_2⟩ := at_T62 HR0.out x4_1 p355 q355
       (try rw [← Nbq4.out] at hx355_2)
       obtain rfl : ad354 = ad355 := (by injection e355)
       replace hx355_0 := (HB.out.cell (bL w _ hx355_0)).trans hx355_0
       replace hx355_1 := (HB.out.cell (bL w _ hx355_1)).trans hx355_1
       replace hx355_2 := (HB.out.cell (bL w _ hx355_2)).trans hx355_2
       replace p355 := eq_true p355
       replace q355 := eq_true q355
       go_wp2_with (first | ((with_reducible refine gate_builtin (b := .append) (xs := #[.tmp 17, .tmp 22]) rfl ?_); at_builtin; refine Kd.R_append k62 (w0 := w) w.heap.size rfl (.tmp 17) (.tmp 22) 24 62 (.agg #[(.string ⟨#[]⟩), (.string ⟨#[]⟩), (.bool false)]) 40 rfl Try.underlying24 info62 rfl (by decide) (by omega) u3 x3_1 (⟨(rd_T62 l0 x4_1).f0, (rd_T62 l0 x4_1).f1, false⟩ : S62) [.string ((rd_T62 l0 x4_1).f0), .string ((rd_T62 l0 x4_1).f1), .bool false] (fun _ => True) (fun _ => False) rfl rfl ?aP (fun _ hk => hk.elim) ?aF ?aO ?aB ?aS ?aL ?_; (case aP => exact k62_mkM _ _ _ (⟨(rd_T62 l0 x4_1).f0, (rd_T62 l0 x4_1).f1, false⟩ : S62)); (case aB => exact (by repeat (first | (with_reducible first | exact HB.out | apply wA | apply wN | apply wD) | exact HB.out))); (case aF => exact (fun _ _ => trivial)); (case aO => exact (by (with_reducible repeat (first | apply rA | apply rN | apply rD)); exact HO_3.out)); (case aS => exact (below_size (by repeat (first | (with_reducible first | exact HB.out | apply wA | apply wN | apply wD) | exact HB.out)))); (case aL => have := LMc6.out; omega); intro v357 w7 ho hb hg hat; rw [← Ny356.out] at ho; have n0_ := K0 (hb); have n1_ := K0 (ho); clear HB; clear HO_3; have HB := n0_; have HO358 := n1_; clear n0_ n1_; clear ho hb hg hat))
       go_roundg k1
       case measure => have := HK1.out; omega
       case rel => exact ⟨(y356), (wrap64 (x4_1 + 1)), (by first | rfl | (simp; done) | (simp [*]; done)), H', ⟨by have := HK1.out; omega⟩, ⟨by (with_reducible repeat (first | apply rA | apply rN | apply rD)); exact HO358.out⟩, ⟨by repeat (first | (with_reducible first | exact HB.out | apply wA | apply wN | apply wD) | exact HB.out)⟩⟩
      ·
       rw [if_neg c6] at H
       exact absurd H (by simp)
    ·
     rw [if_neg c3] at H
     exact absurd H (by simp)
   ·
    rw [if_neg c2] at H
    have c2b0 : decide (x4_1 < (l0.length : Int)) = false := dF c2
    clear c2
    obtain rfl := Option.some.inj H
    go_wp2
    go_ret
    exact ⟨_, by first | rfl | (simp [errW_none, errW_some] <;> rfl) | (simp [*, errW_none, errW_some] <;> rfl), by (with_reducible repeat (first | apply rA | apply rN | apply rD)); exact HO_3.out, by repeat (first | (with_reducible first | exact HB.out | apply wA | apply wN | apply wD) | exact HB.out)⟩
/-! ### rundlelaw08_Pairs: function 28 -/
def rundlelaw08_Pairs.l0 : Nat → List (S129) → List (S130) → Int → Option (Int)
 | 0, _, _, _ => none
 | k + 1, x0, x1, x5 => if x5 < (x0.length : Int) then (if 0 ≤ x5 then (if x5 < (x1.length : Int) then (if ((rd_T129 x0 x5).f0).toList = ((rd_T130 x1 x5).f0).toList then (if ((rd_T129 x0 x5).f1).toList = ((rd_T130 x1 x5).f1).toList then (rundlelaw08_Pairs.l0 k x0 x1 (wrap64 (x5 + 1))) else (some 0)) else (some 0)) else (none)) else (none)) else (some 1)
def rundlelaw08_Pairs.f (k : Nat) (l0 : List (S129)) (l1 : List (S130)) : Option (Int) := if (l0.length : Int) = (l1.length : Int) then (rundlelaw08_Pairs.l0 k l0 l1 0) else (some 0)
set_option maxHeartbeats 8000000 in
set_option maxRecDepth 100000 in
theorem rundlelaw08_Pairs.calls (k : Nat) (A0 : Option Addr) (c0 : Nat) (l0 : List (S129)) (A1 : Option Addr) (c1 : Nat) (l1 : List (S130)) (r : Int) (w : World) (hr0 : Kd.C k129 w A0 l0.length l0) (hc0 : l0.length ≤ c0) (hr1 : Kd.C k130 w A1 l1.length l1) (hc1 : l1.length ≤ c1) (h : rundlelaw08_Pairs.f k l0 l1 = some r) :
  Calls Try.prog 28 #[.slice A0 l0.length c0, .slice A1 l1.length c1] w fun e w' => e = .returned (.int .i64 r) ∧ Drawn0 w w' := by
 have HR0 := K0 hr0
 have HC0 := K0 hc0
 clear hr0 hc0
 have HR1 := K0 hr1
 have HC1 := K0 hc1
 clear hr1 hc1
 have H : (if (l0.length : Int) = (l1.length : Int) then (rundlelaw08_Pairs.l0 k l0 l1 0) else (some 0)) = some r := h
 clear h
 by_cases c3 : (l0.length : Int) = (l1.length : Int)
 ·
  rw [if_pos c3] at H
  have c3b0 : ((l0.length : Int) == (l1.length : Int)) = true := beq_iff_eq.mpr c3
  have c3b1 : ((l0.length : Int) != (l1.length : Int)) = false := bne_eq_false_iff_eq.mpr c3
  have c3b2 : (l0.length == l1.length) = true := by first | simpa using c3 | (simp at c3 ⊢; omega)
  clear c3
  have H' := K0 H
  clear H
  go_enter Try.func28, Try.ntmps28
  go_wp2
  repeat (go_quiet (fail); try go_wp2)
  go_loopg [5] k (fun kq v5 w' => ∃ (x5_1 : Int), v5 = .int .i64 x5_1 ∧ Aside0 (rundlelaw08_Pairs.l0 kq l0 l1 x5_1 = some r) ∧ Aside0 (kq ≤ k) ∧ Drawn0 w w')
  case atStart => exact ⟨(0), (by first | rfl | (simp; done) | (simp [*]; done)), H', ⟨Nat.le_refl _⟩, by repeat (first | exact Drawn0.refl _ | apply Drawn0.step)⟩
  case round =>
   clear H'
   try clear c1
   try clear c2
   try clear p2
   try clear c3
   try clear c3b0
   try clear c3b1
   try clear c3b2
   obtain ⟨x5_1, rfl, HA, HK1, ⟨m1, rfl⟩⟩ := hrel
   cases gk with
   | zero => exact absurd HA.out (by simp [rundlelaw08_Pairs.l0])
   | succ k1 =>
    have H := HA.out
    clear HA
    simp only [rundlelaw08_Pairs.l0] at H
    by_cases c4 : x5_1 < (l0.length : Int)
    ·
     rw [if_pos c4] at H
     have c4b0 : decide (x5_1 < (l0.length : Int)) = true := dT c4
     clear c4
     by_cases c5 : 0 ≤ x5_1
     ·
      rw [if_pos c5] at H
      have c5b0 : decide (0 ≤ x5_1) = true := dT c5
      clear c5
      by_cases c6 : x5_1 < (l1.length : Int)
      ·
       rw [if_pos c6] at H
       have c6b0 : decide (x5_1 < (l1.length : Int)) = true := dT c6
       clear c6
       by_cases c7 : ((rd_T129 l0 x5_1).f0).toList = ((rd_T130 l1 x5_1).f0).toList
       ·
        rw [if_pos c7] at H
        have c7b0 : (((rd_T129 l0 x5_1).f0).toList == ((rd_T130 l1 x5_1).f0).toList) = true := beq_iff_eq.mpr c7
        have c7b1 : (((rd_T129 l0 x5_1).f0).toList != ((rd_T130 l1 x5_1).f0).toList) = false := bne_eq_false_iff_eq.mpr c7
        clear c7
        by_cases c8 : ((rd_T129 l0 x5_1).f1).toList = ((rd_T130 l1 x5_1).f1).toList
        ·
         rw [if_pos c8] at H
         have c8b0 : (((rd_T129 l0 x5_1).f1).toList == ((rd_T130 l1 x5_1).f1).toList) = true := beq_iff_eq.mpr c8
         have c8b1 : (((rd_T129 l0 x5_1).f1).toList != ((rd_T130 l1 x5_1).f1).toList) = false := bne_eq_false_iff_eq.mpr c8
         clear c8
         have H' := K0 H
         clear H
         have p359 : 0 ≤ (x5_1 : Int) := oT (by first | (with_reducible assumption) | assumption)
         have q359 : x5_1 < (l0.length : Int) := oT (by first | (with_reducible assumption) | assumption)
         obtain ⟨ad359, e359, hx359_0, hx359_1⟩ := at_T129 HR0.out x5_1 p359 q359
         cases e359
         replace p359 := eq_true p359
         replace q359 := eq_true q359
         have p360 : 0 ≤ (x5_1 : Int) := oT (by first | (with_reducible assumption) | assumption)
         have q360 : x5_1 < (l1.length : Int) := oT (by first | (with_reducible assumption) | assumption)
         obtain ⟨ad360, e360, hx360_0, hx360_1⟩ := at_T130 HR1.out x5_1 p360 q360
         cases e360
         replace p360 := eq_true p360
         replace q360 := eq_true q360
         have p361 : 0 ≤ (x5_1 : Int) := oT (by first | (with_reducible assumption) | assumption)
         have q361 : x5_1 < (l0.length : Int) := oT (by first | (with_reducible assumption) | assumption)
         obtain ⟨ad361, e361, hx361_0, hx361_1⟩ := at_T129 HR0.out x5_1 p361 q361
         obtain rfl : ad359 = ad361 := (by injection e361)
         replace p361 := eq_true p361
         replace q361 := eq_true q361
         have p362 : 0 ≤ (x5_1 : Int) := oT (by first | (with_reducible assumption) | assumption)
         have q362 : x5_1 < (l1.length : Int) := oT (by first | (with_reducible assumption) | assumption)
         obtain ⟨ad362, e362, hx362_0, hx362_1⟩ := at_T130 HR1.out x5_1 p362 q362
         obtain rfl : ad360 = ad362 := (by injection e362)
         replace p362 := eq_true p362
         replace q362 := eq_true q362
         go_wp2
         repeat (go_quiet (fail); try go_wp2)
         go_roundg k1
         case measure => have := HK1.out; omega
         case rel => exact ⟨(wrap64 (x5_1 + 1)), (by first | rfl | (simp; done) | (simp [*]; done)), H', ⟨by have := HK1.out; omega⟩, by repeat (first | exact Drawn0.refl _ | apply Drawn0.step)⟩
        ·
         rw [if_neg c8] at H
         have c8b0 : (((rd_T129 l0 x5_1).f1).toList == ((rd_T130 l1 x5_1).f1).toList) = false := beq_eq_false_iff_ne.mpr c8
         have c8b1 : (((rd_T129 l0 x5_1).f1).toList != ((rd_T130 l1 x5_1).f1).toList) = true := bne_iff_ne.mpr c8
         obtain rfl := Option.some.inj H
         have p359 : 0 ≤ (x5_1 : Int) := oT (by first | (with_reducible assumption) | assumption)
         have q359 : x5_1 < (l0.length : Int) := oT (by first | (with_reducible assumption) | assumption)
         obtain ⟨ad359, e359, hx359_0, hx359_1⟩ := at_T129 HR0.out x5_1 p359 q359
         cases e359
         replace p359 := eq_true p359
         replace q359 := eq_true q359
         have p360 : 0 ≤ (x5_1 : Int) := oT (by first | (with_reducible assumption) | assumption)
         have q360 : x5_1 < (l1.length : Int) := oT (by first | (with_reducible assumption) | assumption)
         obtain ⟨ad360, e360, hx360_0, hx360_1⟩ := at_T130 HR1.out x5_1 p360 q360
         cases e360
         replace p360 := eq_true p360
         replace q360 := eq_true q360
         have p361 : 0 ≤ (x5_1 : Int) := oT (by first | (with_reducible assumption) | assumption)
         have q361 : x5_1 < (l0.length : Int) := oT (by first | (with_reducible assumption) | assumption)
         obtain ⟨ad361, e361, hx361_0, hx361_1⟩ := at_T129 HR0.out x5_1 p361 q361
         obtain rfl : ad359 = ad361 := (by injection e361)
         replace p361 := eq_true p361
         replace q361 := eq_true q361
         have p362 : 0 ≤ (x5_1 : Int) := oT (by first | (with_reducible assumption) | assumption)
         have q362 : x5_1 < (l1.length : Int) := oT (by first | (with_reducible assumption) | assumption)
         obtain ⟨ad362, e362, hx362_0, hx362_1⟩ := at_T130 HR1.out x5_1 p362 q362
         obtain rfl : ad360 = ad362 := (by injection e362)
         replace p362 := eq_true p362
         replace q362 := eq_true q362
         go_wp2
         repeat (go_quiet (fail); try go_wp2)
         go_ret
         exact ⟨by first | rfl | (simp; done) | (simp [*]; done), by repeat (first | exact Drawn0.refl _ | apply Drawn0.step)⟩
       ·
        rw [if_neg c7] at H
        have c7b0 : (((rd_T129 l0 x5_1).f0).toList == ((rd_T130 l1 x5_1).f0).toList) = false := beq_eq_false_iff_ne.mpr c7
        have c7b1 : (((rd_T129 l0 x5_1).f0).toList != ((rd_T130 l1 x5_1).f0).toList) = true := bne_iff_ne.mpr c7
        obtain rfl := Option.some.inj H
        have p359 : 0 ≤ (x5_1 : Int) := oT (by first | (with_reducible assumption) | assumption)
        have q359 : x5_1 < (l0.length : Int) := oT (by first | (with_reducible assumption) | assumption)
        obtain ⟨ad359, e359, hx359_0, hx359_1⟩ := at_T129 HR0.out x5_1 p359 q359
        cases e359
        replace p359 := eq_true p359
        replace q359 := eq_true q359
        have p360 : 0 ≤ (x5_1 : Int) := oT (by first | (with_reducible assumption) | assumption)
        have q360 : x5_1 < (l1.length : Int) := oT (by first | (with_reducible assumption) | assumption)
        obtain ⟨ad360, e360, hx360_0, hx360_1⟩ := at_T130 HR1.out x5_1 p360 q360
        cases e360
        replace p360 := eq_true p360
        replace q360 := eq_true q360
        go_wp2
        repeat (go_quiet (fail); try go_wp2)
        go_ret
        exact ⟨by first | rfl | (simp; done) | (simp [*]; done), by repeat (first | exact Drawn0.refl _ | apply Drawn0.step)⟩
      ·
       rw [if_neg c6] at H
       exact absurd H (by simp)
     ·
      rw [if_neg c5] at H
      exact absurd H (by simp)
    ·
     rw [if_neg c4] at H
     have c4b0 : decide (x5_1 < (l0.length : Int)) = false := dF c4
     clear c4
     obtain rfl := Option.some.inj H
     go_wp2
     repeat (go_quiet (fail); try go_wp2)
     go_ret
     exact ⟨by first | rfl | (simp; done) | (simp [*]; done), by repeat (first | exact Drawn0.refl _ | apply Drawn0.step)⟩
 ·
  rw [if_neg c3] at H
  have c3b0 : ((l0.length : Int) == (l1.length : Int)) = false := beq_eq_false_iff_ne.mpr c3
  have c3b1 : ((l0.length : Int) != (l1.length : Int)) = true := bne_iff_ne.mpr c3
  have c3b2 : (l0.length == l1.length) = false := by first | simpa using c3 | (simp at c3 ⊢; omega)
  obtain rfl := Option.some.inj H
  go_enter Try.func28, Try.ntmps28
  go_wp2
  repeat (go_quiet (fail); try go_wp2)
  go_ret
  exact ⟨by first | rfl | (simp; done) | (simp [*]; done), by repeat (first | exact Drawn0.refl _ | apply Drawn0.step)⟩
/-! ### rev_Pairs: function 29 -/
def rev_Pairs.l0 : Nat → Int → List (S129) → List ByteArray → Int → Int → Int → Int → ByteArray → ByteArray → Bool → Bool → List ByteArray → List ByteArray → List Bool → List Int → ByteArray → ByteArray → Bool → Option ((List (S129)))
 | 0, _, _, _, _, _, _, _, _, _, _, _, _, _, _, _, _, _, _ => none
 | k + 1, x2, x7, x11, x12, x13, x364000, x364001, x364002, x364003, x364004, x364005, x364006, x364007, x364008, x364009, x365000, x365001, x365002 => if x13 < x12 then (if 0 ≤ x13 then (if x13 < (x11.length : Int) then (if (x7.length : Int) ≥ x2 then (some x7) else (if x13 < (x364008.length : Int) then (if rdOf false x364008 x13 = true then (rev_Pairs.l0 k x2 x7 x11 x12 (wrap64 (x13 + 1)) x364000 x364001 x364002 x364003 x364004 x364005 x364006 x364007 x364008 x364009 x365000 x365001 x365002) else ((key_Has.f x365000 x365001 x365002 (rdOf ByteArray.empty x11 x13)).bind fun t367 => (if t367 = true then (if x13 < (x364007.length : Int) then (if x7.length < 4398046511104 then (rev_Pairs.l0 k x2 (x7 ++ [(⟨rdOf ByteArray.empty x11 x13, rdOf ByteArray.empty x364007 x13⟩ : S129)]) x11 x12 (wrap64 (x13 + 1)) x364000 x364001 x364002 x364003 x364004 x364005 x364006 x364007 x364008 x364009 x365000 x365001 x365002) else (none)) else (none)) else (rev_Pairs.l0 k x2 x7 x11 x12 (wrap64 (x13 + 1)) x364000 x364001 x364002 x364003 x364004 x364005 x364006 x364007 x364008 x364009 x365000 x365001 x365002)))) else (none))) else (none)) else (none)) else (some x7)
def rev_Pairs.f (k : Nat) (a0_0 : Int) (a0_1 : Int) (a0_2 : ByteArray) (a0_3 : ByteArray) (a0_4 : Bool) (a0_5 : Bool) (l0_6 : List ByteArray) (l0_7 : List ByteArray) (l0_8 : List Bool) (l0_9 : List Int) (a1_0 : ByteArray) (a1_1 : ByteArray) (a1_2 : Bool) (a2 : Int) : Option ((List (S129))) := rev_Pairs.l0 k a2 ([] : List (S129)) l0_6 (l0_6.length : Int) 0 a0_0 a0_1 a0_2 a0_3 a0_4 a0_5 l0_6 l0_7 l0_8 l0_9 a1_0 a1_1 a1_2
set_option maxHeartbeats 8000000 in
set_option maxRecDepth 100000 in
theorem rev_Pairs.calls (k : Nat) (a0_0 : Int) (a0_1 : Int) (a0_2 : ByteArray) (a0_3 : ByteArray) (a0_4 : Bool) (a0_5 : Bool) (A0_6 : Option Addr) (c0_6 : Nat) (l0_6 : List ByteArray) (A0_7 : Option Addr) (c0_7 : Nat) (l0_7 : List ByteArray) (A0_8 : Option Addr) (c0_8 : Nat) (l0_8 : List Bool) (A0_9 : Option Addr) (c0_9 : Nat) (l0_9 : List Int) (a1_0 : ByteArray) (a1_1 : ByteArray) (a1_2 : Bool) (a2 : Int) (r : List (S129)) (w : World) (hr0_6 : Kd.C Kd.string w A0_6 l0_6.length l0_6) (hc0_6 : l0_6.length ≤ c0_6) (hr0_7 : Kd.C Kd.string w A0_7 l0_7.length l0_7) (hc0_7 : l0_7.length ≤ c0_7) (hr0_8 : Kd.C Kd.bool w A0_8 l0_8.length l0_8) (hc0_8 : l0_8.length ≤ c0_8) (hr0_9 : Kd.C (Kd.int .i64) w A0_9 l0_9.length l0_9) (hc0_9 : l0_9.length ≤ c0_9) (h : rev_Pairs.f k a0_0 a0_1 a0_2 a0_3 a0_4 a0_5 l0_6 l0_7 l0_8 l0_9 a1_0 a1_1 a1_2 a2 = some r) :
  Calls Try.prog 29 #[.agg #[.int .i64 a0_0, .int .i64 a0_1, .string a0_2, .string a0_3, .bool a0_4, .bool a0_5, .slice A0_6 l0_6.length c0_6, .slice A0_7 l0_7.length c0_7, .slice A0_8 l0_8.length c0_8, .slice A0_9 l0_9.length c0_9], .agg #[.string a1_0, .string a1_1, .bool a1_2], .int .i64 a2] w fun e w' => ∃ v0_ : Value, e = .returned (v0_) ∧ Kd.R k129 129 w' w.heap.size (fun _ => True) v0_ r ∧ Below w.heap.size w w' := by
 have hu37 := Try.underlying37
 have hu32 := Try.underlying32
 have hu129 := Try.underlying129
 have HR0_6 := K0 hr0_6
 have HC0_6 := K0 hc0_6
 clear hr0_6 hc0_6
 have HR0_7 := K0 hr0_7
 have HC0_7 := K0 hc0_7
 clear hr0_7 hc0_7
 have HR0_8 := K0 hr0_8
 have HC0_8 := K0 hc0_8
 clear hr0_8 hc0_8
 have HR0_9 := K0 hr0_9
 have HC0_9 := K0 hc0_9
 clear hr0_9 hc0_9
 have HB := K0 (Below.refl w.heap.size w)
 have H : (rev_Pairs.l0 k a2 ([] : List (S129)) l0_6 (l0_6.length : Int) 0 a0_0 a0_1 a0_2 a0_3 a0_4 a0_5 l0_6 l0_7 l0_8 l0_9 a1_0 a1_1 a1_2) = some r := h
 clear h
 have H' := K0 H
 clear H
 go_enter Try.func29, Try.ntmps29
 go_wp2_with (first | ((with_reducible refine gate_dst (N := 3) rfl ?_); refine box_event ?hg (N := 3) ?hd (cs := #[.int .i64 a0_0, .int .i64 a0_1, .string a0_2, .string a0_3, .bool a0_4, .bool a0_5, .slice A0_6 l0_6.length c0_6, .slice A0_7 l0_7.length c0_7, .slice A0_8 l0_8.length c0_8, .slice A0_9 l0_9.length c0_9]) (t := 37) ?hr ?_; (case hd => rfl); (case hg => rfl); (case hr => first | (go_simp; done) | (go_simp; rfl)); intro gb363 hg w4 hbox hb; have n0_ := K0 (below_step (by repeat (first | (with_reducible first | exact HB.out | apply wA | apply wN | apply wD) | exact HB.out)) hb); have n1_ := K0 (hbox); have n2_ := K0 ((by rw [hg]; exact (below_size (by repeat (first | (with_reducible first | exact HB.out | apply wA | apply wN | apply wD) | exact HB.out))) : w.heap.size ≤ gb363)); have n3_ := K0 ((by rw [hg]; exact (below_size (by repeat (first | (with_reducible first | exact HB.out | apply wA | apply wN | apply wD) | exact HB.out))) : w.heap.size ≤ gb363)); clear HB; have HB := n0_; have BK363 := n1_; have GW363 := n2_; have GE363 := n3_; clear n0_ n1_ n2_ n3_; clear hb hbox hg) | ((with_reducible refine gate_dst (N := 4) rfl ?_); refine box_event ?hg (N := 4) ?hd (cs := #[.string a1_0, .string a1_1, .bool a1_2]) (t := 32) ?hr ?_; (case hd => rfl); (case hg => rfl); (case hr => first | (go_simp; done) | (go_simp; rfl)); intro gb364 hg w5 hbox hb; have n0_ := K0 (bB (g := gb363) (o := .cells #[.int .i64 a0_0, .int .i64 a0_1, .string a0_2, .string a0_3, .bool a0_4, .bool a0_5, .slice A0_6 l0_6.length c0_6, .slice A0_7 l0_7.length c0_7, .slice A0_8 l0_8.length c0_8, .slice A0_9 l0_9.length c0_9] 37 (0, 0)) (by (with_reducible repeat (first | refine bN ?_ _ | refine bD ?_ | refine bA ?_ _)); exact BK363.out) hb); have n1_ := K0 (below_step (by repeat (first | (with_reducible first | exact HB.out | apply wA | apply wN | apply wD | refine wS ?_ GE363.out) | exact HB.out)) hb); have n2_ := K0 (hbox); have n3_ := K0 ((by rw [hg]; exact (below_size (by repeat (first | (with_reducible first | exact HB.out | apply wA | apply wN | apply wD | refine wS ?_ GE363.out) | exact HB.out))) : w.heap.size ≤ gb364)); have n4_ := K0 ((by rw [hg]; exact (below_size (by repeat (first | (with_reducible first | exact HB.out | apply wA | apply wN | apply wD | refine wS ?_ GE363.out) | exact HB.out))) : w.heap.size ≤ gb364)); have n5_ := K0 ((by rw [hg]; exact Nat.ne_of_lt (blk_lt (g := gb363) (o := .cells #[.int .i64 a0_0, .int .i64 a0_1, .string a0_2, .string a0_3, .bool a0_4, .bool a0_5, .slice A0_6 l0_6.length c0_6, .slice A0_7 l0_7.length c0_7, .slice A0_8 l0_8.length c0_8, .slice A0_9 l0_9.length c0_9] 37 (0, 0)) (by (with_reducible repeat (first | refine bN ?_ _ | refine bD ?_ | refine bA ?_ _)); exact BK363.out)) : gb363 ≠ gb364)); have n6_ := K0 ((by rw [hg]; exact Nat.ne_of_gt (blk_lt (g := gb363) (o := .cells #[.int .i64 a0_0, .int .i64 a0_1, .string a0_2, .string a0_3, .bool a0_4, .bool a0_5, .slice A0_6 l0_6.length c0_6, .slice A0_7 l0_7.length c0_7, .slice A0_8 l0_8.length c0_8, .slice A0_9 l0_9.length c0_9] 37 (0, 0)) (by (with_reducible repeat (first | refine bN ?_ _ | refine bD ?_ | refine bA ?_ _)); exact BK363.out)) : gb364 ≠ gb363)); clear BK363; clear HB; have BK363 := n0_; have HB := n1_; have BK364 := n2_; have GW364 := n3_; have GE364 := n4_; have NB363_364 := n5_; have NB364_363 := n6_; clear n0_ n1_ n2_ n3_ n4_ n5_ n6_; clear hb hbox hg; have hnb6 := NB363_364.out; have hnc6 := NB364_363.out; have hcz7_0 : w5.cell? ⟨gb363, 0, none⟩ = some (.int .i64 a0_0) := (bC BK363.out 0).trans rfl; have hcz7_1 : w5.cell? ⟨gb363, 1, none⟩ = some (.int .i64 a0_1) := (bC BK363.out 1).trans rfl; have hcz7_2 : w5.cell? ⟨gb363, 2, none⟩ = some (.string a0_2) := (bC BK363.out 2).trans rfl; have hcz7_3 : w5.cell? ⟨gb363, 3, none⟩ = some (.string a0_3) := (bC BK363.out 3).trans rfl; have hcz7_4 : w5.cell? ⟨gb363, 4, none⟩ = some (.bool a0_4) := (bC BK363.out 4).trans rfl; have hcz7_5 : w5.cell? ⟨gb363, 5, none⟩ = some (.bool a0_5) := (bC BK363.out 5).trans rfl; have hcz7_6 : w5.cell? ⟨gb363, 6, none⟩ = some (.slice A0_6 l0_6.length c0_6) := (bC BK363.out 6).trans rfl; have hcz7_7 : w5.cell? ⟨gb363, 7, none⟩ = some (.slice A0_7 l0_7.length c0_7) := (bC BK363.out 7).trans rfl; have hcz7_8 : w5.cell? ⟨gb363, 8, none⟩ = some (.slice A0_8 l0_8.length c0_8) := (bC BK363.out 8).trans rfl; have hcz7_9 : w5.cell? ⟨gb363, 9, none⟩ = some (.slice A0_9 l0_9.length c0_9) := (bC BK363.out 9).trans rfl; have hfz7_0 := bF BK363.out 0; have hfz7_1 := bF BK363.out 1; have hfz7_2 := bF BK363.out 2; have hfz7_3 := bF BK363.out 3; have hfz7_4 := bF BK363.out 4; have hfz7_5 := bF BK363.out 5; have hfz7_6 := bF BK363.out 6; have hfz7_7 := bF BK363.out 7; have hfz7_8 := bF BK363.out 8; have hfz7_9 := bF BK363.out 9))
 go_loopg [7, 13] k (fun kq v7 v13 w' => ∃ (x7_1 : List (S129)) (x13_1 : Int), v13 = .int .i64 x13_1 ∧ Aside0 (rev_Pairs.l0 kq a2 x7_1 l0_6 (l0_6.length : Int) x13_1 a0_0 a0_1 a0_2 a0_3 a0_4 a0_5 l0_6 l0_7 l0_8 l0_9 a1_0 a1_1 a1_2 = some r) ∧ Aside0 (kq ≤ k) ∧ Aside0 (Kd.R k129 129 w' w.heap.size (fun _ => True) v7 x7_1) ∧ Aside0 (w'.heap[gb363]? = some (.cells #[.int .i64 a0_0, .int .i64 a0_1, .string a0_2, .string a0_3, .bool a0_4, .bool a0_5, (.slice A0_6 l0_6.length c0_6), (.slice A0_7 l0_7.length c0_7), (.slice A0_8 l0_8.length c0_8), (.slice A0_9 l0_9.length c0_9)] 37 (0, 0))) ∧ Aside0 (w'.heap[gb364]? = some (.cells #[.string a1_0, .string a1_1, .bool a1_2] 32 (0, 0))) ∧ Aside0 (Below w.heap.size w w'))
 case atStart => exact ⟨(([] : List (S129))), (0), (by first | rfl | (simp; done) | (simp [*]; done)), H', ⟨Nat.le_refl _⟩, ⟨by first | exact Kd.R_nil _ _ _ _ _ | exact Kd.N_nil _ _ _ _ _ | exact Kd.V_nil _ _ _ _ _ | exact Kd.Q_nil _ _ _ _ _ | exact Kd.S_nil _ _ _ _ _⟩, ⟨by (with_reducible repeat (first | refine bN ?_ _ | refine bD ?_ | refine bA ?_ _)); exact BK363.out⟩, ⟨by (with_reducible repeat (first | refine bN ?_ _ | refine bD ?_ | refine bA ?_ _)); exact BK364.out⟩, ⟨by repeat (first | (with_reducible first | exact HB.out | apply wA | apply wN | apply wD | refine wS ?_ GE363.out | refine wS ?_ GE364.out) | exact HB.out)⟩⟩
 case round =>
  clear H'
  try clear c2
  try clear p2
  try clear c6
  try clear hcz7_0
  try clear hcz7_1
  try clear hcz7_2
  try clear hcz7_3
  try clear hcz7_4
  try clear hcz7_5
  try clear hcz7_6
  try clear hcz7_7
  try clear hcz7_8
  try clear hcz7_9
  try clear hfz7_0
  try clear hfz7_1
  try clear hfz7_2
  try clear hfz7_3
  try clear hfz7_4
  try clear hfz7_5
  try clear hfz7_6
  try clear hfz7_7
  try clear hfz7_8
  try clear hfz7_9
  obtain ⟨x7_1, x13_1, rfl, HA, HK1, HO_7, BK363, BK364, HB⟩ := hrel
  cases gk with
  | zero => exact absurd HA.out (by simp [rev_Pairs.l0])
  | succ k1 =>
   have H := HA.out
   clear HA
   simp only [rev_Pairs.l0] at H
   by_cases c8 : x13_1 < (l0_6.length : Int)
   ·
    rw [if_pos c8] at H
    have c8b0 : decide (x13_1 < (l0_6.length : Int)) = true := dT c8
    clear c8
    by_cases c9 : 0 ≤ x13_1
    ·
     rw [if_pos c9] at H
     have c9b0 : decide (0 ≤ x13_1) = true := dT c9
     clear c9
     by_cases c10 : x13_1 < (l0_6.length : Int)
     ·
      rw [if_pos c10] at H
      have c10b0 : decide (x13_1 < (l0_6.length : Int)) = true := dT c10
      clear c10
      by_cases c11 : (x7_1.length : Int) ≥ a2
      ·
       rw [if_pos c11] at H
       have c11b0 : decide (a2 ≤ (x7_1.length : Int)) = true := dT c11
       clear c11
       obtain rfl := Option.some.inj H
       have p365 : 0 ≤ (x13_1 : Int) := oT (by first | (with_reducible assumption) | assumption)
       have q365 : x13_1 < (l0_6.length : Int) := oT (by first | (with_reducible assumption) | assumption)
       obtain ⟨ad365, e365, hx365_0⟩ := Kd.at_string HR0_6.out x13_1 p365 q365
       cases e365
       replace hx365_0 := (HB.out.cell (bL w _ hx365_0)).trans hx365_0
       replace p365 := eq_true p365
       replace q365 := eq_true q365
       obtain ⟨Ao12, co12, eo12⟩ := Kd.R_slice HO_7.out
       subst eo12
       go_wp2
       go_ret
       exact ⟨_, by first | rfl | (simp [errW_none, errW_some] <;> rfl) | (simp [*, errW_none, errW_some] <;> rfl), by (with_reducible repeat (first | apply rA | apply rN | apply rD)); exact HO_7.out, by repeat (first | (with_reducible first | exact HB.out | apply wA | apply wN | apply wD | refine wS ?_ GE363.out | refine wS ?_ GE364.out) | exact HB.out)⟩
      ·
       rw [if_neg c11] at H
       have c11b0 : decide (a2 ≤ (x7_1.length : Int)) = false := dF c11
       clear c11
       by_cases c13 : x13_1 < (l0_8.length : Int)
       ·
        rw [if_pos c13] at H
        have c13b0 : decide (x13_1 < (l0_8.length : Int)) = true := dT c13
        clear c13
        obtain ⟨bq14, hbq14⟩ : ∃ b_ : Bool, b_ = (rdOf false l0_8 x13_1) := ⟨_, rfl⟩
        replace H : (if bq14 = true then (rev_Pairs.l0 k1 a2 x7_1 l0_6 (l0_6.length : Int) (wrap64 (x13_1 + 1)) a0_0 a0_1 a0_2 a0_3 a0_4 a0_5 l0_6 l0_7 l0_8 l0_9 a1_0 a1_1 a1_2) else ((key_Has.f a1_0 a1_1 a1_2 (rdOf ByteArray.empty l0_6 x13_1)).bind fun t367 => (if t367 = true then (if x13_1 < (l0_7.length : Int) then (if x7_1.length < 4398046511104 then (rev_Pairs.l0 k1 a2 (x7_1 ++ [(⟨rdOf ByteArray.empty l0_6 x13_1, rdOf ByteArray.empty l0_7 x13_1⟩ : S129)]) l0_6 (l0_6.length : Int) (wrap64 (x13_1 + 1)) a0_0 a0_1 a0_2 a0_3 a0_4 a0_5 l0_6 l0_7 l0_8 l0_9 a1_0 a1_1 a1_2) else (none)) else (none)) else (rev_Pairs.l0 k1 a2 x7_1 l0_6 (l0_6.length : Int) (wrap64 (x13_1 + 1)) a0_0 a0_1 a0_2 a0_3 a0_4 a0_5 l0_6 l0_7 l0_8 l0_9 a1_0 a1_1 a1_2)))) = some r := by rw [← hbq14] at H; exact H
        have Nbq14 := K0 hbq14
        clear hbq14
        by_cases c15 : bq14 = true
        ·
         subst c15
         have H1 : (rev_Pairs.l0 k1 a2 x7_1 l0_6 (l0_6.length : Int) (wrap64 (x13_1 + 1)) a0_0 a0_1 a0_2 a0_3 a0_4 a0_5 l0_6 l0_7 l0_8 l0_9 a1_0 a1_1 a1_2) = some r := by rw [if_pos rfl] at H; exact H
         clear H
         have H := H1
         clear H1
         have H' := K0 H
         clear H
         have p365 : 0 ≤ (x13_1 : Int) := oT (by first | (with_reducible assumption) | assumption)
         have q365 : x13_1 < (l0_6.length : Int) := oT (by first | (with_reducible assumption) | assumption)
         obtain ⟨ad365, e365, hx365_0⟩ := Kd.at_string HR0_6.out x13_1 p365 q365
         cases e365
         replace hx365_0 := (HB.out.cell (bL w _ hx365_0)).trans hx365_0
         replace p365 := eq_true p365
         replace q365 := eq_true q365
         obtain ⟨Ao16, co16, eo16⟩ := Kd.R_slice HO_7.out
         subst eo16
         have hnb17 := NB363_364.out
         have hnc17 := NB364_363.out
         have hcz18_0 : wr.cell? ⟨gb363, 0, none⟩ = some (.int .i64 a0_0) := (bC BK363.out 0).trans rfl
         have hcz18_1 : wr.cell? ⟨gb363, 1, none⟩ = some (.int .i64 a0_1) := (bC BK363.out 1).trans rfl
         have hcz18_2 : wr.cell? ⟨gb363, 2, none⟩ = some (.string a0_2) := (bC BK363.out 2).trans rfl
         have hcz18_3 : wr.cell? ⟨gb363, 3, none⟩ = some (.string a0_3) := (bC BK363.out 3).trans rfl
         have hcz18_4 : wr.cell? ⟨gb363, 4, none⟩ = some (.bool a0_4) := (bC BK363.out 4).trans rfl
         have hcz18_5 : wr.cell? ⟨gb363, 5, none⟩ = some (.bool a0_5) := (bC BK363.out 5).trans rfl
         have hcz18_6 : wr.cell? ⟨gb363, 6, none⟩ = some (.slice (some ad365) l0_6.length c0_6) := (bC BK363.out 6).trans rfl
         have hcz18_7 : wr.cell? ⟨gb363, 7, none⟩ = some (.slice A0_7 l0_7.length c0_7) := (bC BK363.out 7).trans rfl
         have hcz18_8 : wr.cell? ⟨gb363, 8, none⟩ = some (.slice A0_8 l0_8.length c0_8) := (bC BK363.out 8).trans rfl
         have hcz18_9 : wr.cell? ⟨gb363, 9, none⟩ = some (.slice A0_9 l0_9.length c0_9) := (bC BK363.out 9).trans rfl
         have hfz18_0 := bF BK363.out 0
         have hfz18_1 := bF BK363.out 1
         have hfz18_2 := bF BK363.out 2
         have hfz18_3 := bF BK363.out 3
         have hfz18_4 := bF BK363.out 4
         have hfz18_5 := bF BK363.out 5
         have hfz18_6 := bF BK363.out 6
         have hfz18_7 := bF BK363.out 7
         have hfz18_8 := bF BK363.out 8
         have hfz18_9 := bF BK363.out 9
         have p366 : 0 ≤ (x13_1 : Int) := oT (by first | (with_reducible assumption) | assumption)
         have q366 : x13_1 < (l0_8.length : Int) := oT (by first | (with_reducible assumption) | assumption)
         obtain ⟨ad366, e366, hx366_0⟩ := Kd.at_bool HR0_8.out x13_1 p366 q366
         (try rw [← Nbq14.out] at hx366_0)
         cases e366
         replace hx366_0 := (HB.out.cell (bL w _ hx366_0)).trans hx366_0
         replace p366 := eq_true p366
         replace q366 := eq_true q366
         go_wp2
         go_roundg k1
         case measure => have := HK1.out; omega
         case rel => exact ⟨(x7_1), (wrap64 (x13_1 + 1)), (by first | rfl | (simp; done) | (simp [*]; done)), H', ⟨by have := HK1.out; omega⟩, ⟨by (with_reducible repeat (first | apply rA | apply rN | apply rD)); exact HO_7.out⟩, ⟨by (with_reducible repeat (first | refine bN ?_ _ | refine bD ?_ | refine bA ?_ _)); exact BK363.out⟩, ⟨by (with_reducible repeat (first | refine bN ?_ _ | refine bD ?_ | refine bA ?_ _)); exact BK364.out⟩, ⟨by repeat (first | (with_reducible first | exact HB.out | apply wA | apply wN | apply wD | refine wS ?_ GE363.out | refine wS ?_ GE364.out) | exact HB.out)⟩⟩
        ·
         replace c15 := Bool.eq_false_iff.mpr c15
         subst c15
         have H1 : ((key_Has.f a1_0 a1_1 a1_2 (rdOf ByteArray.empty l0_6 x13_1)).bind fun t367 => (if t367 = true then (if x13_1 < (l0_7.length : Int) then (if x7_1.length < 4398046511104 then (rev_Pairs.l0 k1 a2 (x7_1 ++ [(⟨rdOf ByteArray.empty l0_6 x13_1, rdOf ByteArray.empty l0_7 x13_1⟩ : S129)]) l0_6 (l0_6.length : Int) (wrap64 (x13_1 + 1)) a0_0 a0_1 a0_2 a0_3 a0_4 a0_5 l0_6 l0_7 l0_8 l0_9 a1_0 a1_1 a1_2) else (none)) else (none)) else (rev_Pairs.l0 k1 a2 x7_1 l0_6 (l0_6.length : Int) (wrap64 (x13_1 + 1)) a0_0 a0_1 a0_2 a0_3 a0_4 a0_5 l0_6 l0_7 l0_8 l0_9 a1_0 a1_1 a1_2))) = some r := by rw [if_neg (show ¬ (false = true) by decide)] at H; exact H
         clear H
         have H := H1
         clear H1
         replace H := Option.bind_eq_some_iff.mp H
         obtain ⟨t367, A190, H⟩ := H
         replace H : (if t367 = true then (if x13_1 < (l0_7.length : Int) then (if x7_1.length < 4398046511104 then (rev_Pairs.l0 k1 a2 (x7_1 ++ [(⟨rdOf ByteArray.empty l0_6 x13_1, rdOf ByteArray.empty l0_7 x13_1⟩ : S129)]) l0_6 (l0_6.length : Int) (wrap64 (x13_1 + 1)) a0_0 a0_1 a0_2 a0_3 a0_4 a0_5 l0_6 l0_7 l0_8 l0_9 a1_0 a1_1 a1_2) else (none)) else (none)) else (rev_Pairs.l0 k1 a2 x7_1 l0_6 (l0_6.length : Int) (wrap64 (x13_1 + 1)) a0_0 a0_1 a0_2 a0_3 a0_4 a0_5 l0_6 l0_7 l0_8 l0_9 a1_0 a1_1 a1_2)) = some r := H
         have A19 := K0 A190
         clear A190
         by_cases c20 : t367 = true
         ·
          subst c20
          have H1 : (if x13_1 < (l0_7.length : Int) then (if x7_1.length < 4398046511104 then (rev_Pairs.l0 k1 a2 (x7_1 ++ [(⟨rdOf ByteArray.empty l0_6 x13_1, rdOf ByteArray.empty l0_7 x13_1⟩ : S129)]) l0_6 (l0_6.length : Int) (wrap64 (x13_1 + 1)) a0_0 a0_1 a0_2 a0_3 a0_4 a0_5 l0_6 l0_7 l0_8 l0_9 a1_0 a1_1 a1_2) else (none)) else (none)) = some r := by rw [if_pos rfl] at H; exact H
          clear H
          have H := H1
          clear H1
          by_cases c21 : x13_1 < (l0_7.length : Int)
          ·
           rw [if_pos c21] at H
           have c21b0 : decide (x13_1 < (l0_7.length : Int)) = true := dT c21
           clear c21
           by_cases c22 : x7_1.length < 4398046511104
           ·
            rw [if_pos c22] at H
            have LMc22 := K0 c22
            clear c22
            obtain ⟨y369, hy369⟩ : ∃ y_ : List (S129), y_ = (x7_1 ++ [(⟨rdOf ByteArray.empty l0_6 x13_1, rdOf ByteArray.empty l0_7 x13_1⟩ : S129)]) := ⟨_, rfl⟩
            replace H : (rev_Pairs.l0 k1 a2 y369 l0_6 (l0_6.length : Int) (wrap64 (x13_1 + 1)) a0_0 a0_1 a0_2 a0_3 a0_4 a0_5 l0_6 l0_7 l0_8 l0_9 a1_0 a1_1 a1_2) = some r := by first | (rw [hy369]; with_reducible exact H) | (have H2_ := (Option.bind_some _ _).symm.trans H; rw [hy369]; with_reducible exact H2_) | (have H2_ := (Option.bind_some _ _).symm.trans H; with_reducible exact H2_) | with_reducible exact H | (rw [hy369]; exact H) | exact H
            have Ny369 := K0 hy369
            clear hy369
            have H' := K0 H
            clear H
            have p365 : 0 ≤ (x13_1 : Int) := oT (by first | (with_reducible assumption) | assumption)
            have q365 : x13_1 < (l0_6.length : Int) := oT (by first | (with_reducible assumption) | assumption)
            obtain ⟨ad365, e365, hx365_0⟩ := Kd.at_string HR0_6.out x13_1 p365 q365
            cases e365
            replace hx365_0 := (HB.out.cell (bL w _ hx365_0)).trans hx365_0
            replace p365 := eq_true p365
            replace q365 := eq_true q365
            obtain ⟨Ao23, co23, eo23⟩ := Kd.R_slice HO_7.out
            subst eo23
            have hnb24 := NB363_364.out
            have hnc24 := NB364_363.out
            have hcz25_0 : wr.cell? ⟨gb363, 0, none⟩ = some (.int .i64 a0_0) := (bC BK363.out 0).trans rfl
            have hcz25_1 : wr.cell? ⟨gb363, 1, none⟩ = some (.int .i64 a0_1) := (bC BK363.out 1).trans rfl
            have hcz25_2 : wr.cell? ⟨gb363, 2, none⟩ = some (.string a0_2) := (bC BK363.out 2).trans rfl
            have hcz25_3 : wr.cell? ⟨gb363, 3, none⟩ = some (.string a0_3) := (bC BK363.out 3).trans rfl
            have hcz25_4 : wr.cell? ⟨gb363, 4, none⟩ = some (.bool a0_4) := (bC BK363.out 4).trans rfl
            have hcz25_5 : wr.cell? ⟨gb363, 5, none⟩ = some (.bool a0_5) := (bC BK363.out 5).trans rfl
            have hcz25_6 : wr.cell? ⟨gb363, 6, none⟩ = some (.slice (some ad365) l0_6.length c0_6) := (bC BK363.out 6).trans rfl
            have hcz25_7 : wr.cell? ⟨gb363, 7, none⟩ = some (.slice A0_7 l0_7.length c0_7) := (bC BK363.out 7).trans rfl
            have hcz25_8 : wr.cell? ⟨gb363, 8, none⟩ = some (.slice A0_8 l0_8.length c0_8) := (bC BK363.out 8).trans rfl
            have hcz25_9 : wr.cell? ⟨gb363, 9, none⟩ = some (.slice A0_9 l0_9.length c0_9) := (bC BK363.out 9).trans rfl
            have hfz25_0 := bF BK363.out 0
            have hfz25_1 := bF BK363.out 1
            have hfz25_2 := bF BK363.out 2
            have hfz25_3 := bF BK363.out 3
            have hfz25_4 := bF BK363.out 4
            have hfz25_5 := bF BK363.out 5
            have hfz25_6 := bF BK363.out 6
            have hfz25_7 := bF BK363.out 7
            have hfz25_8 := bF BK363.out 8
            have hfz25_9 := bF BK363.out 9
            have p366 : 0 ≤ (x13_1 : Int) := oT (by first | (with_reducible assumption) | assumption)
            have q366 : x13_1 < (l0_8.length : Int) := oT (by first | (with_reducible assumption) | assumption)
            obtain ⟨ad366, e366, hx366_0⟩ := Kd.at_bool HR0_8.out x13_1 p366 q366
            (try rw [← Nbq14.out] at hx366_0)
            cases e366
            replace hx366_0 := (HB.out.cell (bL w _ hx366_0)).trans hx366_0
            replace p366 := eq_true p366
            replace q366 := eq_true q366
            have hcz26_0 : wr.cell? ⟨gb364, 0, none⟩ = some (.string a1_0) := (bC BK364.out 0).trans rfl
            have hcz26_1 : wr.cell? ⟨gb364, 1, none⟩ = some (.string a1_1) := (bC BK364.out 1).trans rfl
            have hcz26_2 : wr.cell? ⟨gb364, 2, none⟩ = some (.bool a1_2) := (bC BK364.out 2).trans rfl
            have hfz26_0 := bF BK364.out 0
            have hfz26_1 := bF BK364.out 1
            have hfz26_2 := bF BK364.out 2
            go_wp2_with (first | (go_at_call 67; (with_reducible refine (key_Has.calls a1_0 a1_1 a1_2 (rdOf ByteArray.empty l0_6 x13_1) true _ A19.out).mono ?_); rintro e w27 ⟨rfl, hb⟩; have n0_ := K0 (rB (by (with_reducible repeat (first | apply rA | apply rN | apply rD)); exact HO_7.out) hb); have n1_ := K0 (bB (g := gb363) (o := .cells #[.int .i64 a0_0, .int .i64 a0_1, .string a0_2, .string a0_3, .bool a0_4, .bool a0_5, .slice (some ad365) l0_6.length c0_6, .slice A0_7 l0_7.length c0_7, .slice (some ad366) l0_8.length c0_8, .slice A0_9 l0_9.length c0_9] 37 (0, 0)) (by (with_reducible repeat (first | refine bN ?_ _ | refine bD ?_ | refine bA ?_ _)); exact BK363.out) hb); have n2_ := K0 (bB (g := gb364) (o := .cells #[.string a1_0, .string a1_1, .bool a1_2] 32 (0, 0)) (by (with_reducible repeat (first | refine bN ?_ _ | refine bD ?_ | refine bA ?_ _)); exact BK364.out) hb); have n3_ := K0 (below_step (by repeat (first | (with_reducible first | exact HB.out | apply wA | apply wN | apply wD | refine wS ?_ GE363.out | refine wS ?_ GE364.out) | exact HB.out)) hb); clear HO_7; clear BK363; clear BK364; clear HB; have HO_7 := n0_; have BK363 := n1_; have BK364 := n2_; have HB := n3_; clear n0_ n1_ n2_ n3_; (try clear hb); (try clear hb2); (try clear hk); (try clear hi); have hcz28_0 : w27.cell? ⟨gb363, 0, none⟩ = some (.int .i64 a0_0) := (bC BK363.out 0).trans rfl; have hcz28_1 : w27.cell? ⟨gb363, 1, none⟩ = some (.int .i64 a0_1) := (bC BK363.out 1).trans rfl; have hcz28_2 : w27.cell? ⟨gb363, 2, none⟩ = some (.string a0_2) := (bC BK363.out 2).trans rfl; have hcz28_3 : w27.cell? ⟨gb363, 3, none⟩ = some (.string a0_3) := (bC BK363.out 3).trans rfl; have hcz28_4 : w27.cell? ⟨gb363, 4, none⟩ = some (.bool a0_4) := (bC BK363.out 4).trans rfl; have hcz28_5 : w27.cell? ⟨gb363, 5, none⟩ = some (.bool a0_5) := (bC BK363.out 5).trans rfl; have hcz28_6 : w27.cell? ⟨gb363, 6, none⟩ = some (.slice (some ad365) l0_6.length c0_6) := (bC BK363.out 6).trans rfl; have hcz28_7 : w27.cell? ⟨gb363, 7, none⟩ = some (.slice A0_7 l0_7.length c0_7) := (bC BK363.out 7).trans rfl; have hcz28_8 : w27.cell? ⟨gb363, 8, none⟩ = some (.slice (some ad366) l0_8.length c0_8) := (bC BK363.out 8).trans rfl; have hcz28_9 : w27.cell? ⟨gb363, 9, none⟩ = some (.slice A0_9 l0_9.length c0_9) := (bC BK363.out 9).trans rfl; have hfz28_0 := bF BK363.out 0; have hfz28_1 := bF BK363.out 1; have hfz28_2 := bF BK363.out 2; have hfz28_3 := bF BK363.out 3; have hfz28_4 := bF BK363.out 4; have hfz28_5 := bF BK363.out 5; have hfz28_6 := bF BK363.out 6; have hfz28_7 := bF BK363.out 7; have hfz28_8 := bF BK363.out 8; have hfz28_9 := bF BK363.out 9; have p368 : 0 ≤ (x13_1 : Int) := oT (by first | (with_reducible assumption) | assumption); have q368 : x13_1 < (l0_7.length : Int) := oT (by first | (with_reducible assumption) | assumption); obtain ⟨ad368, e368, hx368_0⟩ := Kd.at_string HR0_7.out x13_1 p368 q368; cases e368; replace hx368_0 := (HB.out.cell (bL w _ hx368_0)).trans hx368_0; replace p368 := eq_true p368; replace q368 := eq_true q368) | ((with_reducible refine gate_builtin (b := .append) (xs := #[.tmp 33, .tmp 41]) rfl ?_); at_builtin; refine Kd.R_append k129 (w0 := w) w.heap.size rfl (.tmp 33) (.tmp 41) 56 129 (.agg #[(.string ⟨#[]⟩), (.string ⟨#[]⟩)]) 32 rfl Try.underlying56 info129 rfl (by decide) (by omega) (.slice Ao23 x7_1.length co23) x7_1 (⟨rdOf ByteArray.empty l0_6 x13_1, rdOf ByteArray.empty l0_7 x13_1⟩ : S129) [.string (rdOf ByteArray.empty l0_6 x13_1), .string (rdOf ByteArray.empty l0_7 x13_1)] (fun _ => True) (fun _ => False) rfl rfl ?aP (fun _ hk => hk.elim) ?aF ?aO ?aB ?aS ?aL ?_; (case aP => exact k129_mkM _ _ _ (⟨rdOf ByteArray.empty l0_6 x13_1, rdOf ByteArray.empty l0_7 x13_1⟩ : S129)); (case aB => exact (by repeat (first | (with_reducible first | exact HB.out | apply wA | apply wN | apply wD | refine wS ?_ GE363.out | refine wS ?_ GE364.out) | exact HB.out))); (case aF => exact (fun _ _ => trivial)); (case aO => exact (by (with_reducible repeat (first | apply rA | apply rN | apply rD)); exact HO_7.out)); (case aS => exact (below_size (by repeat (first | (with_reducible first | exact HB.out | apply wA | apply wN | apply wD | refine wS ?_ GE363.out | refine wS ?_ GE364.out) | exact HB.out)))); (case aL => have := LMc22.out; omega); intro v370 w29 ho hb hg hat; rw [← Ny369.out] at ho; have n0_ := K0 (blk_grown (g := gb363) (o := .cells #[.int .i64 a0_0, .int .i64 a0_1, .string a0_2, .string a0_3, .bool a0_4, .bool a0_5, .slice (some ad365) l0_6.length c0_6, .slice (some ad368) l0_7.length c0_7, .slice (some ad366) l0_8.length c0_8, .slice A0_9 l0_9.length c0_9] 37 (0, 0)) (by (with_reducible repeat (first | refine bN ?_ _ | refine bD ?_ | refine bA ?_ _)); exact BK363.out) hg (Kd.R_ne HO_7.out BK363.out (by decide))); have n1_ := K0 (blk_grown (g := gb364) (o := .cells #[.string a1_0, .string a1_1, .bool a1_2] 32 (0, 0)) (by (with_reducible repeat (first | refine bN ?_ _ | refine bD ?_ | refine bA ?_ _)); exact BK364.out) hg (Kd.R_ne HO_7.out BK364.out (by decide))); have n2_ := K0 (hb); have n3_ := K0 (ho); clear BK363; clear BK364; clear HB; clear HO_7; have BK363 := n0_; have BK364 := n1_; have HB := n2_; have HO371 := n3_; clear n0_ n1_ n2_ n3_; clear ho hb hg hat))
            go_roundg k1
            case measure => have := HK1.out; omega
            case rel => exact ⟨(y369), (wrap64 (x13_1 + 1)), (by first | rfl | (simp; done) | (simp [*]; done)), H', ⟨by have := HK1.out; omega⟩, ⟨by (with_reducible repeat (first | apply rA | apply rN | apply rD)); exact HO371.out⟩, ⟨by (with_reducible repeat (first | refine bN ?_ _ | refine bD ?_ | refine bA ?_ _)); exact BK363.out⟩, ⟨by (with_reducible repeat (first | refine bN ?_ _ | refine bD ?_ | refine bA ?_ _)); exact BK364.out⟩, ⟨by repeat (first | (with_reducible first | exact HB.out | apply wA | apply wN | apply wD | refine wS ?_ GE363.out | refine wS ?_ GE364.out) | exact HB.out)⟩⟩
           ·
            rw [if_neg c22] at H
            exact absurd H (by simp)
          ·
           rw [if_neg c21] at H
           exact absurd H (by simp)
         ·
          replace c20 := Bool.eq_false_iff.mpr c20
          subst c20
          have H1 : (rev_Pairs.l0 k1 a2 x7_1 l0_6 (l0_6.length : Int) (wrap64 (x13_1 + 1)) a0_0 a0_1 a0_2 a0_3 a0_4 a0_5 l0_6 l0_7 l0_8 l0_9 a1_0 a1_1 a1_2) = some r := by rw [if_neg (show ¬ (false = true) by decide)] at H; exact H
          clear H
          have H := H1
          clear H1
          have H' := K0 H
          clear H
          have p365 : 0 ≤ (x13_1 : Int) := oT (by first | (with_reducible assumption) | assumption)
          have q365 : x13_1 < (l0_6.length : Int) := oT (by first | (with_reducible assumption) | assumption)
          obtain ⟨ad365, e365, hx365_0⟩ := Kd.at_string HR0_6.out x13_1 p365 q365
          cases e365
          replace hx365_0 := (HB.out.cell (bL w _ hx365_0)).trans hx365_0
          replace p365 := eq_true p365
          replace q365 := eq_true q365
          obtain ⟨Ao30, co30, eo30⟩ := Kd.R_slice HO_7.out
          subst eo30
          have hnb31 := NB363_364.out
          have hnc31 := NB364_363.out
          have hcz32_0 : wr.cell? ⟨gb363, 0, none⟩ = some (.int .i64 a0_0) := (bC BK363.out 0).trans rfl
          have hcz32_1 : wr.cell? ⟨gb363, 1, none⟩ = some (.int .i64 a0_1) := (bC BK363.out 1).trans rfl
          have hcz32_2 : wr.cell? ⟨gb363, 2, none⟩ = some (.string a0_2) := (bC BK363.out 2).trans rfl
          have hcz32_3 : wr.cell? ⟨gb363, 3, none⟩ = some (.string a0_3) := (bC BK363.out 3).trans rfl
          have hcz32_4 : wr.cell? ⟨gb363, 4, none⟩ = some (.bool a0_4) := (bC BK363.out 4).trans rfl
          have hcz32_5 : wr.cell? ⟨gb363, 5, none⟩ = some (.bool a0_5) := (bC BK363.out 5).trans rfl
          have hcz32_6 : wr.cell? ⟨gb363, 6, none⟩ = some (.slice (some ad365) l0_6.length c0_6) := (bC BK363.out 6).trans rfl
          have hcz32_7 : wr.cell? ⟨gb363, 7, none⟩ = some (.slice A0_7 l0_7.length c0_7) := (bC BK363.out 7).trans rfl
          have hcz32_8 : wr.cell? ⟨gb363, 8, none⟩ = some (.slice A0_8 l0_8.length c0_8) := (bC BK363.out 8).trans rfl
          have hcz32_9 : wr.cell? ⟨gb363, 9, none⟩ = some (.slice A0_9 l0_9.length c0_9) := (bC BK363.out 9).trans rfl
          have hfz32_0 := bF BK363.out 0
          have hfz32_1 := bF BK363.out 1
          have hfz32_2 := bF BK363.out 2
          have hfz32_3 := bF BK363.out 3
          have hfz32_4 := bF BK363.out 4
          have hfz32_5 := bF BK363.out 5
          have hfz32_6 := bF BK363.out 6
          have hfz32_7 := bF BK363.out 7
          have hfz32_8 := bF BK363.out 8
          have hfz32_9 := bF BK363.out 9
          have p366 : 0 ≤ (x13_1 : Int) := oT (by first | (with_reducible assumption) | assumption)
          have q366 : x13_1 < (l0_8.length : Int) := oT (by first | (with_reducible assumption) | assumption)
          obtain ⟨ad366, e366, hx366_0⟩ := Kd.at_bool HR0_8.out x13_1 p366 q366
          (try rw [← Nbq14.out] at hx366_0)
          cases e366
          replace hx366_0 := (HB.out.cell (bL w _ hx366_0)).trans hx366_0
          replace p366 := eq_true p366
          replace q366 := eq_true q366
          have hcz33_0 : wr.cell? ⟨gb364, 0, none⟩ = some (.string a1_0) := (bC BK364.out 0).trans rfl
          have hcz33_1 : wr.cell? ⟨gb364, 1, none⟩ = some (.string a1_1) := (bC BK364.out 1).trans rfl
          have hcz33_2 : wr.cell? ⟨gb364, 2, none⟩ = some (.bool a1_2) := (bC BK364.out 2).trans rfl
          have hfz33_0 := bF BK364.out 0
          have hfz33_1 := bF BK364.out 1
          have hfz33_2 := bF BK364.out 2
          go_wp2_with (first | (go_at_call 67; (with_reducible refine (key_Has.calls a1_0 a1_1 a1_2 (rdOf ByteArray.empty l0_6 x13_1) false _ A19.out).mono ?_); rintro e w34 ⟨rfl, hb⟩; have n0_ := K0 (rB (by (with_reducible repeat (first | apply rA | apply rN | apply rD)); exact HO_7.out) hb); have n1_ := K0 (bB (g := gb363) (o := .cells #[.int .i64 a0_0, .int .i64 a0_1, .string a0_2, .string a0_3, .bool a0_4, .bool a0_5, .slice (some ad365) l0_6.length c0_6, .slice A0_7 l0_7.length c0_7, .slice (some ad366) l0_8.length c0_8, .slice A0_9 l0_9.length c0_9] 37 (0, 0)) (by (with_reducible repeat (first | refine bN ?_ _ | refine bD ?_ | refine bA ?_ _)); exact BK363.out) hb); have n2_ := K0 (bB (g := gb364) (o := .cells #[.string a1_0, .string a1_1, .bool a1_2] 32 (0, 0)) (by (with_reducible repeat (first | refine bN ?_ _ | refine bD ?_ | refine bA ?_ _)); exact BK364.out) hb); have n3_ := K0 (below_step (by repeat (first | (with_reducible first | exact HB.out | apply wA | apply wN | apply wD | refine wS ?_ GE363.out | refine wS ?_ GE364.out) | exact HB.out)) hb); clear HO_7; clear BK363; clear BK364; clear HB; have HO_7 := n0_; have BK363 := n1_; have BK364 := n2_; have HB := n3_; clear n0_ n1_ n2_ n3_; (try clear hb); (try clear hb2); (try clear hk); (try clear hi)))
          go_roundg k1
          case measure => have := HK1.out; omega
          case rel => exact ⟨(x7_1), (wrap64 (x13_1 + 1)), (by first | rfl | (simp; done) | (simp [*]; done)), H', ⟨by have := HK1.out; omega⟩, ⟨by (with_reducible repeat (first | apply rA | apply rN | apply rD)); exact HO_7.out⟩, ⟨by (with_reducible repeat (first | refine bN ?_ _ | refine bD ?_ | refine bA ?_ _)); exact BK363.out⟩, ⟨by (with_reducible repeat (first | refine bN ?_ _ | refine bD ?_ | refine bA ?_ _)); exact BK364.out⟩, ⟨by repeat (first | (with_reducible first | exact HB.out | apply wA | apply wN | apply wD | refine wS ?_ GE363.out | refine wS ?_ GE364.out) | exact HB.out)⟩⟩
       ·
        rw [if_neg c13] at H
        exact absurd H (by simp)
     ·
      rw [if_neg c10] at H
      exact absurd H (by simp)
    ·
     rw [if_neg c9] at H
     exact absurd H (by simp)
   ·
    rw [if_neg c8] at H
    have c8b0 : decide (x13_1 < (l0_6.length : Int)) = false := dF c8
    clear c8
    obtain rfl := Option.some.inj H
    go_wp2
    go_ret
    exact ⟨_, by first | rfl | (simp [errW_none, errW_some] <;> rfl) | (simp [*, errW_none, errW_some] <;> rfl), by (with_reducible repeat (first | apply rA | apply rN | apply rD)); exact HO_7.out, by repeat (first | (with_reducible first | exact HB.out | apply wA | apply wN | apply wD | refine wS ?_ GE363.out | refine wS ?_ GE364.out) | exact HB.out)⟩
end Go.Proofs.Ytoaacdjcjicemaa.PRevPlays
