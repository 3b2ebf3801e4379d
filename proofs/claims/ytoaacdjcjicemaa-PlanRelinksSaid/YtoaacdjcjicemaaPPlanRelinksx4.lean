-- written by a program of this session (the print, turned)
import Derived.Test.YtoaacdjcjicemaaPPlanRelinksx0
import Derived.Test.YtoaacdjcjicemaaPPlanRelinksx3
import Derived.Test.YtoaacdjcjicemaaWAl
namespace Go.Proofs.Ytoaacdjcjicemaa.PPlanRelinks
open Go.RowKit Go.Proofs.YtoaacdjcjicemaaW.PrintWords Go.Proofs.YtoaacdjcjicemaaW.PrintLast Go.Proofs.YtoaacdjcjicemaaW.PrintMore
attribute [local go_sem] cell_self cell_there leq_str geq_str gtr_str max2_str max2_int min2_int max_two min_two max_three min_three max_four min_four   -- for this text's walks alone
set_option linter.unusedVariables false
set_option linter.unusedSimpArgs false
/-! ### probe_Size: function 91 -/
def probe_Size.l0 : Nat → Int → Int → Option (Int)
 | 0, _, _ => none
 | k + 1, x0, x3 => if (wrap64 (Int.tdiv x3 2)) < x0 then (probe_Size.l0 k x0 (wrap64 (x3 * 2))) else (some x3)
def probe_Size.f (k : Nat) (a0 : Int) : Option (Int) := probe_Size.l0 k a0 2
set_option maxHeartbeats 8000000 in
set_option maxRecDepth 100000 in
theorem probe_Size.calls (k : Nat) (a0 : Int) (r : Int) (w : World) (h : probe_Size.f k a0 = some r) :
  Calls Try.prog 91 #[.int .i64 a0] w fun e w' => e = .returned (.int .i64 r) ∧ Drawn0 w w' := by
 have H : (probe_Size.l0 k a0 2) = some r := h
 clear h
 have H' := K0 H
 clear H
 go_enter Try.func91, Try.ntmps91
 go_wp2
 go_loopg [3] k (fun kq v3 w' => ∃ (x3_1 : Int), v3 = .int .i64 x3_1 ∧ Aside0 (probe_Size.l0 kq a0 x3_1 = some r) ∧ Aside0 (kq ≤ k) ∧ Drawn0 w w')
 case atStart => exact ⟨(2), (by first | rfl | (simp; done) | (simp [*]; done)), H', ⟨Nat.le_refl _⟩, by repeat (first | exact Drawn0.refl _ | apply Drawn0.step)⟩
 case round =>
  clear H'
  obtain ⟨x3_1, rfl, HA, HK1, ⟨m1, rfl⟩⟩ := hrel
  cases gk with
  | zero => exact absurd HA.out (by simp [probe_Size.l0])
  | succ k1 =>
   have H := HA.out; clear HA; simp only [probe_Size.l0] at H; by_cases c2 : (wrap64 (Int.tdiv x3_1 2)) < a0
   ·
    rw [if_pos c2] at H; have c2b0 : decide ((wrap64 (Int.tdiv x3_1 2)) < a0) = true := dT c2; clear c2; have H' := K0 H; clear H; go_wp2
    go_roundg k1
    case measure => have := HK1.out; omega
    case rel => exact ⟨(wrap64 (x3_1 * 2)), (by first | rfl | (simp; done) | (simp [*]; done)), H', ⟨by have := HK1.out; omega⟩, by repeat (first | exact Drawn0.refl _ | apply Drawn0.step)⟩
   rw [if_neg c2] at H; have c2b0 : decide ((wrap64 (Int.tdiv x3_1 2)) < a0) = false := dF c2; clear c2; obtain rfl := Option.some.inj H; go_wp2
   go_ret; exact ⟨by first | rfl | (simp; done) | (simp [*]; done), by repeat (first | exact Drawn0.refl _ | apply Drawn0.step)⟩
/-! ### hash_End: function 105 -/
def hash_End.f (a0 : Int) : Option (Int) := some (((Go.bits .xor .u32 ((a0 + ((a0 * 8) % 4294967296)) % 4294967296) (((a0 + ((a0 * 8) % 4294967296)) % 4294967296) / 2048)) + (((Go.bits .xor .u32 ((a0 + ((a0 * 8) % 4294967296)) % 4294967296) (((a0 + ((a0 * 8) % 4294967296)) % 4294967296) / 2048)) * 32768) % 4294967296)) % 4294967296)
set_option maxHeartbeats 8000000 in
set_option maxRecDepth 100000 in
theorem hash_End.calls (a0 : Int) (r : Int) (w : World) (h : hash_End.f a0 = some r) :
  Calls Try.prog 105 #[.int .u32 a0] w fun e w' => e = .returned (.int .u32 r) ∧ Drawn0 w w' := by
 have H : (some (((Go.bits .xor .u32 ((a0 + ((a0 * 8) % 4294967296)) % 4294967296) (((a0 + ((a0 * 8) % 4294967296)) % 4294967296) / 2048)) + (((Go.bits .xor .u32 ((a0 + ((a0 * 8) % 4294967296)) % 4294967296) (((a0 + ((a0 * 8) % 4294967296)) % 4294967296) / 2048)) * 32768) % 4294967296)) % 4294967296)) = some r := h
 clear h
 obtain rfl := Option.some.inj H
 go_enter Try.func105, Try.ntmps105
 go_wp2
 go_ret
 exact ⟨by first | rfl | (simp; done) | (simp [*]; done), by repeat (first | exact Drawn0.refl _ | apply Drawn0.step)⟩
/-! ### hash_Add: function 106 -/
def hash_Add.l0 : Nat → Int → ByteArray → Int → Int → Option (Int)
 | 0, _, _, _, _ => none
 | k + 1, x0, x1, x7, x8 => if x8 < x7 then (if 0 ≤ x8 then (if x8 < (x1.size : Int) then (hash_Add.l0 k (Go.bits .xor .u32 ((((x0 + ((bt x1 x8) % 4294967296)) % 4294967296) + ((((x0 + ((bt x1 x8) % 4294967296)) % 4294967296) * 1024) % 4294967296)) % 4294967296) (((((x0 + ((bt x1 x8) % 4294967296)) % 4294967296) + ((((x0 + ((bt x1 x8) % 4294967296)) % 4294967296) * 1024) % 4294967296)) % 4294967296) / 64)) x1 x7 (wrap64 (x8 + 1))) else (none)) else (none)) else (some x0)
def hash_Add.f (k : Nat) (a0 : Int) (a1 : ByteArray) : Option (Int) := hash_Add.l0 k a0 a1 (a1.size : Int) 0
set_option maxHeartbeats 8000000 in
set_option maxRecDepth 100000 in
theorem hash_Add.calls (k : Nat) (a0 : Int) (a1 : ByteArray) (r : Int) (w : World) (h : hash_Add.f k a0 a1 = some r) :
  Calls Try.prog 106 #[.int .u32 a0, .string a1] w fun e w' => e = .returned (.int .u32 r) ∧ Drawn0 w w' := by
 have H : (hash_Add.l0 k a0 a1 (a1.size : Int) 0) = some r := h
 clear h
 have H' := K0 H
 clear H
 go_enter Try.func106, Try.ntmps106
 go_wp2
 go_loopg [0, 8] k (fun kq v0 v8 w' => ∃ (x0_1 : Int) (x8_1 : Int), v0 = .int .u32 x0_1 ∧ v8 = .int .i64 x8_1 ∧ Aside0 (hash_Add.l0 kq x0_1 a1 (a1.size : Int) x8_1 = some r) ∧ Aside0 (kq ≤ k) ∧ Drawn0 w w')
 case atStart => exact ⟨(a0), (0), (by first | rfl | (simp; done) | (simp [*]; done)), (by first | rfl | (simp; done) | (simp [*]; done)), H', ⟨Nat.le_refl _⟩, by repeat (first | exact Drawn0.refl _ | apply Drawn0.step)⟩
 case round =>
  clear H'
  try clear c1
  try clear p2
  obtain ⟨x0_1, x8_1, rfl, rfl, HA, HK1, ⟨m1, rfl⟩⟩ := hrel
  cases gk with
  | zero => exact absurd HA.out (by simp [hash_Add.l0])
  | succ k1 =>
   have H := HA.out; clear HA; simp only [hash_Add.l0] at H; by_cases c3 : x8_1 < (a1.size : Int)
   ·
    rw [if_pos c3] at H; have c3b0 : decide (x8_1 < (a1.size : Int)) = true := dT c3; clear c3; by_cases c4 : 0 ≤ x8_1
    ·
     rw [if_pos c4] at H; have c4b0 : decide (0 ≤ x8_1) = true := dT c4; clear c4; by_cases c5 : x8_1 < (a1.size : Int)
     ·
      rw [if_pos c5] at H; have c5b0 : decide (x8_1 < (a1.size : Int)) = true := dT c5; clear c5; have H' := K0 H; clear H; have p6 : 0 ≤ (x8_1 : Int) := oT (by first | (with_reducible assumption) | assumption); have q6 : x8_1 < (a1.size : Int) := oT (by first | (with_reducible assumption) | assumption); have hx6 := bt_at a1 x8_1; replace p6 := eq_true p6; replace q6 := eq_true q6; go_wp2
      go_roundg k1
      case measure => have := HK1.out; omega
      case rel => exact ⟨(Go.bits .xor .u32 ((((x0_1 + ((bt a1 x8_1) % 4294967296)) % 4294967296) + ((((x0_1 + ((bt a1 x8_1) % 4294967296)) % 4294967296) * 1024) % 4294967296)) % 4294967296) (((((x0_1 + ((bt a1 x8_1) % 4294967296)) % 4294967296) + ((((x0_1 + ((bt a1 x8_1) % 4294967296)) % 4294967296) * 1024) % 4294967296)) % 4294967296) / 64)), (wrap64 (x8_1 + 1)), (by first | rfl | (simp; done) | (simp [*]; done)), (by first | rfl | (simp; done) | (simp [*]; done)), H', ⟨by have := HK1.out; omega⟩, by repeat (first | exact Drawn0.refl _ | apply Drawn0.step)⟩
     rw [if_neg c5] at H; exact absurd H (by simp)
    rw [if_neg c4] at H; exact absurd H (by simp)
   rw [if_neg c3] at H; have c3b0 : decide (x8_1 < (a1.size : Int)) = false := dF c3; clear c3; obtain rfl := Option.some.inj H; go_wp2
   go_ret; exact ⟨by first | rfl | (simp; done) | (simp [*]; done), by repeat (first | exact Drawn0.refl _ | apply Drawn0.step)⟩
/-! ### hash_Of: function 102 -/
def hash_Of.f (k : Nat) (a0 : ByteArray) : Option (Int) := (hash_Add.f k 0 a0).bind fun t108 => ((hash_End.f t108).bind fun t109 => (some t109))
set_option maxHeartbeats 8000000 in
set_option maxRecDepth 100000 in
theorem hash_Of.calls (k : Nat) (a0 : ByteArray) (r : Int) (w : World) (h : hash_Of.f k a0 = some r) :
  Calls Try.prog 102 #[.string a0] w fun e w' => e = .returned (.int .u32 r) ∧ Drawn0 w w' := by
 have H : ((hash_Add.f k 0 a0).bind fun t108 => ((hash_End.f t108).bind fun t109 => (some t109))) = some r := h
 clear h
 replace H := Option.bind_eq_some_iff.mp H
 obtain ⟨t108, A20, H⟩ := H
 replace H : ((hash_End.f t108).bind fun t109 => (some t109)) = some r := H
 have A2 := K0 A20
 clear A20
 replace H := Option.bind_eq_some_iff.mp H
 obtain ⟨t109, A30, H⟩ := H
 replace H : (some t109) = some r := H
 have A3 := K0 A30
 clear A30
 obtain rfl := Option.some.inj H
 go_enter Try.func102, Try.ntmps102
 go_wp2_with (first | ((with_reducible refine gate_callee (f := 106) rfl ?_); refine goesL_ (some 4) rfl rfl Try.func106 (by kernel_rfl) rfl #[.int .u32 0, .string a0] rfl (by (try simp only [List.map_toArray, List.map_cons, List.map_nil]); first | done | rfl | (simp only [lD, lT]; rfl)) ?_; (with_reducible refine (hash_Add.calls k 0 a0 t108 _ A2.out).mono ?_); rintro e w' ⟨rfl, ⟨nd, rfl⟩⟩; refine ⟨_, rfl, ?_⟩) | ((with_reducible refine gate_callee (f := 105) rfl ?_); refine goesL_ (some 5) rfl rfl Try.func105 (by kernel_rfl) rfl #[.int .u32 t108] rfl (by (try simp only [List.map_toArray, List.map_cons, List.map_nil]); first | done | rfl | (simp only [lD, lT]; rfl)) ?_; (with_reducible refine (hash_End.calls t108 t109 _ A3.out).mono ?_); rintro e w' ⟨rfl, ⟨nd, rfl⟩⟩; refine ⟨_, rfl, ?_⟩))
 go_ret
 exact ⟨by first | rfl | (simp; done) | (simp [*]; done), by repeat (first | exact Drawn0.refl _ | apply Drawn0.step)⟩
/-! ### probe_first: function 92 -/
def probe_first.f (k : Nat) (a0 : Int) (a1 : ByteArray) : Option (Int) := (hash_Of.f k a1).bind fun t110 => (some (Go.bits .and .i64 (wrap64 (t110)) (wrap64 (a0 - 1))))
set_option maxHeartbeats 8000000 in
set_option maxRecDepth 100000 in
theorem probe_first.calls (k : Nat) (a0 : Int) (a1 : ByteArray) (r : Int) (w : World) (h : probe_first.f k a0 a1 = some r) :
  Calls Try.prog 92 #[.int .i64 a0, .string a1] w fun e w' => e = .returned (.int .i64 r) ∧ Drawn0 w w' := by
 have H : ((hash_Of.f k a1).bind fun t110 => (some (Go.bits .and .i64 (wrap64 (t110)) (wrap64 (a0 - 1))))) = some r := h
 clear h
 replace H := Option.bind_eq_some_iff.mp H
 obtain ⟨t110, A30, H⟩ := H
 replace H : (some (Go.bits .and .i64 (wrap64 (t110)) (wrap64 (a0 - 1)))) = some r := H
 have A3 := K0 A30
 clear A30
 obtain rfl := Option.some.inj H
 go_enter Try.func92, Try.ntmps92
 go_wp2_with (first | ((with_reducible refine gate_callee (f := 102) rfl ?_); refine goesL_ (some 6) rfl rfl Try.func102 (by kernel_rfl) rfl #[.string a1] rfl (by (try simp only [List.map_toArray, List.map_cons, List.map_nil]); first | done | rfl | (simp only [lD, lT]; rfl)) ?_; (with_reducible refine (hash_Of.calls k a1 t110 _ A3.out).mono ?_); rintro e w' ⟨rfl, ⟨nd, rfl⟩⟩; refine ⟨_, rfl, ?_⟩))
 go_ret
 exact ⟨by first | rfl | (simp; done) | (simp [*]; done), by repeat (first | exact Drawn0.refl _ | apply Drawn0.step)⟩
/-! ### probe_Build: function 85 -/
mutual
def probe_Build.l0 : Nat → List Int → List ByteArray → Int → Int → Option (List Int)
 | 0, _, _, _, _ => none
 | k + 1, x3, x11, x12, x13 => if x13 < x12 then (if 0 ≤ x13 then (if x13 < (x11.length : Int) then ((probe_first.f k (x3.length : Int) (rdOf ByteArray.empty x11 x13)).bind fun t116 => (probe_Build.l1 k x3 x13 t116 x11 x12 x13)) else (none)) else (none)) else (some x3)
def probe_Build.l1 : Nat → List Int → Int → Int → List ByteArray → Int → Int → Option (List Int)
 | 0, _, _, _, _, _, _ => none
 | k + 1, x3, x4, x6, x11, x12, x13 => if 0 ≤ x6 then (if x6 < (x3.length : Int) then (if (rd x3 x6) = 0 then (probe_Build.l0 k (x3.set (x6 : Int).toNat (wrap64 (x4 + 1))) x11 x12 (wrap64 (x13 + 1))) else (probe_Build.l1 k x3 x4 (Go.bits .and .i64 (wrap64 (x6 + 1)) (wrap64 ((x3.length : Int) - 1))) x11 x12 x13)) else (none)) else (none)
end
def probe_Build.f (k : Nat) (l0 : List ByteArray) : Option (List Int) := (probe_Size.f k (l0.length : Int)).bind fun t111 => (if 0 ≤ t111 then (if (t111 : Int).toNat ≤ 35184372088832 then (probe_Build.l0 k (List.replicate (t111 : Int).toNat 0) l0 (l0.length : Int) 0) else (none)) else (none))
set_option maxHeartbeats 8000000 in
set_option maxRecDepth 100000 in
theorem probe_Build.calls (k : Nat) (A0 : Option Addr) (c0 : Nat) (l0 : List ByteArray) (r : List Int) (w : World) (hr0 : Kd.C Kd.string w A0 l0.length l0) (hc0 : l0.length ≤ c0) (h : probe_Build.f k l0 = some r) :
  Calls Try.prog 85 #[.slice A0 l0.length c0] w fun e w' => ∃ v0_ : Value, e = .returned (v0_) ∧ Kd.R (Kd.int .i64) 3 w' w.heap.size (fun _ => True) v0_ r ∧ Below w.heap.size w w' := by
 have HR0 := K0 hr0
 have HC0 := K0 hc0
 clear hr0 hc0
 have HB := K0 (Below.refl w.heap.size w)
 have H : ((probe_Size.f k (l0.length : Int)).bind fun t111 => (if 0 ≤ t111 then (if (t111 : Int).toNat ≤ 35184372088832 then (probe_Build.l0 k (List.replicate (t111 : Int).toNat 0) l0 (l0.length : Int) 0) else (none)) else (none))) = some r := h
 clear h
 replace H := Option.bind_eq_some_iff.mp H
 obtain ⟨t111, A20, H⟩ := H
 replace H : (if 0 ≤ t111 then (if (t111 : Int).toNat ≤ 35184372088832 then (probe_Build.l0 k (List.replicate (t111 : Int).toNat 0) l0 (l0.length : Int) 0) else (none)) else (none)) = some r := H
 have A2 := K0 A20
 clear A20
 by_cases c3 : 0 ≤ t111
 ·
  rw [if_pos c3] at H
  have c3b0 := eq_true c3
  have c3b1 : decide (0 ≤ t111) = true := dT c3
  clear c3
  by_cases c4 : (t111 : Int).toNat ≤ 35184372088832
  ·
   rw [if_pos c4] at H; have c4b0 := eq_true c4; have c4b1 : decide ((t111 : Int).toNat ≤ 35184372088832) = true := dT c4; clear c4; obtain ⟨y112, hy112⟩ : ∃ y_ : List Int, y_ = (List.replicate (t111 : Int).toNat 0) := ⟨_, rfl⟩; replace H : (probe_Build.l0 k y112 l0 (l0.length : Int) 0) = some r := by first | (rw [hy112]; with_reducible exact H) | (have H2_ := (Option.bind_some _ _).symm.trans H; rw [hy112]; with_reducible exact H2_) | (have H2_ := (Option.bind_some _ _).symm.trans H; with_reducible exact H2_) | with_reducible exact H | (rw [hy112]; exact H) | exact H
   have Ny112 := K0 hy112; clear hy112; have H' := K0 H; clear H; go_enter Try.func85, Try.ntmps85
   go_wp2_with (first | ((with_reducible refine gate_callee (f := 91) rfl ?_); refine goesL_ (some 9) rfl rfl Try.func91 (by kernel_rfl) rfl #[.int .i64 (l0.length : Int)] rfl (by (try simp only [List.map_toArray, List.map_cons, List.map_nil]); first | done | rfl | (simp only [lD, lT]; rfl)) ?_; (with_reducible refine (probe_Size.calls k (l0.length : Int) t111 _ A2.out).mono ?_); rintro e w' ⟨rfl, ⟨nd, rfl⟩⟩; refine ⟨_, rfl, ?_⟩) | ((with_reducible refine gate_dst (N := 10) rfl ?_); refine Kd.R_make (Kd.int .i64) _ 3 rfl (N := 10) rfl 35 _ _ rfl t111 rfl rfl Try.underlying35 (.int .i64 0) 8 info3 rfl (by decide) (by omega) 0 (ok := fun _ => True) (okp := fun _ => True) rfl (fun _ hk => hk) trivial (oT (by first | (with_reducible assumption) | assumption)) (Nat.le_trans (Nat.mul_le_mul_right _ (oT (by first | (with_reducible assumption) | assumption) : t111.toNat ≤ 35184372088832)) (by omega)) (Below.refl _ _) (Nat.le_refl _) ?_; intro v113 w5 ho6 hb hg_ hnew_; clear hg_ hnew_; (first | rw [← Ny112.out] at ho6 | (simp only [Int.reduceToNat] at ho6; rw [← Ny112.out] at ho6)); have n0_ := K0 (Kd.R_lower ho6 (below_size (by repeat (first | (with_reducible first | exact HB.out | apply wA | apply wN | apply wD) | exact HB.out)))); have n1_ := K0 (below_step (by repeat (first | (with_reducible first | exact HB.out | apply wA | apply wN | apply wD) | exact HB.out)) hb); clear HB; have HO114 := n0_; have HB := n1_; clear n0_ n1_; clear hb ho6))
   go_loopg [13] k (fun kq v13 w' => ∃ (x3_1 : List Int) (x13_1 : Int), v13 = .int .i64 x13_1 ∧ Aside0 (probe_Build.l0 kq x3_1 l0 (l0.length : Int) x13_1 = some r) ∧ Aside0 (kq ≤ k) ∧ Aside0 (Kd.R (Kd.int .i64) 3 w' w.heap.size (fun _ => True) v113 x3_1) ∧ Aside0 (Below w.heap.size w w'))
   case atStart => exact ⟨(y112), (0), (by first | rfl | (simp; done) | (simp [*]; done)), H', ⟨Nat.le_refl _⟩, ⟨by (with_reducible repeat (first | apply rA | apply rN | apply rD)); exact HO114.out⟩, ⟨by repeat (first | (with_reducible first | exact HB.out | apply wA | apply wN | apply wD) | exact HB.out)⟩⟩
   case round =>
    clear H'; try clear p2
    try clear c3
    try clear c3b0
    try clear c3b1
    try clear c4
    try clear c4b0
    try clear c4b1
    obtain ⟨x3_1, x13_1, rfl, HA, HK1, HO_3, HB⟩ := hrel
    cases gk with
    | zero => exact absurd HA.out (by simp [probe_Build.l0])
    | succ k1 =>
     have H := HA.out; clear HA; simp only [probe_Build.l0] at H; by_cases c7 : x13_1 < (l0.length : Int)
     ·
      rw [if_pos c7] at H; have c7b0 : decide (x13_1 < (l0.length : Int)) = true := dT c7; clear c7; by_cases c8 : 0 ≤ x13_1
      ·
       rw [if_pos c8] at H; have c8b0 : decide (0 ≤ x13_1) = true := dT c8; clear c8; by_cases c9 : x13_1 < (l0.length : Int)
       ·
        rw [if_pos c9] at H; have c9b0 : decide (x13_1 < (l0.length : Int)) = true := dT c9; clear c9; replace H := Option.bind_eq_some_iff.mp H; obtain ⟨t116, A100, H⟩ := H; replace H : (probe_Build.l1 k1 x3_1 x13_1 t116 l0 (l0.length : Int) x13_1) = some r := H; have A10 := K0 A100; clear A100; have H' := K0 H; clear H; have p115 : 0 ≤ (x13_1 : Int) := oT (by first | (with_reducible assumption) | assumption); have q115 : x13_1 < (l0.length : Int) := oT (by first | (with_reducible assumption) | assumption); obtain ⟨ad115, e115, hx115_0⟩ := Kd.at_string HR0.out x13_1 p115 q115
        cases e115; replace hx115_0 := (HB.out.cell (bL w _ hx115_0)).trans hx115_0; replace p115 := eq_true p115; replace q115 := eq_true q115; obtain ⟨Ao11, co11, eo11⟩ := Kd.R_slice HO_3.out; subst eo11; go_wp2_with (first | ((with_reducible refine gate_callee (f := 92) rfl ?_); refine goesL_ (some 21) rfl rfl Try.func92 (by kernel_rfl) rfl #[.int .i64 (x3_1.length : Int), .string (rdOf ByteArray.empty l0 x13_1)] rfl (by (try simp only [List.map_toArray, List.map_cons, List.map_nil]); first | done | rfl | (simp only [lD, lT]; rfl)) ?_; (with_reducible refine (probe_first.calls k1 (x3_1.length : Int) (rdOf ByteArray.empty l0 x13_1) t116 _ A10.out).mono ?_); rintro e w' ⟨rfl, ⟨nd, rfl⟩⟩; refine ⟨_, rfl, ?_⟩))
        go_loopg [6] k1 (fun kq v6 w' => ∃ (x6_2 : Int), v6 = .int .i64 x6_2 ∧ Aside0 (probe_Build.l1 kq x3_1 x13_1 x6_2 l0 (l0.length : Int) x13_1 = some r) ∧ Aside0 (kq ≤ k1) ∧ Aside0 (Kd.R (Kd.int .i64) 3 w' w.heap.size (fun _ => True) (.slice Ao11 x3_1.length co11) x3_1) ∧ Aside0 (Below w.heap.size w w'))
        case atStart => exact ⟨(t116), (by first | rfl | (simp; done) | (simp [*]; done)), H', ⟨Nat.le_refl _⟩, ⟨by (with_reducible repeat (first | apply rA | apply rN | apply rD)); exact HO_3.out⟩, ⟨by repeat (first | (with_reducible first | exact HB.out | apply wA | apply wN | apply wD) | exact HB.out)⟩⟩
        case round =>
         clear H'; try clear p1
         try clear q1
         try clear hx1
         try clear p2
         try clear c3
         try clear c3b0
         try clear c3b1
         try clear c4
         try clear c4b0
         try clear c4b1
         try clear c7
         try clear c7b0
         try clear c8
         try clear c8b0
         try clear c9
         try clear c9b0
         try clear p11
         try clear q11
         try clear hx11
         try clear hx115_0
         try clear p115
         try clear p2
         try clear q115
         obtain ⟨x6_2, rfl, HA, HK2, HO_3, HB⟩ := hrel
         cases gk with
         | zero => exact absurd HA.out (by simp [probe_Build.l1])
         | succ k2 =>
          have H := HA.out; clear HA; simp only [probe_Build.l1] at H; by_cases c12 : 0 ≤ x6_2
          ·
           rw [if_pos c12] at H; have c12b0 : decide (0 ≤ x6_2) = true := dT c12; clear c12; by_cases c13 : x6_2 < (x3_1.length : Int)
           ·
            rw [if_pos c13] at H; have c13b0 : decide (x6_2 < (x3_1.length : Int)) = true := dT c13; clear c13; by_cases c14 : (rd x3_1 x6_2) = 0
            ·
             rw [if_pos c14] at H; have c14b0 : ((rd x3_1 x6_2) == 0) = true := beq_iff_eq.mpr c14; have c14b1 : ((rd x3_1 x6_2) != 0) = false := bne_eq_false_iff_eq.mpr c14; clear c14; obtain ⟨y118, hy118⟩ : ∃ y_ : List Int, y_ = (x3_1.set (x6_2 : Int).toNat (wrap64 (x13_1 + 1))) := ⟨_, rfl⟩; replace H : (probe_Build.l0 k2 y118 l0 (l0.length : Int) (wrap64 (x13_1 + 1))) = some r := by first | (rw [hy118]; with_reducible exact H) | (have H2_ := (Option.bind_some _ _).symm.trans H; rw [hy118]; with_reducible exact H2_) | (have H2_ := (Option.bind_some _ _).symm.trans H; with_reducible exact H2_) | with_reducible exact H | (rw [hy118]; exact H) | exact H
             have Ny118 := K0 hy118; clear hy118; have H' := K0 H; clear H; have p117 : 0 ≤ (x6_2 : Int) := oT (by first | (with_reducible assumption) | assumption); have q117 : x6_2 < (x3_1.length : Int) := oT (by first | (with_reducible assumption) | assumption); obtain ⟨ad117, e117, hx117_0⟩ := Kd.at_int (Kd.R_reads' HO_3.out).2.2 x6_2 p117 q117
             cases e117; replace p117 := eq_true p117; replace q117 := eq_true q117; have p15 : 0 ≤ (x6_2 : Int) := oT (by first | (with_reducible assumption) | assumption); have q15 : (x6_2 : Int) < ((x3_1.length : Int) : Int) := oT (by first | (with_reducible assumption) | assumption); obtain ⟨go15, co15, eo15, gb15, gl15, cl15, HG15⟩ := Kd.R_form HO_3.out (by omega); (first | cases eo15 | (injection eo15 with ea_ en_ ec_; (first | subst ea_ | (injection ea_ with ea_; subst ea_)); subst ec_; clear en_))
             have GB15 := K0 gb15; have GG15 := K0 HG15; clear gb15 gl15 HG15; (first | simp only [add_plain] at hx117_0 | skip)
             obtain ⟨hx15_0, hf15_0⟩ := Kd.R_celln 0 HO_3.out (x6_2 : Int) p15 q15; replace p15 := eq_true p15; replace q15 := eq_true q15; have HP16 := Kd.R_putg HO_3.out (x6_2 : Int) (wrap64 (x13_1 + 1)); go_wp2_with (first | ((with_reducible refine gate_store (t := 3) (p := 37) rfl ?_); refine store_event (t := 3) (p := 37) (v := ?vo_w17) (w1 := (wr.setCell ⟨go15, (x6_2 : Int).toNat, none⟩ (.int .i64 (wrap64 (x13_1 + 1))))) ?hg ?ho ?hn ?hr ?_; (case ho => rfl); (case hg => rfl); (case hn => rfl); (case hr => first | (go_simp; done) | (go_simp; rfl)); intro w17 hw; have hg : wr.grownBy w17 (some go15) := (by rw [hw]; exact HP16.2); have hp_ : Kd.R (Kd.int .i64) 3 w17 w.heap.size (fun _ => True) (.slice (some ⟨go15, 0, none⟩) x3_1.length co11) y118 := (by rw [hw, Ny118.out]; exact HP16.1); clear HP16; have n0_ := K0 (hp_); have n1_ := K0 ((by rw [hw]; exact wS (HB.out) GB15.out : Below w.heap.size w w17)); clear HO_3; clear HB; have HO_3 := n0_; have HB := n1_; clear n0_ n1_; clear hg hw hp_))
             go_roundg k2
             case measure => have := HK1.out; have := HK2.out; omega
             case rel => exact ⟨(y118), (wrap64 (x13_1 + 1)), (by first | rfl | (simp; done) | (simp [*]; done)), H', ⟨by have := HK1.out; have := HK2.out; omega⟩, ⟨by (with_reducible repeat (first | apply rA | apply rN | apply rD)); exact HO_3.out⟩, ⟨by repeat (first | (with_reducible first | exact HB.out | apply wA | apply wN | apply wD) | exact HB.out)⟩⟩
            rw [if_neg c14] at H; have c14b0 : ((rd x3_1 x6_2) == 0) = false := beq_eq_false_iff_ne.mpr c14; have c14b1 : ((rd x3_1 x6_2) != 0) = true := bne_iff_ne.mpr c14; have H' := K0 H; clear H; have p117 : 0 ≤ (x6_2 : Int) := oT (by first | (with_reducible assumption) | assumption); have q117 : x6_2 < (x3_1.length : Int) := oT (by first | (with_reducible assumption) | assumption); obtain ⟨ad117, e117, hx117_0⟩ := Kd.at_int (Kd.R_reads' HO_3.out).2.2 x6_2 p117 q117
            cases e117; replace p117 := eq_true p117; replace q117 := eq_true q117; go_wp2
            go_roundg k2
            case measure => have := HK1.out; have := HK2.out; omega
            case rel => exact ⟨(Go.bits .and .i64 (wrap64 (x6_2 + 1)) (wrap64 ((x3_1.length : Int) - 1))), (by first | rfl | (simp; done) | (simp [*]; done)), H', ⟨by have := HK1.out; have := HK2.out; omega⟩, ⟨by (with_reducible repeat (first | apply rA | apply rN | apply rD)); exact HO_3.out⟩, ⟨by repeat (first | (with_reducible first | exact HB.out | apply wA | apply wN | apply wD) | exact HB.out)⟩⟩
           rw [if_neg c13] at H; exact absurd H (by simp)
          rw [if_neg c12] at H; exact absurd H (by simp)
       rw [if_neg c9] at H; exact absurd H (by simp)
      rw [if_neg c8] at H; exact absurd H (by simp)
     rw [if_neg c7] at H; have c7b0 : decide (x13_1 < (l0.length : Int)) = false := dF c7; clear c7; obtain rfl := Option.some.inj H; go_wp2
     go_ret; exact ⟨_, by first | rfl | (simp [errW_none, errW_some] <;> rfl) | (simp [*, errW_none, errW_some] <;> rfl), by (with_reducible repeat (first | apply rA | apply rN | apply rD)); exact HO_3.out, by repeat (first | (with_reducible first | exact HB.out | apply wA | apply wN | apply wD) | exact HB.out)⟩
  rw [if_neg c4] at H
  exact absurd H (by simp)
 rw [if_neg c3] at H
 exact absurd H (by simp)
/-! ### rev_laid: function 55 -/
def rev_laid.l0 : Nat → List (S114) → Int → Int → Int → Int → ByteArray → ByteArray → Bool → Bool → List ByteArray → List ByteArray → List Bool → Option (Int × Int × ByteArray × ByteArray × Bool × Bool × List ByteArray × List ByteArray × List Bool × List Int)
 | 0, _, _, _, _, _, _, _, _, _, _, _, _ => none
 | k + 1, x16, x17, x18, x122000, x122001, x122002, x122003, x122004, x122005, x122006, x122007, x122008 => if x18 < x17 then (if 0 ≤ x18 then (if x18 < (x16.length : Int) then (if x122006.length < 8796093022208 then (if x122007.length < 8796093022208 then (if x122008.length < 140737488355328 then (rev_laid.l0 k x16 x17 (wrap64 (x18 + 1)) x122000 x122001 x122002 x122003 x122004 x122005 (x122006 ++ [(rd_T114 x16 x18).f0]) (x122007 ++ [(rd_T114 x16 x18).f1]) (x122008 ++ [(rd_T114 x16 x18).f2])) else (none)) else (none)) else (none)) else (none)) else (none)) else ((probe_Build.f k x122006).bind fun t129 => (some (x122000, x122001, x122002, x122003, x122004, x122005, x122006, x122007, x122008, t129)))
def rev_laid.f (k : Nat) (a0 : Int) (a1 : Int) (a2_0 : ByteArray) (a2_1 : ByteArray) (a2_2 : Bool) (l3 : List (S114)) : Option (Int × Int × ByteArray × ByteArray × Bool × Bool × List ByteArray × List ByteArray × List Bool × List Int) := rev_laid.l0 k l3 (l3.length : Int) 0 a0 a1 a2_0 a2_1 a2_2 false ([] : List ByteArray) ([] : List ByteArray) ([] : List Bool)
set_option maxHeartbeats 8000000 in
set_option maxRecDepth 100000 in
theorem rev_laid.calls (k : Nat) (a0 : Int) (a1 : Int) (a2_0 : ByteArray) (a2_1 : ByteArray) (a2_2 : Bool) (A3 : Option Addr) (c3 : Nat) (l3 : List (S114)) (r1 : Int) (r2 : Int) (r3 : ByteArray) (r4 : ByteArray) (r5 : Bool) (r6 : Bool) (r7 : List ByteArray) (r8 : List ByteArray) (r9 : List Bool) (r10 : List Int) (w : World) (hr3 : Kd.C k114 w A3 l3.length l3) (hc3 : l3.length ≤ c3) (h : rev_laid.f k a0 a1 a2_0 a2_1 a2_2 l3 = some (r1, r2, r3, r4, r5, r6, r7, r8, r9, r10)) :
  Calls Try.prog 55 #[.int .i64 a0, .int .i64 a1, .agg #[.string a2_0, .string a2_1, .bool a2_2], .slice A3 l3.length c3] w fun e w' => ∃ v6_ v7_ v8_ v9_ : Value, e = .returned (.agg #[.int .i64 r1, .int .i64 r2, .string r3, .string r4, .bool r5, .bool r6, v6_, v7_, v8_, v9_]) ∧ Kd.R Kd.string 9 w' w.heap.size (fun k_ => some k_ ≠ (v7_ : Value).ownBlock) v6_ r7 ∧ Kd.R Kd.string 9 w' w.heap.size (fun k_ => some k_ ≠ (v6_ : Value).ownBlock) v7_ r8 ∧ Kd.R Kd.bool 4 w' w.heap.size (fun _ => True) v8_ r9 ∧ Kd.R (Kd.int .i64) 3 w' w.heap.size (fun _ => True) v9_ r10 ∧ Below w.heap.size w w' := by
 have hu32 := Try.underlying32
 have hu37 := Try.underlying37
 have hu114 := Try.underlying114
 have HR3 := K0 hr3
 have HC3 := K0 hc3
 clear hr3 hc3
 have HB := K0 (Below.refl w.heap.size w)
 have H : (rev_laid.l0 k l3 (l3.length : Int) 0 a0 a1 a2_0 a2_1 a2_2 false ([] : List ByteArray) ([] : List ByteArray) ([] : List Bool)) = some (r1, r2, r3, r4, r5, r6, r7, r8, r9, r10) := h
 clear h
 have H' := K0 H
 clear H
 go_enter Try.func55, Try.ntmps55
 go_wp2_with (first | ((with_reducible refine gate_dst (N := 6) rfl ?_); refine box_event ?hg (N := 6) ?hd (cs := #[.string a2_0, .string a2_1, .bool a2_2]) (t := 32) ?hr ?_; (case hd => rfl); (case hg => rfl); (case hr => first | (go_simp; done) | (go_simp; rfl)); intro gb119 hg w5 hbox hb; have n0_ := K0 (below_step (by repeat (first | (with_reducible first | exact HB.out | apply wA | apply wN | apply wD) | exact HB.out)) hb); have n1_ := K0 (hbox); have n2_ := K0 ((by rw [hg]; exact (below_size (by repeat (first | (with_reducible first | exact HB.out | apply wA | apply wN | apply wD) | exact HB.out))) : w.heap.size ≤ gb119)); have n3_ := K0 ((by rw [hg]; exact (below_size (by repeat (first | (with_reducible first | exact HB.out | apply wA | apply wN | apply wD) | exact HB.out))) : w.heap.size ≤ gb119)); clear HB; have HB := n0_; have BK119 := n1_; have GW119 := n2_; have GE119 := n3_; clear n0_ n1_ n2_ n3_; clear hb hbox hg) | ((with_reducible refine gate_dst (N := 8) rfl ?_); refine box_event ?hg (N := 8) ?hd (cs := #[.int .i64 0, .int .i64 0, .string (⟨#[]⟩ : ByteArray), .string (⟨#[]⟩ : ByteArray), .bool false, .bool false, .slice none 0 0, .slice none 0 0, .slice none 0 0, .slice none 0 0]) (t := 37) ?hr ?_; (case hd => rfl); (case hg => rfl); (case hr => first | (go_simp; done) | (go_simp; rfl)); intro gb120 hg w6 hbox hb; have n0_ := K0 (bB (g := gb119) (o := .cells #[.string a2_0, .string a2_1, .bool a2_2] 32 (0, 0)) (by (with_reducible repeat (first | refine bN ?_ _ | refine bD ?_ | refine bA ?_ _)); exact BK119.out) hb); have n1_ := K0 (below_step (by repeat (first | (with_reducible first | exact HB.out | apply wA | apply wN | apply wD | refine wS ?_ GE119.out) | exact HB.out)) hb); have n2_ := K0 (hbox); have n3_ := K0 ((by rw [hg]; exact (below_size (by repeat (first | (with_reducible first | exact HB.out | apply wA | apply wN | apply wD | refine wS ?_ GE119.out) | exact HB.out))) : w.heap.size ≤ gb120)); have n4_ := K0 ((by rw [hg]; exact (below_size (by repeat (first | (with_reducible first | exact HB.out | apply wA | apply wN | apply wD | refine wS ?_ GE119.out) | exact HB.out))) : w.heap.size ≤ gb120)); have n5_ := K0 ((by rw [hg]; exact Nat.ne_of_lt (blk_lt (g := gb119) (o := .cells #[.string a2_0, .string a2_1, .bool a2_2] 32 (0, 0)) (by (with_reducible repeat (first | refine bN ?_ _ | refine bD ?_ | refine bA ?_ _)); exact BK119.out)) : gb119 ≠ gb120)); have n6_ := K0 ((by rw [hg]; exact Nat.ne_of_gt (blk_lt (g := gb119) (o := .cells #[.string a2_0, .string a2_1, .bool a2_2] 32 (0, 0)) (by (with_reducible repeat (first | refine bN ?_ _ | refine bD ?_ | refine bA ?_ _)); exact BK119.out)) : gb120 ≠ gb119)); clear BK119; clear HB; have BK119 := n0_; have HB := n1_; have BK120 := n2_; have GW120 := n3_; have GE120 := n4_; have NB119_120 := n5_; have NB120_119 := n6_; clear n0_ n1_ n2_ n3_ n4_ n5_ n6_; clear hb hbox hg; have hnb7 := NB119_120.out; have hnc7 := NB120_119.out; obtain ⟨hcz8_0, hcz8_1, hcz8_2⟩ := cellS3 BK119.out; obtain ⟨hfz8_0, hfz8_1, hfz8_2⟩ := frozS3 BK119.out) | ((with_reducible refine gate_dst (N := 9) rfl ?_); refine box_event ?hg (N := 9) ?hd (cs := #[.int .i64 0, .int .i64 0, .string (⟨#[]⟩ : ByteArray), .string (⟨#[]⟩ : ByteArray), .bool false, .bool false, .slice none 0 0, .slice none 0 0, .slice none 0 0, .slice none 0 0]) (t := 37) ?hr ?_; (case hd => rfl); (case hg => rfl); (case hr => first | (go_simp; done) | (go_simp; rfl)); intro gb121 hg w9 hbox hb; have n0_ := K0 (bB (g := gb119) (o := .cells #[.string a2_0, .string a2_1, .bool a2_2] 32 (0, 0)) (by (with_reducible repeat (first | refine bN ?_ _ | refine bD ?_ | refine bA ?_ _)); exact BK119.out) hb); have n1_ := K0 (bB (g := gb120) (o := .cells #[.int .i64 0, .int .i64 0, .string (⟨#[]⟩ : ByteArray), .string (⟨#[]⟩ : ByteArray), .bool false, .bool false, .slice none 0 0, .slice none 0 0, .slice none 0 0, .slice none 0 0] 37 (0, 0)) (by (with_reducible repeat (first | refine bN ?_ _ | refine bD ?_ | refine bA ?_ _)); exact BK120.out) hb); have n2_ := K0 (below_step (by repeat (first | (with_reducible first | exact HB.out | apply wA | apply wN | apply wD | refine wS ?_ GE119.out | refine wS ?_ GE120.out) | exact HB.out)) hb); have n3_ := K0 (hbox); have n4_ := K0 ((by rw [hg]; exact (below_size (by repeat (first | (with_reducible first | exact HB.out | apply wA | apply wN | apply wD | refine wS ?_ GE119.out | refine wS ?_ GE120.out) | exact HB.out))) : w.heap.size ≤ gb121)); have n5_ := K0 ((by rw [hg]; exact (below_size (by repeat (first | (with_reducible first | exact HB.out | apply wA | apply wN | apply wD | refine wS ?_ GE119.out | refine wS ?_ GE120.out) | exact HB.out))) : w.heap.size ≤ gb121)); have n6_ := K0 ((by rw [hg]; exact Nat.ne_of_lt (blk_lt (g := gb119) (o := .cells #[.string a2_0, .string a2_1, .bool a2_2] 32 (0, 0)) (by (with_reducible repeat (first | refine bN ?_ _ | refine bD ?_ | refine bA ?_ _)); exact BK119.out)) : gb119 ≠ gb121)); have n7_ := K0 ((by rw [hg]; exact Nat.ne_of_gt (blk_lt (g := gb119) (o := .cells #[.string a2_0, .string a2_1, .bool a2_2] 32 (0, 0)) (by (with_reducible repeat (first | refine bN ?_ _ | refine bD ?_ | refine bA ?_ _)); exact BK119.out)) : gb121 ≠ gb119)); have n8_ := K0 ((by rw [hg]; exact Nat.ne_of_lt (blk_lt (g := gb120) (o := .cells #[.int .i64 0, .int .i64 0, .string (⟨#[]⟩ : ByteArray), .string (⟨#[]⟩ : ByteArray), .bool false, .bool false, .slice none 0 0, .slice none 0 0, .slice none 0 0, .slice none 0 0] 37 (0, 0)) (by (with_reducible repeat (first | refine bN ?_ _ | refine bD ?_ | refine bA ?_ _)); exact BK120.out)) : gb120 ≠ gb121)); have n9_ := K0 ((by rw [hg]; exact Nat.ne_of_gt (blk_lt (g := gb120) (o := .cells #[.int .i64 0, .int .i64 0, .string (⟨#[]⟩ : ByteArray), .string (⟨#[]⟩ : ByteArray), .bool false, .bool false, .slice none 0 0, .slice none 0 0, .slice none 0 0, .slice none 0 0] 37 (0, 0)) (by (with_reducible repeat (first | refine bN ?_ _ | refine bD ?_ | refine bA ?_ _)); exact BK120.out)) : gb121 ≠ gb120)); clear BK119; clear BK120; clear HB; have BK119 := n0_; have BK120 := n1_; have HB := n2_; have BK121 := n3_; have GW121 := n4_; have GE121 := n5_; have NB119_121 := n6_; have NB121_119 := n7_; have NB120_121 := n8_; have NB121_120 := n9_; clear n0_ n1_ n2_ n3_ n4_ n5_ n6_ n7_ n8_ n9_; clear hb hbox hg; have hnb10 := NB121_119.out; have hnc10 := NB119_121.out; have hnb11 := NB121_120.out; have hnc11 := NB120_121.out; obtain ⟨hcz12_0, hcz12_1, hcz12_2, hcz12_3, hcz12_4, hcz12_5, hcz12_6, hcz12_7, hcz12_8, hcz12_9⟩ := cellS10 BK121.out; obtain ⟨hfz12_0, hfz12_1, hfz12_2, hfz12_3, hfz12_4, hfz12_5, hfz12_6, hfz12_7, hfz12_8, hfz12_9⟩ := frozS10 BK121.out))
 go_loopg [18] k (fun kq v18 w' => ∃ (x18_1 : Int) (x122006_1 : List ByteArray) (x122007_1 : List ByteArray) (x122008_1 : List Bool) (u122006 : Value) (u122007 : Value) (u122008 : Value), v18 = .int .i64 x18_1 ∧ Aside0 (rev_laid.l0 kq l3 (l3.length : Int) x18_1 a0 a1 a2_0 a2_1 a2_2 false x122006_1 x122007_1 x122008_1 = some (r1, r2, r3, r4, r5, r6, r7, r8, r9, r10)) ∧ Aside0 (kq ≤ k) ∧ Aside0 (Kd.R Kd.string 9 w' w.heap.size (fun k_ => some k_ ≠ (u122007 : Value).ownBlock) u122006 x122006_1) ∧ Aside0 (Kd.R Kd.string 9 w' w.heap.size (fun k_ => some k_ ≠ (u122006 : Value).ownBlock) u122007 x122007_1) ∧ Aside0 (Kd.R Kd.bool 4 w' w.heap.size (fun _ => True) u122008 x122008_1) ∧ Aside0 (w'.heap[gb119]? = some (.cells #[.string a2_0, .string a2_1, .bool a2_2] 32 (0, 0))) ∧ Aside0 (w'.heap[gb120]? = some (.cells #[.int .i64 0, .int .i64 0, .string (⟨#[]⟩ : ByteArray), .string (⟨#[]⟩ : ByteArray), .bool false, .bool false, (.slice none 0 0), (.slice none 0 0), (.slice none 0 0), (.slice none 0 0)] 37 (0, 0))) ∧ Aside0 (w'.heap[gb121]? = some (.cells #[.int .i64 a0, .int .i64 a1, .string a2_0, .string a2_1, .bool a2_2, .bool false, u122006, u122007, u122008, (.slice none 0 0)] 37 (0, 0))) ∧ Aside0 (Below w.heap.size w w'))
 case atStart => exact ⟨(0), (([] : List ByteArray)), (([] : List ByteArray)), (([] : List Bool)), (.slice none 0 0), (.slice none 0 0), (.slice none 0 0), (by first | rfl | (simp; done) | (simp [*]; done)), H', ⟨Nat.le_refl _⟩, ⟨by first | exact Kd.R_nil _ _ _ _ _ | exact Kd.N_nil _ _ _ _ _ | exact Kd.V_nil _ _ _ _ _ | exact Kd.Q_nil _ _ _ _ _ | exact Kd.S_nil _ _ _ _ _⟩, ⟨by first | exact Kd.R_nil _ _ _ _ _ | exact Kd.N_nil _ _ _ _ _ | exact Kd.V_nil _ _ _ _ _ | exact Kd.Q_nil _ _ _ _ _ | exact Kd.S_nil _ _ _ _ _⟩, ⟨by first | exact Kd.R_nil _ _ _ _ _ | exact Kd.N_nil _ _ _ _ _ | exact Kd.V_nil _ _ _ _ _ | exact Kd.Q_nil _ _ _ _ _ | exact Kd.S_nil _ _ _ _ _⟩, ⟨by (with_reducible repeat (first | refine bN ?_ _ | refine bD ?_ | refine bA ?_ _)); refine blk_far ?_ NB119_121.out _; (with_reducible repeat (first | refine bN ?_ _ | refine bD ?_ | refine bA ?_ _)); refine blk_far ?_ NB119_121.out _; (with_reducible repeat (first | refine bN ?_ _ | refine bD ?_ | refine bA ?_ _)); refine blk_far ?_ NB119_121.out _; (with_reducible repeat (first | refine bN ?_ _ | refine bD ?_ | refine bA ?_ _)); refine blk_far ?_ NB119_121.out _; (with_reducible repeat (first | refine bN ?_ _ | refine bD ?_ | refine bA ?_ _)); refine blk_far ?_ NB119_121.out _; (with_reducible repeat (first | refine bN ?_ _ | refine bD ?_ | refine bA ?_ _)); refine blk_far ?_ NB119_121.out _; (with_reducible repeat (first | refine bN ?_ _ | refine bD ?_ | refine bA ?_ _)); refine blk_far ?_ NB119_121.out _; (with_reducible repeat (first | refine bN ?_ _ | refine bD ?_ | refine bA ?_ _)); refine blk_far ?_ NB119_121.out _; (with_reducible repeat (first | refine bN ?_ _ | refine bD ?_ | refine bA ?_ _)); refine blk_far ?_ NB119_121.out _; (with_reducible repeat (first | refine bN ?_ _ | refine bD ?_ | refine bA ?_ _)); refine blk_far ?_ NB119_121.out _; (with_reducible repeat (first | refine bN ?_ _ | refine bD ?_ | refine bA ?_ _)); exact BK119.out⟩, ⟨by (with_reducible repeat (first | refine bN ?_ _ | refine bD ?_ | refine bA ?_ _)); refine blk_far ?_ NB120_121.out _; (with_reducible repeat (first | refine bN ?_ _ | refine bD ?_ | refine bA ?_ _)); refine blk_far ?_ NB120_121.out _; (with_reducible repeat (first | refine bN ?_ _ | refine bD ?_ | refine bA ?_ _)); refine blk_far ?_ NB120_121.out _; (with_reducible repeat (first | refine bN ?_ _ | refine bD ?_ | refine bA ?_ _)); refine blk_far ?_ NB120_121.out _; (with_reducible repeat (first | refine bN ?_ _ | refine bD ?_ | refine bA ?_ _)); refine blk_far ?_ NB120_121.out _; (with_reducible repeat (first | refine bN ?_ _ | refine bD ?_ | refine bA ?_ _)); refine blk_far ?_ NB120_121.out _; (with_reducible repeat (first | refine bN ?_ _ | refine bD ?_ | refine bA ?_ _)); refine blk_far ?_ NB120_121.out _; (with_reducible repeat (first | refine bN ?_ _ | refine bD ?_ | refine bA ?_ _)); refine blk_far ?_ NB120_121.out _; (with_reducible repeat (first | refine bN ?_ _ | refine bD ?_ | refine bA ?_ _)); refine blk_far ?_ NB120_121.out _; (with_reducible repeat (first | refine bN ?_ _ | refine bD ?_ | refine bA ?_ _)); refine blk_far ?_ NB120_121.out _; (with_reducible repeat (first | refine bN ?_ _ | refine bD ?_ | refine bA ?_ _)); exact BK120.out⟩, ⟨by (with_reducible repeat (first | refine bN ?_ _ | refine bD ?_ | refine bA ?_ _)); apply blkS10; (with_reducible repeat (first | refine bN ?_ _ | refine bD ?_ | refine bA ?_ _)); exact BK121.out⟩, ⟨by repeat (first | (with_reducible first | exact HB.out | apply wA | apply wN | apply wD | refine wS ?_ GE119.out | refine wS ?_ GE120.out | refine wS ?_ GE121.out) | exact HB.out)⟩⟩
 case round =>
  clear H'
  try clear c1
  try clear p2
  try clear c3
  try clear c5
  try clear c7
  try clear c10
  try clear c11
  try clear hcz12_0
  try clear hcz12_1
  try clear hcz12_2
  try clear hcz12_3
  try clear hcz12_4
  try clear hcz12_5
  try clear hcz12_6
  try clear hcz12_7
  try clear hcz12_8
  try clear hcz12_9
  try clear hcz8_0
  try clear hcz8_1
  try clear hcz8_2
  try clear hfz12_0
  try clear hfz12_1
  try clear hfz12_2
  try clear hfz12_3
  try clear hfz12_4
  try clear hfz12_5
  try clear hfz12_6
  try clear hfz12_7
  try clear hfz12_8
  try clear hfz12_9
  try clear hfz8_0
  try clear hfz8_1
  try clear hfz8_2
  obtain ⟨x18_1, x122006_1, x122007_1, x122008_1, u122006, u122007, u122008, rfl, HA, HK1, HO_122006, HO_122007, HO_122008, BK119, BK120, BK121, HB⟩ := hrel
  cases gk with
  | zero => exact absurd HA.out (by simp [rev_laid.l0])
  | succ k1 =>
   have H := HA.out; clear HA; simp only [rev_laid.l0] at H; by_cases c13 : x18_1 < (l3.length : Int)
   ·
    rw [if_pos c13] at H; have c13b0 : decide (x18_1 < (l3.length : Int)) = true := dT c13; clear c13; by_cases c14 : 0 ≤ x18_1
    ·
     rw [if_pos c14] at H; have c14b0 : decide (0 ≤ x18_1) = true := dT c14; clear c14; by_cases c15 : x18_1 < (l3.length : Int)
     ·
      rw [if_pos c15] at H; have c15b0 : decide (x18_1 < (l3.length : Int)) = true := dT c15; clear c15; by_cases c16 : x122006_1.length < 8796093022208
      ·
       rw [if_pos c16] at H; have LMc16 := K0 c16; clear c16; obtain ⟨y120, hy120⟩ : ∃ y_ : List ByteArray, y_ = (x122006_1 ++ [(rd_T114 l3 x18_1).f0]) := ⟨_, rfl⟩; replace H : (if x122007_1.length < 8796093022208 then (if x122008_1.length < 140737488355328 then (rev_laid.l0 k1 l3 (l3.length : Int) (wrap64 (x18_1 + 1)) a0 a1 a2_0 a2_1 a2_2 false y120 (x122007_1 ++ [(rd_T114 l3 x18_1).f1]) (x122008_1 ++ [(rd_T114 l3 x18_1).f2])) else (none)) else (none)) = some (r1, r2, r3, r4, r5, r6, r7, r8, r9, r10) := by first | (rw [hy120]; with_reducible exact H) | (have H2_ := (Option.bind_some _ _).symm.trans H; rw [hy120]; with_reducible exact H2_) | (have H2_ := (Option.bind_some _ _).symm.trans H; with_reducible exact H2_) | with_reducible exact H | (rw [hy120]; exact H) | exact H
       have Ny120 := K0 hy120; clear hy120; by_cases c17 : x122007_1.length < 8796093022208
       ·
        rw [if_pos c17] at H; have LMc17 := K0 c17; clear c17; obtain ⟨y123, hy123⟩ : ∃ y_ : List ByteArray, y_ = (x122007_1 ++ [(rd_T114 l3 x18_1).f1]) := ⟨_, rfl⟩; replace H : (if x122008_1.length < 140737488355328 then (rev_laid.l0 k1 l3 (l3.length : Int) (wrap64 (x18_1 + 1)) a0 a1 a2_0 a2_1 a2_2 false y120 y123 (x122008_1 ++ [(rd_T114 l3 x18_1).f2])) else (none)) = some (r1, r2, r3, r4, r5, r6, r7, r8, r9, r10) := by first | (rw [hy123]; with_reducible exact H) | (have H2_ := (Option.bind_some _ _).symm.trans H; rw [hy123]; with_reducible exact H2_) | (have H2_ := (Option.bind_some _ _).symm.trans H; with_reducible exact H2_) | with_reducible exact H | (rw [hy123]; exact H) | exact H
        have Ny123 := K0 hy123; clear hy123; by_cases c18 : x122008_1.length < 140737488355328
        ·
         rw [if_pos c18] at H; have LMc18 := K0 c18; clear c18; obtain ⟨y126, hy126⟩ : ∃ y_ : List Bool, y_ = (x122008_1 ++ [(rd_T114 l3 x18_1).f2]) := ⟨_, rfl⟩; replace H : (rev_laid.l0 k1 l3 (l3.length : Int) (wrap64 (x18_1 + 1)) a0 a1 a2_0 a2_1 a2_2 false y120 y123 y126) = some (r1, r2, r3, r4, r5, r6, r7, r8, r9, r10) := by first | (rw [hy126]; with_reducible exact H) | (have H2_ := (Option.bind_some _ _).symm.trans H; rw [hy126]; with_reducible exact H2_) | (have H2_ := (Option.bind_some _ _).symm.trans H; with_reducible exact H2_) | with_reducible exact H | (rw [hy126]; exact H) | exact H
         have Ny126 := K0 hy126; clear hy126; have H' := K0 H; clear H; have p119 : 0 ≤ (x18_1 : Int) := oT (by first | (with_reducible assumption) | assumption); have q119 : x18_1 < (l3.length : Int) := oT (by first | (with_reducible assumption) | assumption); obtain ⟨ad119, e119, hx119_0, hx119_1, hx119_2⟩ := at_T114b HR3.out HB.out x18_1 p119 q119
         cases e119; replace p119 := eq_true p119; replace q119 := eq_true q119; go_wp2_with (first | ((with_reducible refine gate_dst (N := 11) rfl ?_); refine box_event ?hg (N := 11) ?hd (cs := #[.string (⟨#[]⟩ : ByteArray), .string (⟨#[]⟩ : ByteArray), .bool false]) (t := 114) ?hr ?_; (case hd => rfl); (case hg => rfl); (case hr => first | (go_simp; done) | (go_simp; rfl)); intro gb123 hg w19 hbox hb; have n0_ := K0 (rB (by (with_reducible repeat (first | apply rA | apply rN | apply rD)); exact HO_122006.out) hb); have n1_ := K0 (rB (by (with_reducible repeat (first | apply rA | apply rN | apply rD)); exact HO_122007.out) hb); have n2_ := K0 (rB (by (with_reducible repeat (first | apply rA | apply rN | apply rD)); exact HO_122008.out) hb); have n3_ := K0 (bB (g := gb119) (o := .cells #[.string a2_0, .string a2_1, .bool a2_2] 32 (0, 0)) (by (with_reducible repeat (first | refine bN ?_ _ | refine bD ?_ | refine bA ?_ _)); exact BK119.out) hb); have n4_ := K0 (bB (g := gb120) (o := .cells #[.int .i64 0, .int .i64 0, .string (⟨#[]⟩ : ByteArray), .string (⟨#[]⟩ : ByteArray), .bool false, .bool false, .slice none 0 0, .slice none 0 0, .slice none 0 0, .slice none 0 0] 37 (0, 0)) (by (with_reducible repeat (first | refine bN ?_ _ | refine bD ?_ | refine bA ?_ _)); exact BK120.out) hb); have n5_ := K0 (bB (g := gb121) (o := .cells #[.int .i64 a0, .int .i64 a1, .string a2_0, .string a2_1, .bool a2_2, .bool false, u122006, u122007, u122008, .slice none 0 0] 37 (0, 0)) (by (with_reducible repeat (first | refine bN ?_ _ | refine bD ?_ | refine bA ?_ _)); exact BK121.out) hb); have n6_ := K0 (below_step (by repeat (first | (with_reducible first | exact HB.out | apply wA | apply wN | apply wD | refine wS ?_ GE119.out | refine wS ?_ GE120.out | refine wS ?_ GE121.out) | exact HB.out)) hb); have n7_ := K0 (hbox); have n8_ := K0 ((by rw [hg]; exact (below_size (by repeat (first | (with_reducible first | exact HB.out | apply wA | apply wN | apply wD | refine wS ?_ GE119.out | refine wS ?_ GE120.out | refine wS ?_ GE121.out) | exact HB.out))) : w.heap.size ≤ gb123)); have n9_ := K0 ((by rw [hg]; exact (below_size (by repeat (first | (with_reducible first | exact HB.out | apply wA | apply wN | apply wD | refine wS ?_ GE119.out | refine wS ?_ GE120.out | refine wS ?_ GE121.out) | exact HB.out))) : w.heap.size ≤ gb123)); have n10_ := K0 ((by rw [hg]; exact Nat.ne_of_lt (blk_lt (g := gb119) (o := .cells #[.string a2_0, .string a2_1, .bool a2_2] 32 (0, 0)) (by (with_reducible repeat (first | refine bN ?_ _ | refine bD ?_ | refine bA ?_ _)); exact BK119.out)) : gb119 ≠ gb123)); have n11_ := K0 ((by rw [hg]; exact Nat.ne_of_gt (blk_lt (g := gb119) (o := .cells #[.string a2_0, .string a2_1, .bool a2_2] 32 (0, 0)) (by (with_reducible repeat (first | refine bN ?_ _ | refine bD ?_ | refine bA ?_ _)); exact BK119.out)) : gb123 ≠ gb119)); have n12_ := K0 ((by rw [hg]; exact Nat.ne_of_lt (blk_lt (g := gb120) (o := .cells #[.int .i64 0, .int .i64 0, .string (⟨#[]⟩ : ByteArray), .string (⟨#[]⟩ : ByteArray), .bool false, .bool false, .slice none 0 0, .slice none 0 0, .slice none 0 0, .slice none 0 0] 37 (0, 0)) (by (with_reducible repeat (first | refine bN ?_ _ | refine bD ?_ | refine bA ?_ _)); exact BK120.out)) : gb120 ≠ gb123)); have n13_ := K0 ((by rw [hg]; exact Nat.ne_of_gt (blk_lt (g := gb120) (o := .cells #[.int .i64 0, .int .i64 0, .string (⟨#[]⟩ : ByteArray), .string (⟨#[]⟩ : ByteArray), .bool false, .bool false, .slice none 0 0, .slice none 0 0, .slice none 0 0, .slice none 0 0] 37 (0, 0)) (by (with_reducible repeat (first | refine bN ?_ _ | refine bD ?_ | refine bA ?_ _)); exact BK120.out)) : gb123 ≠ gb120)); have n14_ := K0 ((by rw [hg]; exact Nat.ne_of_lt (blk_lt (g := gb121) (o := .cells #[.int .i64 a0, .int .i64 a1, .string a2_0, .string a2_1, .bool a2_2, .bool false, u122006, u122007, u122008, .slice none 0 0] 37 (0, 0)) (by (with_reducible repeat (first | refine bN ?_ _ | refine bD ?_ | refine bA ?_ _)); exact BK121.out)) : gb121 ≠ gb123)); have n15_ := K0 ((by rw [hg]; exact Nat.ne_of_gt (blk_lt (g := gb121) (o := .cells #[.int .i64 a0, .int .i64 a1, .string a2_0, .string a2_1, .bool a2_2, .bool false, u122006, u122007, u122008, .slice none 0 0] 37 (0, 0)) (by (with_reducible repeat (first | refine bN ?_ _ | refine bD ?_ | refine bA ?_ _)); exact BK121.out)) : gb123 ≠ gb121)); clear HO_122006; clear HO_122007; clear HO_122008; clear BK119; clear BK120; clear BK121; clear HB; have HO_122006 := n0_; have HO_122007 := n1_; have HO_122008 := n2_; have BK119 := n3_; have BK120 := n4_; have BK121 := n5_; have HB := n6_; have BK123 := n7_; have GW123 := n8_; have GE123 := n9_; have NB119_123 := n10_; have NB123_119 := n11_; have NB120_123 := n12_; have NB123_120 := n13_; have NB121_123 := n14_; have NB123_121 := n15_; clear n0_ n1_ n2_ n3_ n4_ n5_ n6_ n7_ n8_ n9_ n10_ n11_ n12_ n13_ n14_ n15_; clear hb hbox hg; have hnb20 := NB123_119.out; have hnc20 := NB119_123.out; have hnb21 := NB123_120.out; have hnc21 := NB120_123.out; have hnb22 := NB123_121.out; have hnc22 := NB121_123.out; obtain ⟨hcz23_0, hcz23_1, hcz23_2⟩ := cellS3 BK123.out; obtain ⟨hfz23_0, hfz23_1, hfz23_2⟩ := frozS3 BK123.out; have hnb24 := NB121_119.out; have hnc24 := NB119_121.out; have hnb25 := NB121_120.out; have hnc25 := NB120_121.out; obtain ⟨hcz26_0, hcz26_1, hcz26_2, hcz26_3, hcz26_4, hcz26_5, hcz26_6, hcz26_7, hcz26_8, hcz26_9⟩ := cellS10 BK121.out; obtain ⟨hfz26_0, hfz26_1, hfz26_2, hfz26_3, hfz26_4, hfz26_5, hfz26_6, hfz26_7, hfz26_8, hfz26_9⟩ := frozS10 BK121.out) | ((with_reducible refine gate_builtin (b := .append) (xs := #[.tmp 23, .tmp 26]) rfl ?_); at_builtin; refine Kd.R_append Kd.string (w0 := w) w.heap.size rfl (.tmp 23) (.tmp 26) 33 9 (.string ⟨#[]⟩) 16 rfl Try.underlying33 info9 rfl (by decide) (by omega) u122006 x122006_1 ((rd_T114 l3 x18_1).f0) [.string ((rd_T114 l3 x18_1).f0)] (fun k_ => some k_ ≠ (u122007 : Value).ownBlock) (fun _ => False) rfl (by first | (go_simp; done) | (go_simp; rfl)) ?aP (fun _ hk => hk.elim) ?aF ?aO ?aB ?aS ?aL ?_; (case aP => exact rfl); (case aB => exact (by repeat (first | (with_reducible first | exact HB.out | apply wA | apply wN | apply wD | refine wS ?_ GE119.out | refine wS ?_ GE120.out | refine wS ?_ GE121.out | refine wS ?_ GE123.out) | exact HB.out))); (case aF => exact (fun k_ hk => Kd.fresh' (Kd.R_lt (by (with_reducible repeat (first | apply rA | apply rN | apply rD)); exact (Kd.R_mono (Kd.farS3 (Kd.R_types HO_122007.out BK123.out (by decide)) (fun _ hk => hk.2)) (fun _ h_ => h_.1)))) k_ hk)); (case aO => exact (by (with_reducible repeat (first | apply rA | apply rN | apply rD)); exact Kd.R_mono (Kd.farS3 (Kd.R_types HO_122006.out BK123.out (by decide)) (fun _ hk => hk.2)) (fun _ hk => hk.1))); (case aS => exact (below_size (by repeat (first | (with_reducible first | exact HB.out | apply wA | apply wN | apply wD | refine wS ?_ GE119.out | refine wS ?_ GE120.out | refine wS ?_ GE121.out | refine wS ?_ GE123.out) | exact HB.out)))); (case aL => have := LMc16.out; omega); intro v121 w27 ho hb hg hat; rw [← Ny120.out] at ho; have n0_ := K0 (Kd.R_after (ok := (fun _ => True)) (by (with_reducible repeat (first | apply rA | apply rN | apply rD)); exact Kd.R_mono (Kd.farS3 (Kd.R_types HO_122007.out BK123.out (by decide)) (fun _ hk => hk.2)) (fun _ hk => ⟨trivial, hk.1⟩)) hg hat); have n1_ := K0 (Kd.R_over' (by (with_reducible repeat (first | apply rA | apply rN | apply rD)); exact (Kd.R_mono (Kd.farS3 (Kd.R_types HO_122008.out BK123.out (by decide)) (fun _ hk => hk.2)) (fun _ h_ => h_.1))) (Kd.R_typed (by (with_reducible repeat (first | apply rA | apply rN | apply rD)); exact (Kd.R_mono (Kd.farS3 (Kd.R_types HO_122006.out BK123.out (by decide)) (fun _ hk => hk.2)) (fun _ h_ => h_.1)))) (by decide) hg); have n2_ := K0 (blk_grown (g := gb119) (o := .cells #[.string a2_0, .string a2_1, .bool a2_2] 32 (0, 0)) (by (with_reducible repeat (first | refine bN ?_ _ | refine bD ?_ | refine bA ?_ _)); refine blk_far ?_ NB119_123.out _; (with_reducible repeat (first | refine bN ?_ _ | refine bD ?_ | refine bA ?_ _)); refine blk_far ?_ NB119_123.out _; (with_reducible repeat (first | refine bN ?_ _ | refine bD ?_ | refine bA ?_ _)); refine blk_far ?_ NB119_123.out _; (with_reducible repeat (first | refine bN ?_ _ | refine bD ?_ | refine bA ?_ _)); exact BK119.out) hg (Kd.R_ne HO_122006.out BK119.out (by decide))); have n3_ := K0 (blk_grown (g := gb120) (o := .cells #[.int .i64 0, .int .i64 0, .string (⟨#[]⟩ : ByteArray), .string (⟨#[]⟩ : ByteArray), .bool false, .bool false, .slice none 0 0, .slice none 0 0, .slice none 0 0, .slice none 0 0] 37 (0, 0)) (by (with_reducible repeat (first | refine bN ?_ _ | refine bD ?_ | refine bA ?_ _)); refine blk_far ?_ NB120_123.out _; (with_reducible repeat (first | refine bN ?_ _ | refine bD ?_ | refine bA ?_ _)); refine blk_far ?_ NB120_123.out _; (with_reducible repeat (first | refine bN ?_ _ | refine bD ?_ | refine bA ?_ _)); refine blk_far ?_ NB120_123.out _; (with_reducible repeat (first | refine bN ?_ _ | refine bD ?_ | refine bA ?_ _)); exact BK120.out) hg (Kd.R_ne HO_122006.out BK120.out (by decide))); have n4_ := K0 (blk_grown (g := gb121) (o := .cells #[.int .i64 a0, .int .i64 a1, .string a2_0, .string a2_1, .bool a2_2, .bool false, u122006, u122007, u122008, .slice none 0 0] 37 (0, 0)) (by (with_reducible repeat (first | refine bN ?_ _ | refine bD ?_ | refine bA ?_ _)); refine blk_far ?_ NB121_123.out _; (with_reducible repeat (first | refine bN ?_ _ | refine bD ?_ | refine bA ?_ _)); refine blk_far ?_ NB121_123.out _; (with_reducible repeat (first | refine bN ?_ _ | refine bD ?_ | refine bA ?_ _)); refine blk_far ?_ NB121_123.out _; (with_reducible repeat (first | refine bN ?_ _ | refine bD ?_ | refine bA ?_ _)); exact BK121.out) hg (Kd.R_ne HO_122006.out BK121.out (by decide))); have n5_ := K0 (blk_grown (g := gb123) (o := .cells #[.string ((rd_T114 l3 x18_1).f0), .string ((rd_T114 l3 x18_1).f1), .bool ((rd_T114 l3 x18_1).f2)] 114 (0, 0)) (by (with_reducible repeat (first | refine bN ?_ _ | refine bD ?_ | refine bA ?_ _)); apply blkS3; (with_reducible repeat (first | refine bN ?_ _ | refine bD ?_ | refine bA ?_ _)); exact BK123.out) hg (Kd.R_ne HO_122006.out BK123.out (by decide))); have n6_ := K0 (hb); have n7_ := K0 (ho); clear HO_122007; clear HO_122008; clear BK119; clear BK120; clear BK121; clear BK123; clear HB; clear HO_122006; have HO_122007 := n0_; have HO_122008 := n1_; have BK119 := n2_; have BK120 := n3_; have BK121 := n4_; have BK123 := n5_; have HB := n6_; have HO122 := n7_; clear n0_ n1_ n2_ n3_ n4_ n5_ n6_ n7_; clear ho hb hg hat; obtain ⟨Ao28, co28, eo28⟩ := Kd.R_slice HO122.out; subst eo28; obtain ⟨hcz29_0, hcz29_1, hcz29_2, hcz29_3, hcz29_4, hcz29_5, hcz29_6, hcz29_7, hcz29_8, hcz29_9⟩ := cellS10 BK121.out; obtain ⟨hfz29_0, hfz29_1, hfz29_2, hfz29_3, hfz29_4, hfz29_5, hfz29_6, hfz29_7, hfz29_8, hfz29_9⟩ := frozS10 BK121.out; obtain ⟨hcz30_0, hcz30_1, hcz30_2⟩ := cellS3 BK123.out; obtain ⟨hfz30_0, hfz30_1, hfz30_2⟩ := frozS3 BK123.out) | ((with_reducible refine gate_builtin (b := .append) (xs := #[.tmp 30, .tmp 33]) rfl ?_); at_builtin; refine Kd.R_append Kd.string (w0 := w) w.heap.size rfl (.tmp 30) (.tmp 33) 33 9 (.string ⟨#[]⟩) 16 rfl Try.underlying33 info9 rfl (by decide) (by omega) u122007 x122007_1 ((rd_T114 l3 x18_1).f1) [.string ((rd_T114 l3 x18_1).f1)] (fun k_ => some k_ ≠ (.slice Ao28 y120.length co28 : Value).ownBlock) (fun _ => False) rfl (by first | (go_simp; done) | (go_simp; rfl)) ?aP (fun _ hk => hk.elim) ?aF ?aO ?aB ?aS ?aL ?_; (case aP => exact rfl); (case aB => exact (by repeat (first | (with_reducible first | exact HB.out | apply wA | apply wN | apply wD | refine wS ?_ GE119.out | refine wS ?_ GE120.out | refine wS ?_ GE121.out | refine wS ?_ GE123.out) | exact HB.out))); (case aF => exact (fun k_ hk => Kd.fresh' (Kd.R_lt (by (with_reducible repeat (first | apply rA | apply rN | apply rD)); exact (Kd.R_mono (Kd.R_far (p := ⟨gb121, 6, none⟩) (Kd.R_types HO122.out BK121.out (by decide)) (fun _ hk => hk.2) (.slice Ao28 y120.length co28)) (fun _ h_ => h_.1)))) k_ hk)); (case aO => exact (by (with_reducible repeat (first | apply rA | apply rN | apply rD)); exact Kd.R_mono (Kd.R_far (p := ⟨gb121, 6, none⟩) (Kd.R_types HO_122007.out BK121.out (by decide)) (fun _ hk => hk.2) (.slice Ao28 y120.length co28)) (fun _ hk => hk.1.2))); (case aS => exact (below_size (by repeat (first | (with_reducible first | exact HB.out | apply wA | apply wN | apply wD | refine wS ?_ GE119.out | refine wS ?_ GE120.out | refine wS ?_ GE121.out | refine wS ?_ GE123.out) | exact HB.out)))); (case aL => have := LMc17.out; omega); intro v124 w31 ho hb hg hat; rw [← Ny123.out] at ho; have n0_ := K0 (Kd.R_over' (by (with_reducible repeat (first | apply rA | apply rN | apply rD)); exact (Kd.R_mono (Kd.R_far (p := ⟨gb121, 6, none⟩) (Kd.R_types HO_122008.out BK121.out (by decide)) (fun _ hk => hk.2) (.slice Ao28 y120.length co28)) (fun _ h_ => h_.1))) (Kd.R_typed (by (with_reducible repeat (first | apply rA | apply rN | apply rD)); exact (Kd.R_mono (Kd.R_far (p := ⟨gb121, 6, none⟩) (Kd.R_types HO_122007.out BK121.out (by decide)) (fun _ hk => hk.2) (.slice Ao28 y120.length co28)) (fun _ h_ => h_.1)))) (by decide) hg); have n1_ := K0 (blk_grown (g := gb119) (o := .cells #[.string a2_0, .string a2_1, .bool a2_2] 32 (0, 0)) (by (with_reducible repeat (first | refine bN ?_ _ | refine bD ?_ | refine bA ?_ _)); refine blk_far ?_ NB119_121.out _; (with_reducible repeat (first | refine bN ?_ _ | refine bD ?_ | refine bA ?_ _)); exact BK119.out) hg (Kd.R_ne HO_122007.out BK119.out (by decide))); have n2_ := K0 (blk_grown (g := gb120) (o := .cells #[.int .i64 0, .int .i64 0, .string (⟨#[]⟩ : ByteArray), .string (⟨#[]⟩ : ByteArray), .bool false, .bool false, .slice none 0 0, .slice none 0 0, .slice none 0 0, .slice none 0 0] 37 (0, 0)) (by (with_reducible repeat (first | refine bN ?_ _ | refine bD ?_ | refine bA ?_ _)); refine blk_far ?_ NB120_121.out _; (with_reducible repeat (first | refine bN ?_ _ | refine bD ?_ | refine bA ?_ _)); exact BK120.out) hg (Kd.R_ne HO_122007.out BK120.out (by decide))); have n3_ := K0 (blk_grown (g := gb121) (o := .cells #[.int .i64 a0, .int .i64 a1, .string a2_0, .string a2_1, .bool a2_2, .bool false, .slice Ao28 y120.length co28, u122007, u122008, .slice none 0 0] 37 (0, 0)) (by (with_reducible repeat (first | refine bN ?_ _ | refine bD ?_ | refine bA ?_ _)); refine blk_put (cs := #[.int .i64 a0, .int .i64 a1, .string a2_0, .string a2_1, .bool a2_2, .bool false, u122006, u122007, u122008, .slice none 0 0]) ?_ 6 _ rfl; (with_reducible repeat (first | refine bN ?_ _ | refine bD ?_ | refine bA ?_ _)); exact BK121.out) hg (Kd.R_ne HO_122007.out BK121.out (by decide))); have n4_ := K0 (blk_grown (g := gb123) (o := .cells #[.string ((rd_T114 l3 x18_1).f0), .string ((rd_T114 l3 x18_1).f1), .bool ((rd_T114 l3 x18_1).f2)] 114 (0, 0)) (by (with_reducible repeat (first | refine bN ?_ _ | refine bD ?_ | refine bA ?_ _)); refine blk_far ?_ NB123_121.out _; (with_reducible repeat (first | refine bN ?_ _ | refine bD ?_ | refine bA ?_ _)); exact BK123.out) hg (Kd.R_ne HO_122007.out BK123.out (by decide))); have n5_ := K0 (Kd.R_after (ok := (fun _ => True)) (by (with_reducible repeat (first | apply rA | apply rN | apply rD)); exact Kd.R_mono (Kd.R_far (p := ⟨gb121, 6, none⟩) (Kd.R_types HO122.out BK121.out (by decide)) (fun _ hk => hk.2) (.slice Ao28 y120.length co28)) (fun _ hk => ⟨trivial, hk.1⟩)) hg hat); have n6_ := K0 (hb); have n7_ := K0 (ho); clear HO_122008; clear BK119; clear BK120; clear BK121; clear BK123; clear HO122; clear HB; clear HO_122007; have HO_122008 := n0_; have BK119 := n1_; have BK120 := n2_; have BK121 := n3_; have BK123 := n4_; have HO122 := n5_; have HB := n6_; have HO125 := n7_; clear n0_ n1_ n2_ n3_ n4_ n5_ n6_ n7_; clear ho hb hg hat; obtain ⟨Ao32, co32, eo32⟩ := Kd.R_slice HO125.out; subst eo32; obtain ⟨hcz33_0, hcz33_1, hcz33_2, hcz33_3, hcz33_4, hcz33_5, hcz33_6, hcz33_7, hcz33_8, hcz33_9⟩ := cellS10 BK121.out; obtain ⟨hfz33_0, hfz33_1, hfz33_2, hfz33_3, hfz33_4, hfz33_5, hfz33_6, hfz33_7, hfz33_8, hfz33_9⟩ := frozS10 BK121.out; obtain ⟨hcz34_0, hcz34_1, hcz34_2⟩ := cellS3 BK123.out; obtain ⟨hfz34_0, hfz34_1, hfz34_2⟩ := frozS3 BK123.out) | ((with_reducible refine gate_builtin (b := .append) (xs := #[.tmp 37, .tmp 40]) rfl ?_); at_builtin; refine Kd.R_append Kd.bool (w0 := w) w.heap.size rfl (.tmp 37) (.tmp 40) 34 4 (.bool false) 1 rfl Try.underlying34 info4 rfl (by decide) (by omega) u122008 x122008_1 ((rd_T114 l3 x18_1).f2) [.bool ((rd_T114 l3 x18_1).f2)] (fun _ => True) (fun _ => False) rfl (by first | (go_simp; done) | (go_simp; rfl)) ?aP (fun _ hk => hk.elim) ?aF ?aO ?aB ?aS ?aL ?_; (case aP => exact rfl); (case aB => exact (by repeat (first | (with_reducible first | exact HB.out | apply wA | apply wN | apply wD | refine wS ?_ GE119.out | refine wS ?_ GE120.out | refine wS ?_ GE121.out | refine wS ?_ GE123.out) | exact HB.out))); (case aF => exact (fun _ _ => trivial)); (case aO => exact (by (with_reducible repeat (first | apply rA | apply rN | apply rD)); exact Kd.R_mono (Kd.R_far (p := ⟨gb121, 7, none⟩) (Kd.R_types HO_122008.out BK121.out (by decide)) (fun _ hk => hk.2) (.slice Ao32 y123.length co32)) (fun _ hk => trivial))); (case aS => exact (below_size (by repeat (first | (with_reducible first | exact HB.out | apply wA | apply wN | apply wD | refine wS ?_ GE119.out | refine wS ?_ GE120.out | refine wS ?_ GE121.out | refine wS ?_ GE123.out) | exact HB.out)))); (case aL => have := LMc18.out; omega); intro v127 w35 ho hb hg hat; rw [← Ny126.out] at ho; have n0_ := K0 (blk_grown (g := gb119) (o := .cells #[.string a2_0, .string a2_1, .bool a2_2] 32 (0, 0)) (by (with_reducible repeat (first | refine bN ?_ _ | refine bD ?_ | refine bA ?_ _)); refine blk_far ?_ NB119_121.out _; (with_reducible repeat (first | refine bN ?_ _ | refine bD ?_ | refine bA ?_ _)); exact BK119.out) hg (Kd.R_ne HO_122008.out BK119.out (by decide))); have n1_ := K0 (blk_grown (g := gb120) (o := .cells #[.int .i64 0, .int .i64 0, .string (⟨#[]⟩ : ByteArray), .string (⟨#[]⟩ : ByteArray), .bool false, .bool false, .slice none 0 0, .slice none 0 0, .slice none 0 0, .slice none 0 0] 37 (0, 0)) (by (with_reducible repeat (first | refine bN ?_ _ | refine bD ?_ | refine bA ?_ _)); refine blk_far ?_ NB120_121.out _; (with_reducible repeat (first | refine bN ?_ _ | refine bD ?_ | refine bA ?_ _)); exact BK120.out) hg (Kd.R_ne HO_122008.out BK120.out (by decide))); have n2_ := K0 (blk_grown (g := gb121) (o := .cells #[.int .i64 a0, .int .i64 a1, .string a2_0, .string a2_1, .bool a2_2, .bool false, .slice Ao28 y120.length co28, .slice Ao32 y123.length co32, u122008, .slice none 0 0] 37 (0, 0)) (by (with_reducible repeat (first | refine bN ?_ _ | refine bD ?_ | refine bA ?_ _)); refine blk_put (cs := #[.int .i64 a0, .int .i64 a1, .string a2_0, .string a2_1, .bool a2_2, .bool false, .slice Ao28 y120.length co28, u122007, u122008, .slice none 0 0]) ?_ 7 _ rfl; (with_reducible repeat (first | refine bN ?_ _ | refine bD ?_ | refine bA ?_ _)); exact BK121.out) hg (Kd.R_ne HO_122008.out BK121.out (by decide))); have n3_ := K0 (blk_grown (g := gb123) (o := .cells #[.string ((rd_T114 l3 x18_1).f0), .string ((rd_T114 l3 x18_1).f1), .bool ((rd_T114 l3 x18_1).f2)] 114 (0, 0)) (by (with_reducible repeat (first | refine bN ?_ _ | refine bD ?_ | refine bA ?_ _)); refine blk_far ?_ NB123_121.out _; (with_reducible repeat (first | refine bN ?_ _ | refine bD ?_ | refine bA ?_ _)); exact BK123.out) hg (Kd.R_ne HO_122008.out BK123.out (by decide))); have n4_ := K0 (Kd.R_over' (by (with_reducible repeat (first | apply rA | apply rN | apply rD)); exact (Kd.R_mono (Kd.R_far (p := ⟨gb121, 7, none⟩) (Kd.R_types HO122.out BK121.out (by decide)) (fun _ hk => hk.2) (.slice Ao32 y123.length co32)) (fun _ h_ => h_.1))) (Kd.R_typed (by (with_reducible repeat (first | apply rA | apply rN | apply rD)); exact (Kd.R_mono (Kd.R_far (p := ⟨gb121, 7, none⟩) (Kd.R_types HO_122008.out BK121.out (by decide)) (fun _ hk => hk.2) (.slice Ao32 y123.length co32)) (fun _ h_ => h_.1)))) (by decide) hg); have n5_ := K0 (Kd.R_over' (by (with_reducible repeat (first | apply rA | apply rN | apply rD)); exact (Kd.R_mono (Kd.R_far (p := ⟨gb121, 7, none⟩) (Kd.R_types HO125.out BK121.out (by decide)) (fun _ hk => hk.2) (.slice Ao32 y123.length co32)) (fun _ h_ => h_.1))) (Kd.R_typed (by (with_reducible repeat (first | apply rA | apply rN | apply rD)); exact (Kd.R_mono (Kd.R_far (p := ⟨gb121, 7, none⟩) (Kd.R_types HO_122008.out BK121.out (by decide)) (fun _ hk => hk.2) (.slice Ao32 y123.length co32)) (fun _ h_ => h_.1)))) (by decide) hg); have n6_ := K0 (hb); have n7_ := K0 (ho); clear BK119; clear BK120; clear BK121; clear BK123; clear HO122; clear HO125; clear HB; clear HO_122008; have BK119 := n0_; have BK120 := n1_; have BK121 := n2_; have BK123 := n3_; have HO122 := n4_; have HO125 := n5_; have HB := n6_; have HO128 := n7_; clear n0_ n1_ n2_ n3_ n4_ n5_ n6_ n7_; clear ho hb hg hat; obtain ⟨Ao36, co36, eo36⟩ := Kd.R_slice HO128.out; subst eo36; obtain ⟨hcz37_0, hcz37_1, hcz37_2, hcz37_3, hcz37_4, hcz37_5, hcz37_6, hcz37_7, hcz37_8, hcz37_9⟩ := cellS10 BK121.out; obtain ⟨hfz37_0, hfz37_1, hfz37_2, hfz37_3, hfz37_4, hfz37_5, hfz37_6, hfz37_7, hfz37_8, hfz37_9⟩ := frozS10 BK121.out))
         go_roundg k1
         case measure => have := HK1.out; omega
         case rel => exact ⟨(wrap64 (x18_1 + 1)), (y120), (y123), (y126), (.slice Ao28 y120.length co28), (.slice Ao32 y123.length co32), (.slice Ao36 y126.length co36), (by first | rfl | (simp; done) | (simp [*]; done)), H', ⟨by have := HK1.out; omega⟩, ⟨by (with_reducible repeat (first | apply rA | apply rN | apply rD)); exact Kd.R_mono (Kd.R_far (p := ⟨gb121, 8, none⟩) (Kd.R_types HO122.out BK121.out (by decide)) (fun _ hk => hk.2) (.slice Ao36 y126.length co36)) (fun _ hk => hk.1.2)⟩, ⟨by (with_reducible repeat (first | apply rA | apply rN | apply rD)); exact Kd.R_mono (Kd.R_far (p := ⟨gb121, 8, none⟩) (Kd.R_types HO125.out BK121.out (by decide)) (fun _ hk => hk.2) (.slice Ao36 y126.length co36)) (fun _ hk => hk.1)⟩, ⟨by (with_reducible repeat (first | apply rA | apply rN | apply rD)); exact Kd.R_mono (Kd.R_far (p := ⟨gb121, 8, none⟩) (Kd.R_types HO128.out BK121.out (by decide)) (fun _ hk => hk.2) (.slice Ao36 y126.length co36)) (fun _ hk => trivial)⟩, ⟨by (with_reducible repeat (first | refine bN ?_ _ | refine bD ?_ | refine bA ?_ _)); refine blk_far ?_ NB119_121.out _; (with_reducible repeat (first | refine bN ?_ _ | refine bD ?_ | refine bA ?_ _)); exact BK119.out⟩, ⟨by (with_reducible repeat (first | refine bN ?_ _ | refine bD ?_ | refine bA ?_ _)); refine blk_far ?_ NB120_121.out _; (with_reducible repeat (first | refine bN ?_ _ | refine bD ?_ | refine bA ?_ _)); exact BK120.out⟩, ⟨by (with_reducible repeat (first | refine bN ?_ _ | refine bD ?_ | refine bA ?_ _)); refine blk_put (cs := #[.int .i64 a0, .int .i64 a1, .string a2_0, .string a2_1, .bool a2_2, .bool false, .slice Ao28 y120.length co28, .slice Ao32 y123.length co32, u122008, .slice none 0 0]) ?_ 8 _ rfl; (with_reducible repeat (first | refine bN ?_ _ | refine bD ?_ | refine bA ?_ _)); exact BK121.out⟩, ⟨by repeat (first | (with_reducible first | exact HB.out | apply wA | apply wN | apply wD | refine wS ?_ GE119.out | refine wS ?_ GE120.out | refine wS ?_ GE121.out | refine wS ?_ GE123.out) | exact HB.out)⟩⟩
        rw [if_neg c18] at H; exact absurd H (by simp)
       rw [if_neg c17] at H; exact absurd H (by simp)
      rw [if_neg c16] at H; exact absurd H (by simp)
     rw [if_neg c15] at H; exact absurd H (by simp)
    rw [if_neg c14] at H; exact absurd H (by simp)
   rw [if_neg c13] at H; have c13b0 : decide (x18_1 < (l3.length : Int)) = false := dF c13; clear c13; replace H := Option.bind_eq_some_iff.mp H; obtain ⟨t129, A380, H⟩ := H; replace H : (some (a0, a1, a2_0, a2_1, a2_2, false, x122006_1, x122007_1, x122008_1, t129)) = some (r1, r2, r3, r4, r5, r6, r7, r8, r9, r10) := H; have A38 := K0 A380; clear A380; simp only [Option.some.injEq, Prod.mk.injEq] at H; obtain ⟨rfl, rfl, rfl, rfl, rfl, rfl, rfl, rfl, rfl, rfl⟩ := H; have hnb39 := NB121_119.out; have hnc39 := NB119_121.out; have hnb40 := NB121_120.out; have hnc40 := NB120_121.out; obtain ⟨hcz41_0, hcz41_1, hcz41_2, hcz41_3, hcz41_4, hcz41_5, hcz41_6, hcz41_7, hcz41_8, hcz41_9⟩ := cellS10 BK121.out; obtain ⟨hfz41_0, hfz41_1, hfz41_2, hfz41_3, hfz41_4, hfz41_5, hfz41_6, hfz41_7, hfz41_8, hfz41_9⟩ := frozS10 BK121.out; obtain ⟨Ao42, co42, eo42⟩ := Kd.R_slice HO_122006.out; subst eo42; go_wp2_with (first | ((with_reducible refine gate_callee (f := 85) rfl ?_); refine goesL_ (some 46) rfl rfl Try.func85 (by kernel_rfl) rfl #[.slice Ao42 x122006_1.length co42] rfl (by (try simp only [List.map_toArray, List.map_cons, List.map_nil]); first | done | rfl | (simp only [lD, lT]; rfl)) ?_; (with_reducible refine (probe_Build.calls k1 _ _ x122006_1 t129 _ ?side1 ?side2 A38.out).mono ?_); (case side1 => repeat (first | exact (Kd.R_reads' HO_122006.out).2.2 | (with_reducible refine Kd.C_alloc ?_ _) | (with_reducible refine Kd.C_drewN ?_ _) | (with_reducible refine Kd.C_drew ?_))); (case side2 => exact (Kd.R_reads' HO_122006.out).2.1); rintro e w43 ⟨v130, rfl, ho0, hb⟩; refine ⟨_, rfl, ?_⟩; have n0_ := K0 (rB (by (with_reducible repeat (first | apply rA | apply rN | apply rD)); exact HO_122006.out) hb); have n1_ := K0 (rB (by (with_reducible repeat (first | apply rA | apply rN | apply rD)); exact HO_122007.out) hb); have n2_ := K0 (rB (by (with_reducible repeat (first | apply rA | apply rN | apply rD)); exact HO_122008.out) hb); have n3_ := K0 (Kd.R_lower ho0 (below_size (by repeat (first | (with_reducible first | exact HB.out | apply wA | apply wN | apply wD | refine wS ?_ GE119.out | refine wS ?_ GE120.out | refine wS ?_ GE121.out) | exact HB.out)))); have n4_ := K0 (bB (g := gb119) (o := .cells #[.string a2_0, .string a2_1, .bool a2_2] 32 (0, 0)) (by (with_reducible repeat (first | refine bN ?_ _ | refine bD ?_ | refine bA ?_ _)); exact BK119.out) hb); have n5_ := K0 (bB (g := gb120) (o := .cells #[.int .i64 0, .int .i64 0, .string (⟨#[]⟩ : ByteArray), .string (⟨#[]⟩ : ByteArray), .bool false, .bool false, .slice none 0 0, .slice none 0 0, .slice none 0 0, .slice none 0 0] 37 (0, 0)) (by (with_reducible repeat (first | refine bN ?_ _ | refine bD ?_ | refine bA ?_ _)); exact BK120.out) hb); have n6_ := K0 (bB (g := gb121) (o := .cells #[.int .i64 a0, .int .i64 a1, .string a2_0, .string a2_1, .bool a2_2, .bool false, .slice Ao42 x122006_1.length co42, u122007, u122008, .slice none 0 0] 37 (0, 0)) (by (with_reducible repeat (first | refine bN ?_ _ | refine bD ?_ | refine bA ?_ _)); exact BK121.out) hb); have n7_ := K0 (below_step (by repeat (first | (with_reducible first | exact HB.out | apply wA | apply wN | apply wD | refine wS ?_ GE119.out | refine wS ?_ GE120.out | refine wS ?_ GE121.out) | exact HB.out)) hb); clear HO_122006; clear HO_122007; clear HO_122008; clear BK119; clear BK120; clear BK121; clear HB; have HO_122006 := n0_; have HO_122007 := n1_; have HO_122008 := n2_; have HO131 := n3_; have BK119 := n4_; have BK120 := n5_; have BK121 := n6_; have HB := n7_; clear n0_ n1_ n2_ n3_ n4_ n5_ n6_ n7_; (try clear hb); (try clear hb2); (try clear hk); (try clear hi); (try clear ho0); obtain ⟨Ao44, co44, eo44⟩ := Kd.R_slice HO131.out; subst eo44; obtain ⟨hcz45_0, hcz45_1, hcz45_2, hcz45_3, hcz45_4, hcz45_5, hcz45_6, hcz45_7, hcz45_8, hcz45_9⟩ := cellS10 BK121.out; obtain ⟨hfz45_0, hfz45_1, hfz45_2, hfz45_3, hfz45_4, hfz45_5, hfz45_6, hfz45_7, hfz45_8, hfz45_9⟩ := frozS10 BK121.out; have hnb46 := NB120_119.out; have hnc46 := NB119_120.out; obtain ⟨hcz47_0, hcz47_1, hcz47_2, hcz47_3, hcz47_4, hcz47_5, hcz47_6, hcz47_7, hcz47_8, hcz47_9⟩ := cellS10 BK120.out; obtain ⟨hfz47_0, hfz47_1, hfz47_2, hfz47_3, hfz47_4, hfz47_5, hfz47_6, hfz47_7, hfz47_8, hfz47_9⟩ := frozS10 BK120.out; obtain ⟨Ao48, co48, eo48⟩ := Kd.R_slice HO_122007.out; subst eo48; obtain ⟨Ao49, co49, eo49⟩ := Kd.R_slice HO_122008.out; subst eo49))
   refine bodyPost_ret (results_cell_row rfl _ _ gb120 37 #[.int .i64 a0, .int .i64 a1, .string a2_0, .string a2_1, .bool a2_2, .bool false, .slice Ao42 x122006_1.length co42, .slice Ao48 x122007_1.length co48, .slice Ao49 x122008_1.length co49, .slice Ao44 t129.length co44] (0, 0) _ rfl (by (with_reducible repeat (first | refine bN ?_ _ | refine bD ?_ | refine bA ?_ _)); apply blkS10; (with_reducible repeat (first | refine bN ?_ _ | refine bD ?_ | refine bA ?_ _)); refine blk_far ?_ NB120_121.out _; (with_reducible repeat (first | refine bN ?_ _ | refine bD ?_ | refine bA ?_ _)); exact BK120.out) Try.underlying37 rfl (by kernel_rfl)) rfl ?_; exact ⟨_, _, _, _, by first | rfl | (simp [errW_none, errW_some] <;> rfl) | (simp [*, errW_none, errW_some] <;> rfl), by (with_reducible repeat (first | apply rA | apply rN | apply rD)); exact Kd.R_mono (Kd.farS10 (Kd.R_far (p := ⟨gb121, 9, none⟩) (Kd.R_types (Kd.R_types HO_122006.out BK121.out (by decide)) BK120.out (by decide)) (fun _ hk => hk.1.2) (.slice Ao44 t129.length co44)) (fun _ hk => hk.2)) (fun _ hk => hk.1.1), by (with_reducible repeat (first | apply rA | apply rN | apply rD)); exact Kd.R_mono (Kd.farS10 (Kd.R_far (p := ⟨gb121, 9, none⟩) (Kd.R_types (Kd.R_types HO_122007.out BK121.out (by decide)) BK120.out (by decide)) (fun _ hk => hk.1.2) (.slice Ao44 t129.length co44)) (fun _ hk => hk.2)) (fun _ hk => hk.1.1), by (with_reducible repeat (first | apply rA | apply rN | apply rD)); exact Kd.R_mono (Kd.farS10 (Kd.R_far (p := ⟨gb121, 9, none⟩) (Kd.R_types (Kd.R_types HO_122008.out BK121.out (by decide)) BK120.out (by decide)) (fun _ hk => hk.1.2) (.slice Ao44 t129.length co44)) (fun _ hk => hk.2)) (fun _ hk => trivial), by (with_reducible repeat (first | apply rA | apply rN | apply rD)); exact Kd.R_mono (Kd.farS10 (Kd.R_far (p := ⟨gb121, 9, none⟩) (Kd.R_types (Kd.R_types HO131.out BK121.out (by decide)) BK120.out (by decide)) (fun _ hk => hk.1.2) (.slice Ao44 t129.length co44)) (fun _ hk => hk.2)) (fun _ hk => trivial), by repeat (first | (with_reducible first | exact HB.out | apply wA | apply wN | apply wD | refine wS ?_ GE119.out | refine wS ?_ GE120.out | refine wS ?_ GE121.out) | exact HB.out)⟩
/-! ### rev_New: function 16 -/
def rev_New.g (k : Nat) (a0 : Int) (a1 : Int) (a2_0 : ByteArray) (a2_1 : ByteArray) (a2_2 : Bool) (l3 : List (S114)) : Option (Int × Int × ByteArray × ByteArray × Bool × Bool × List ByteArray × List ByteArray × List Bool × List Int × Int) := (rev_rises.f k a2_0 a2_1 a2_2 l3).bind fun t134 => (if t134 = true then ((rev_laid.f k a0 a1 a2_0 a2_1 a2_2 l3).bind fun bt135 => (some (bt135.1, bt135.2.1, bt135.2.2.1, bt135.2.2.2.1, bt135.2.2.2.2.1, bt135.2.2.2.2.2.1, bt135.2.2.2.2.2.2.1, bt135.2.2.2.2.2.2.2.1, bt135.2.2.2.2.2.2.2.2.1, bt135.2.2.2.2.2.2.2.2.2, 0))) else (some (0, 0, (⟨#[]⟩ : ByteArray), (⟨#[]⟩ : ByteArray), false, false, ([] : List ByteArray), ([] : List ByteArray), ([] : List Bool), ([] : List Int), 1)))
set_option maxHeartbeats 8000000 in
set_option maxRecDepth 100000 in
theorem rev_New.calls0 (k : Nat) (a0 : Int) (a1 : Int) (a2_0 : ByteArray) (a2_1 : ByteArray) (a2_2 : Bool) (A3 : Option Addr) (c3 : Nat) (l3 : List (S114)) (r1 : Int) (r2 : Int) (r3 : ByteArray) (r4 : ByteArray) (r5 : Bool) (r6 : Bool) (r7 : List ByteArray) (r8 : List ByteArray) (r9 : List Bool) (r10 : List Int) (r11 : Int) (w : World) (hr3 : Kd.C k114 w A3 l3.length l3) (hc3 : l3.length ≤ c3) (h : rev_New.g k a0 a1 a2_0 a2_1 a2_2 l3 = some (r1, r2, r3, r4, r5, r6, r7, r8, r9, r10, r11)) (hrt : r11 = 0) :
  Calls Try.prog 16 #[.int .i64 a0, .int .i64 a1, .agg #[.string a2_0, .string a2_1, .bool a2_2], .slice A3 l3.length c3] w fun e w' => ∃ v6_ v7_ v8_ v9_ : Value, e = .returned (.tuple #[.agg #[.int .i64 r1, .int .i64 r2, .string r3, .string r4, .bool r5, .bool r6, v6_, v7_, v8_, v9_], .int .i64 r11]) ∧ Kd.R Kd.string 9 w' w.heap.size (fun k_ => some k_ ≠ (v7_ : Value).ownBlock) v6_ r7 ∧ Kd.R Kd.string 9 w' w.heap.size (fun k_ => some k_ ≠ (v6_ : Value).ownBlock) v7_ r8 ∧ Kd.R Kd.bool 4 w' w.heap.size (fun _ => True) v8_ r9 ∧ Kd.R (Kd.int .i64) 3 w' w.heap.size (fun _ => True) v9_ r10 ∧ Below w.heap.size w w' := by
 have hu32 := Try.underlying32
 have hu37 := Try.underlying37
 have HR3 := K0 hr3
 have HC3 := K0 hc3
 clear hr3 hc3
 have HB := K0 (Below.refl w.heap.size w)
 have H : ((rev_rises.f k a2_0 a2_1 a2_2 l3).bind fun t134 => (if t134 = true then ((rev_laid.f k a0 a1 a2_0 a2_1 a2_2 l3).bind fun bt135 => (some (bt135.1, bt135.2.1, bt135.2.2.1, bt135.2.2.2.1, bt135.2.2.2.2.1, bt135.2.2.2.2.2.1, bt135.2.2.2.2.2.2.1, bt135.2.2.2.2.2.2.2.1, bt135.2.2.2.2.2.2.2.2.1, bt135.2.2.2.2.2.2.2.2.2, 0))) else (some (0, 0, (⟨#[]⟩ : ByteArray), (⟨#[]⟩ : ByteArray), false, false, ([] : List ByteArray), ([] : List ByteArray), ([] : List Bool), ([] : List Int), 1)))) = some (r1, r2, r3, r4, r5, r6, r7, r8, r9, r10, r11) := h
 clear h
 replace H := Option.bind_eq_some_iff.mp H
 obtain ⟨t134, A50, H⟩ := H
 replace H : (if t134 = true then ((rev_laid.f k a0 a1 a2_0 a2_1 a2_2 l3).bind fun bt135 => (some (bt135.1, bt135.2.1, bt135.2.2.1, bt135.2.2.2.1, bt135.2.2.2.2.1, bt135.2.2.2.2.2.1, bt135.2.2.2.2.2.2.1, bt135.2.2.2.2.2.2.2.1, bt135.2.2.2.2.2.2.2.2.1, bt135.2.2.2.2.2.2.2.2.2, 0))) else (some (0, 0, (⟨#[]⟩ : ByteArray), (⟨#[]⟩ : ByteArray), false, false, ([] : List ByteArray), ([] : List ByteArray), ([] : List Bool), ([] : List Int), 1))) = some (r1, r2, r3, r4, r5, r6, r7, r8, r9, r10, r11) := H
 have A5 := K0 A50
 clear A50
 by_cases c6 : t134 = true
 ·
  subst c6
  have H1 : ((rev_laid.f k a0 a1 a2_0 a2_1 a2_2 l3).bind fun bt135 => (some (bt135.1, bt135.2.1, bt135.2.2.1, bt135.2.2.2.1, bt135.2.2.2.2.1, bt135.2.2.2.2.2.1, bt135.2.2.2.2.2.2.1, bt135.2.2.2.2.2.2.2.1, bt135.2.2.2.2.2.2.2.2.1, bt135.2.2.2.2.2.2.2.2.2, 0))) = some (r1, r2, r3, r4, r5, r6, r7, r8, r9, r10, r11) := by rw [if_pos rfl] at H; exact H
  clear H
  have H := H1
  clear H1
  replace H := Option.bind_eq_some_iff.mp H
  obtain ⟨⟨t135, t136, t137, t138, t139, t140, t141, t144, t147, t150⟩, A70, H⟩ := H
  replace H : (some (t135, t136, t137, t138, t139, t140, t141, t144, t147, t150, 0)) = some (r1, r2, r3, r4, r5, r6, r7, r8, r9, r10, r11) := H
  have A7 := K0 A70
  clear A70
  simp only [Option.some.injEq, Prod.mk.injEq] at H
  obtain ⟨rfl, rfl, rfl, rfl, rfl, rfl, rfl, rfl, rfl, rfl, rfl⟩ := H
  go_enter Try.func16, Try.ntmps16
  go_wp2_with (first | ((with_reducible refine gate_dst (N := 6) rfl ?_); refine box_event ?hg (N := 6) ?hd (cs := #[.string a2_0, .string a2_1, .bool a2_2]) (t := 32) ?hr ?_; (case hd => rfl); (case hg => rfl); (case hr => first | (go_simp; done) | (go_simp; rfl)); intro gb132 hg w8 hbox hb; have n0_ := K0 (below_step (by repeat (first | (with_reducible first | exact HB.out | apply wA | apply wN | apply wD) | exact HB.out)) hb); have n1_ := K0 (hbox); have n2_ := K0 ((by rw [hg]; exact (below_size (by repeat (first | (with_reducible first | exact HB.out | apply wA | apply wN | apply wD) | exact HB.out))) : w.heap.size ≤ gb132)); have n3_ := K0 ((by rw [hg]; exact (below_size (by repeat (first | (with_reducible first | exact HB.out | apply wA | apply wN | apply wD) | exact HB.out))) : w.heap.size ≤ gb132)); clear HB; have HB := n0_; have BK132 := n1_; have GW132 := n2_; have GE132 := n3_; clear n0_ n1_ n2_ n3_; clear hb hbox hg) | ((with_reducible refine gate_dst (N := 8) rfl ?_); refine box_event ?hg (N := 8) ?hd (cs := #[.int .i64 0, .int .i64 0, .string (⟨#[]⟩ : ByteArray), .string (⟨#[]⟩ : ByteArray), .bool false, .bool false, .slice none 0 0, .slice none 0 0, .slice none 0 0, .slice none 0 0]) (t := 37) ?hr ?_; (case hd => rfl); (case hg => rfl); (case hr => first | (go_simp; done) | (go_simp; rfl)); intro gb133 hg w9 hbox hb; have n0_ := K0 (bB (g := gb132) (o := .cells #[.string a2_0, .string a2_1, .bool a2_2] 32 (0, 0)) (by (with_reducible repeat (first | refine bN ?_ _ | refine bD ?_ | refine bA ?_ _)); exact BK132.out) hb); have n1_ := K0 (below_step (by repeat (first | (with_reducible first | exact HB.out | apply wA | apply wN | apply wD | refine wS ?_ GE132.out) | exact HB.out)) hb); have n2_ := K0 (hbox); have n3_ := K0 ((by rw [hg]; exact (below_size (by repeat (first | (with_reducible first | exact HB.out | apply wA | apply wN | apply wD | refine wS ?_ GE132.out) | exact HB.out))) : w.heap.size ≤ gb133)); have n4_ := K0 ((by rw [hg]; exact (below_size (by repeat (first | (with_reducible first | exact HB.out | apply wA | apply wN | apply wD | refine wS ?_ GE132.out) | exact HB.out))) : w.heap.size ≤ gb133)); have n5_ := K0 ((by rw [hg]; exact Nat.ne_of_lt (blk_lt (g := gb132) (o := .cells #[.string a2_0, .string a2_1, .bool a2_2] 32 (0, 0)) (by (with_reducible repeat (first | refine bN ?_ _ | refine bD ?_ | refine bA ?_ _)); exact BK132.out)) : gb132 ≠ gb133)); have n6_ := K0 ((by rw [hg]; exact Nat.ne_of_gt (blk_lt (g := gb132) (o := .cells #[.string a2_0, .string a2_1, .bool a2_2] 32 (0, 0)) (by (with_reducible repeat (first | refine bN ?_ _ | refine bD ?_ | refine bA ?_ _)); exact BK132.out)) : gb133 ≠ gb132)); clear BK132; clear HB; have BK132 := n0_; have HB := n1_; have BK133 := n2_; have GW133 := n3_; have GE133 := n4_; have NB132_133 := n5_; have NB133_132 := n6_; clear n0_ n1_ n2_ n3_ n4_ n5_ n6_; clear hb hbox hg; have hnb10 := NB132_133.out; have hnc10 := NB133_132.out; obtain ⟨hcz11_0, hcz11_1, hcz11_2⟩ := cellS3 BK132.out; obtain ⟨hfz11_0, hfz11_1, hfz11_2⟩ := frozS3 BK132.out) | ((with_reducible refine gate_callee (f := 54) rfl ?_); refine goesL_ (some 12) rfl rfl Try.func54 (by kernel_rfl) rfl #[.agg #[.string a2_0, .string a2_1, .bool a2_2], .slice A3 l3.length c3] rfl (by (try simp only [List.map_toArray, List.map_cons, List.map_nil]); first | done | rfl | (simp only [lD, lT]; rfl)) ?_; (with_reducible refine (rev_rises.calls k a2_0 a2_1 a2_2 _ _ l3 true _ ?side1 ?side2 A5.out rfl).mono ?_); (case side1 => repeat (first | exact (Kd.C_below HR3.out HB.out) | (with_reducible refine Kd.C_alloc ?_ _) | (with_reducible refine Kd.C_drewN ?_ _) | (with_reducible refine Kd.C_drew ?_))); (case side2 => exact HC3.out); rintro e w12 ⟨rfl, hb⟩; refine ⟨_, rfl, ?_⟩; have n0_ := K0 (bB (g := gb132) (o := .cells #[.string a2_0, .string a2_1, .bool a2_2] 32 (0, 0)) (by (with_reducible repeat (first | refine bN ?_ _ | refine bD ?_ | refine bA ?_ _)); exact BK132.out) hb); have n1_ := K0 (bB (g := gb133) (o := .cells #[.int .i64 0, .int .i64 0, .string (⟨#[]⟩ : ByteArray), .string (⟨#[]⟩ : ByteArray), .bool false, .bool false, .slice none 0 0, .slice none 0 0, .slice none 0 0, .slice none 0 0] 37 (0, 0)) (by (with_reducible repeat (first | refine bN ?_ _ | refine bD ?_ | refine bA ?_ _)); exact BK133.out) hb); have n2_ := K0 (below_step (by repeat (first | (with_reducible first | exact HB.out | apply wA | apply wN | apply wD | refine wS ?_ GE132.out | refine wS ?_ GE133.out) | exact HB.out)) hb); clear BK132; clear BK133; clear HB; have BK132 := n0_; have BK133 := n1_; have HB := n2_; clear n0_ n1_ n2_; (try clear hb); (try clear hb2); (try clear hk); (try clear hi); obtain ⟨hcz13_0, hcz13_1, hcz13_2⟩ := cellS3 BK132.out; obtain ⟨hfz13_0, hfz13_1, hfz13_2⟩ := frozS3 BK132.out) | ((with_reducible refine gate_callee (f := 55) rfl ?_); refine goesL_ (some 19) rfl rfl Try.func55 (by kernel_rfl) rfl #[.int .i64 a0, .int .i64 a1, .agg #[.string a2_0, .string a2_1, .bool a2_2], .slice A3 l3.length c3] rfl (by (try simp only [List.map_toArray, List.map_cons, List.map_nil]); first | done | rfl | (simp only [lD, lT]; rfl)) ?_; (with_reducible refine (rev_laid.calls k a0 a1 a2_0 a2_1 a2_2 _ _ l3 t135 t136 t137 t138 t139 t140 t141 t144 t147 t150 _ ?side1 ?side2 A7.out).mono ?_); (case side1 => repeat (first | exact (Kd.C_below HR3.out HB.out) | (with_reducible refine Kd.C_alloc ?_ _) | (with_reducible refine Kd.C_drewN ?_ _) | (with_reducible refine Kd.C_drew ?_))); (case side2 => exact HC3.out); rintro e w14 ⟨v142, v145, v148, v151, rfl, ho0, ho1, ho2, ho3, hb⟩; refine ⟨_, rfl, ?_⟩; have n0_ := K0 (Kd.R_lower ho0 (below_size (by repeat (first | (with_reducible first | exact HB.out | apply wA | apply wN | apply wD | refine wS ?_ GE132.out | refine wS ?_ GE133.out) | exact HB.out)))); have n1_ := K0 (Kd.R_lower ho1 (below_size (by repeat (first | (with_reducible first | exact HB.out | apply wA | apply wN | apply wD | refine wS ?_ GE132.out | refine wS ?_ GE133.out) | exact HB.out)))); have n2_ := K0 (Kd.R_lower ho2 (below_size (by repeat (first | (with_reducible first | exact HB.out | apply wA | apply wN | apply wD | refine wS ?_ GE132.out | refine wS ?_ GE133.out) | exact HB.out)))); have n3_ := K0 (Kd.R_lower ho3 (below_size (by repeat (first | (with_reducible first | exact HB.out | apply wA | apply wN | apply wD | refine wS ?_ GE132.out | refine wS ?_ GE133.out) | exact HB.out)))); have n4_ := K0 (bB (g := gb132) (o := .cells #[.string a2_0, .string a2_1, .bool a2_2] 32 (0, 0)) (by (with_reducible repeat (first | refine bN ?_ _ | refine bD ?_ | refine bA ?_ _)); exact BK132.out) hb); have n5_ := K0 (bB (g := gb133) (o := .cells #[.int .i64 0, .int .i64 0, .string (⟨#[]⟩ : ByteArray), .string (⟨#[]⟩ : ByteArray), .bool false, .bool false, .slice none 0 0, .slice none 0 0, .slice none 0 0, .slice none 0 0] 37 (0, 0)) (by (with_reducible repeat (first | refine bN ?_ _ | refine bD ?_ | refine bA ?_ _)); exact BK133.out) hb); have n6_ := K0 (below_step (by repeat (first | (with_reducible first | exact HB.out | apply wA | apply wN | apply wD | refine wS ?_ GE132.out | refine wS ?_ GE133.out) | exact HB.out)) hb); clear BK132; clear BK133; clear HB; have HO143 := n0_; have HO146 := n1_; have HO149 := n2_; have HO152 := n3_; have BK132 := n4_; have BK133 := n5_; have HB := n6_; clear n0_ n1_ n2_ n3_ n4_ n5_ n6_; (try clear hb); (try clear hb2); (try clear hk); (try clear hi); (try clear ho0); (try clear ho1); (try clear ho2); (try clear ho3); obtain ⟨hcz15_0, hcz15_1, hcz15_2, hcz15_3, hcz15_4, hcz15_5, hcz15_6, hcz15_7, hcz15_8, hcz15_9⟩ := cellS10 BK133.out; obtain ⟨hfz15_0, hfz15_1, hfz15_2, hfz15_3, hfz15_4, hfz15_5, hfz15_6, hfz15_7, hfz15_8, hfz15_9⟩ := frozS10 BK133.out; obtain ⟨Ao16, co16, eo16⟩ := Kd.R_slice HO143.out; subst eo16; obtain ⟨Ao17, co17, eo17⟩ := Kd.R_slice HO146.out; subst eo17; obtain ⟨Ao18, co18, eo18⟩ := Kd.R_slice HO149.out; subst eo18; obtain ⟨Ao19, co19, eo19⟩ := Kd.R_slice HO152.out; subst eo19))
  refine bodyPost_ret (results_ct rfl _ _ gb133 37 #[.int .i64 t135, .int .i64 t136, .string t137, .string t138, .bool t139, .bool t140, .slice Ao16 t141.length co16, .slice Ao17 t144.length co17, .slice Ao18 t147.length co18, .slice Ao19 t150.length co19] (0, 0) _ rfl (by (with_reducible repeat (first | refine bN ?_ _ | refine bD ?_ | refine bA ?_ _)); apply blkS10; (with_reducible repeat (first | refine bN ?_ _ | refine bD ?_ | refine bA ?_ _)); exact BK133.out) Try.underlying37 rfl (by kernel_rfl)) rfl ?_
  exact ⟨_, _, _, _, by first | rfl | (simp [errW_none, errW_some] <;> rfl) | (simp [*, errW_none, errW_some] <;> rfl), by (with_reducible repeat (first | apply rA | apply rN | apply rD)); exact Kd.R_mono (Kd.farS10 (Kd.R_types HO143.out BK133.out (by decide)) (fun _ hk => hk.2)) (fun _ hk => hk.1), by (with_reducible repeat (first | apply rA | apply rN | apply rD)); exact Kd.R_mono (Kd.farS10 (Kd.R_types HO146.out BK133.out (by decide)) (fun _ hk => hk.2)) (fun _ hk => hk.1), by (with_reducible repeat (first | apply rA | apply rN | apply rD)); exact Kd.R_mono (Kd.farS10 (Kd.R_types HO149.out BK133.out (by decide)) (fun _ hk => hk.2)) (fun _ hk => trivial), by (with_reducible repeat (first | apply rA | apply rN | apply rD)); exact Kd.R_mono (Kd.farS10 (Kd.R_types HO152.out BK133.out (by decide)) (fun _ hk => hk.2)) (fun _ hk => trivial), by repeat (first | (with_reducible first | exact HB.out | apply wA | apply wN | apply wD | refine wS ?_ GE132.out | refine wS ?_ GE133.out) | exact HB.out)⟩
 replace c6 := Bool.eq_false_iff.mpr c6
 subst c6
 have H1 : (some (0, 0, (⟨#[]⟩ : ByteArray), (⟨#[]⟩ : ByteArray), false, false, ([] : List ByteArray), ([] : List ByteArray), ([] : List Bool), ([] : List Int), 1)) = some (r1, r2, r3, r4, r5, r6, r7, r8, r9, r10, r11) := by rw [if_neg (show ¬ (false = true) by decide)] at H; exact H
 clear H
 have H := H1
 clear H1
 simp only [Option.some.injEq, Prod.mk.injEq] at H
 exact absurd (H.2.2.2.2.2.2.2.2.2.2.trans hrt) (by decide)
def rev_New.f (k : Nat) (a0 : Int) (a1 : Int) (a2_0 : ByteArray) (a2_1 : ByteArray) (a2_2 : Bool) (l3 : List (S114)) : Option (Int × Int × ByteArray × ByteArray × Bool × Bool × List ByteArray × List ByteArray × List Bool × List Int × Int) := (rev_New.g k a0 a1 a2_0 a2_1 a2_2 l3).bind fun t => if t.2.2.2.2.2.2.2.2.2.2 = 0 then some t else none
theorem rev_New.calls (k : Nat) (a0 : Int) (a1 : Int) (a2_0 : ByteArray) (a2_1 : ByteArray) (a2_2 : Bool) (A3 : Option Addr) (c3 : Nat) (l3 : List (S114)) (r1 : Int) (r2 : Int) (r3 : ByteArray) (r4 : ByteArray) (r5 : Bool) (r6 : Bool) (r7 : List ByteArray) (r8 : List ByteArray) (r9 : List Bool) (r10 : List Int) (r11 : Int) (w : World) (hr3 : Kd.C k114 w A3 l3.length l3) (hc3 : l3.length ≤ c3) (h : rev_New.f k a0 a1 a2_0 a2_1 a2_2 l3 = some (r1, r2, r3, r4, r5, r6, r7, r8, r9, r10, r11)) :
  Calls Try.prog 16 #[.int .i64 a0, .int .i64 a1, .agg #[.string a2_0, .string a2_1, .bool a2_2], .slice A3 l3.length c3] w fun e w' => ∃ v6_ v7_ v8_ v9_ : Value, e = .returned (.tuple #[.agg #[.int .i64 r1, .int .i64 r2, .string r3, .string r4, .bool r5, .bool r6, v6_, v7_, v8_, v9_], .int .i64 r11]) ∧ Kd.R Kd.string 9 w' w.heap.size (fun k_ => some k_ ≠ (v7_ : Value).ownBlock) v6_ r7 ∧ Kd.R Kd.string 9 w' w.heap.size (fun k_ => some k_ ≠ (v6_ : Value).ownBlock) v7_ r8 ∧ Kd.R Kd.bool 4 w' w.heap.size (fun _ => True) v8_ r9 ∧ Kd.R (Kd.int .i64) 3 w' w.heap.size (fun _ => True) v9_ r10 ∧ Below w.heap.size w w' := by
 unfold rev_New.f at h
 obtain ⟨t, h1, h2⟩ := Option.bind_eq_some_iff.mp h
 by_cases c : t.2.2.2.2.2.2.2.2.2.2 = 0
 ·
  rw [if_pos c] at h2
  obtain rfl := Option.some.inj h2
  exact rev_New.calls0 k a0 a1 a2_0 a2_1 a2_2 A3 c3 l3 r1 r2 r3 r4 r5 r6 r7 r8 r9 r10 r11 w hr3 hc3 h1 c
 rw [if_neg c] at h2
 exact absurd h2 (by simp)
/-! ### tag_within: function 76 -/
def tag_within.f (a0 : Int) (a1 : Int) : Option (Bool) := if a0 ≥ 0 then (some (decide (a0 ≤ a1))) else (some false)
set_option maxHeartbeats 8000000 in
set_option maxRecDepth 100000 in
theorem tag_within.calls (a0 : Int) (a1 : Int) (r : Bool) (w : World) (h : tag_within.f a0 a1 = some r) :
  Calls Try.prog 76 #[.int .i64 a0, .int .i64 a1] w fun e w' => e = .returned (.bool r) ∧ Drawn0 w w' := by
 have H : (if a0 ≥ 0 then (some (decide (a0 ≤ a1))) else (some false)) = some r := h
 clear h
 by_cases c3 : a0 ≥ 0
 ·
  rw [if_pos c3] at H
  have c3b0 : decide (0 ≤ a0) = true := dT c3
  clear c3
  obtain rfl := Option.some.inj H
  go_enter Try.func76, Try.ntmps76
  go_wp2
  go_ret
  exact ⟨by first | rfl | (simp; done) | (simp [*]; done), by repeat (first | exact Drawn0.refl _ | apply Drawn0.step)⟩
 rw [if_neg c3] at H
 have c3b0 : decide (0 ≤ a0) = false := dF c3
 clear c3
 obtain rfl := Option.some.inj H
 go_enter Try.func76, Try.ntmps76
 go_wp2
 go_ret
 exact ⟨by first | rfl | (simp; done) | (simp [*]; done), by repeat (first | exact Drawn0.refl _ | apply Drawn0.step)⟩
/-! ### tag_Handle: function 74 -/
def tag_Handle.f (a0 : Int) (a1 : Int) : Option (Int) := (tag_within.f a0 65534).bind fun t153 => (if t153 = true then ((tag_within.f a1 16383).bind fun t154 => (if t154 = true then (some (Go.bits .or .i64 (wrap64 (a1 * 65536)) (wrap64 (a0 + 1)))) else (some 0))) else (some 0))
set_option maxHeartbeats 8000000 in
set_option maxRecDepth 100000 in
theorem tag_Handle.calls (a0 : Int) (a1 : Int) (r : Int) (w : World) (h : tag_Handle.f a0 a1 = some r) :
  Calls Try.prog 74 #[.int .i64 a0, .int .i64 a1] w fun e w' => e = .returned (.int .i64 r) ∧ Drawn0 w w' := by
 have H : ((tag_within.f a0 65534).bind fun t153 => (if t153 = true then ((tag_within.f a1 16383).bind fun t154 => (if t154 = true then (some (Go.bits .or .i64 (wrap64 (a1 * 65536)) (wrap64 (a0 + 1)))) else (some 0))) else (some 0))) = some r := h
 clear h
 replace H := Option.bind_eq_some_iff.mp H
 obtain ⟨t153, A30, H⟩ := H
 replace H : (if t153 = true then ((tag_within.f a1 16383).bind fun t154 => (if t154 = true then (some (Go.bits .or .i64 (wrap64 (a1 * 65536)) (wrap64 (a0 + 1)))) else (some 0))) else (some 0)) = some r := H
 have A3 := K0 A30
 clear A30
 by_cases c4 : t153 = true
 ·
  subst c4
  have H1 : ((tag_within.f a1 16383).bind fun t154 => (if t154 = true then (some (Go.bits .or .i64 (wrap64 (a1 * 65536)) (wrap64 (a0 + 1)))) else (some 0))) = some r := by rw [if_pos rfl] at H; exact H
  clear H
  have H := H1
  clear H1
  replace H := Option.bind_eq_some_iff.mp H
  obtain ⟨t154, A50, H⟩ := H
  replace H : (if t154 = true then (some (Go.bits .or .i64 (wrap64 (a1 * 65536)) (wrap64 (a0 + 1)))) else (some 0)) = some r := H
  have A5 := K0 A50
  clear A50
  by_cases c6 : t154 = true
  ·
   subst c6; have H1 : (some (Go.bits .or .i64 (wrap64 (a1 * 65536)) (wrap64 (a0 + 1)))) = some r := by rw [if_pos rfl] at H; exact H
   clear H; have H := H1; clear H1; obtain rfl := Option.some.inj H; go_enter Try.func74, Try.ntmps74
   go_wp2_with (first | ((with_reducible refine gate_callee (f := 76) rfl ?_); refine goesL_ (some 6) rfl rfl Try.func76 (by kernel_rfl) rfl #[.int .i64 a0, .int .i64 65534] rfl (by (try simp only [List.map_toArray, List.map_cons, List.map_nil]); first | done | rfl | (simp only [lD, lT]; rfl)) ?_; (with_reducible refine (tag_within.calls a0 65534 true _ A3.out).mono ?_); rintro e w' ⟨rfl, ⟨nd, rfl⟩⟩; refine ⟨_, rfl, ?_⟩) | (go_at_call 76; (with_reducible refine (tag_within.calls a1 16383 true _ A5.out).mono ?_); rintro e w' ⟨rfl, ⟨nd, rfl⟩⟩))
   go_ret; exact ⟨by first | rfl | (simp; done) | (simp [*]; done), by repeat (first | exact Drawn0.refl _ | apply Drawn0.step)⟩
  replace c6 := Bool.eq_false_iff.mpr c6
  subst c6
  have H1 : (some 0) = some r := by rw [if_neg (show ¬ (false = true) by decide)] at H; exact H
  clear H
  have H := H1
  clear H1
  obtain rfl := Option.some.inj H
  go_enter Try.func74, Try.ntmps74
  go_wp2_with (first | ((with_reducible refine gate_callee (f := 76) rfl ?_); refine goesL_ (some 6) rfl rfl Try.func76 (by kernel_rfl) rfl #[.int .i64 a0, .int .i64 65534] rfl (by (try simp only [List.map_toArray, List.map_cons, List.map_nil]); first | done | rfl | (simp only [lD, lT]; rfl)) ?_; (with_reducible refine (tag_within.calls a0 65534 true _ A3.out).mono ?_); rintro e w' ⟨rfl, ⟨nd, rfl⟩⟩; refine ⟨_, rfl, ?_⟩) | (go_at_call 76; (with_reducible refine (tag_within.calls a1 16383 false _ A5.out).mono ?_); rintro e w' ⟨rfl, ⟨nd, rfl⟩⟩))
  go_ret
  exact ⟨by first | rfl | (simp; done) | (simp [*]; done), by repeat (first | exact Drawn0.refl _ | apply Drawn0.step)⟩
 replace c4 := Bool.eq_false_iff.mpr c4
 subst c4
 have H1 : (some 0) = some r := by rw [if_neg (show ¬ (false = true) by decide)] at H; exact H
 clear H
 have H := H1
 clear H1
 obtain rfl := Option.some.inj H
 go_enter Try.func74, Try.ntmps74
 go_wp2_with (first | ((with_reducible refine gate_callee (f := 76) rfl ?_); refine goesL_ (some 6) rfl rfl Try.func76 (by kernel_rfl) rfl #[.int .i64 a0, .int .i64 65534] rfl (by (try simp only [List.map_toArray, List.map_cons, List.map_nil]); first | done | rfl | (simp only [lD, lT]; rfl)) ?_; (with_reducible refine (tag_within.calls a0 65534 false _ A3.out).mono ?_); rintro e w' ⟨rfl, ⟨nd, rfl⟩⟩; refine ⟨_, rfl, ?_⟩))
 go_ret
 exact ⟨by first | rfl | (simp; done) | (simp [*]; done), by repeat (first | exact Drawn0.refl _ | apply Drawn0.step)⟩
/-! ### rundlelaw18_handle: function 38 -/
def rundlelaw18_handle.f (a0 : Int) : Option (Int) := (tag_Handle.f a0 7).bind fun t155 => (some t155)
set_option maxHeartbeats 8000000 in
set_option maxRecDepth 100000 in
theorem rundlelaw18_handle.calls (a0 : Int) (r : Int) (w : World) (h : rundlelaw18_handle.f a0 = some r) :
  Calls Try.prog 38 #[.int .i64 a0] w fun e w' => e = .returned (.int .i64 r) ∧ Drawn0 w w' := by
 have H : ((tag_Handle.f a0 7).bind fun t155 => (some t155)) = some r := h
 clear h
 replace H := Option.bind_eq_some_iff.mp H
 obtain ⟨t155, A20, H⟩ := H
 replace H : (some t155) = some r := H
 have A2 := K0 A20
 clear A20
 obtain rfl := Option.some.inj H
 go_enter Try.func38, Try.ntmps38
 go_wp2_with (first | ((with_reducible refine gate_callee (f := 74) rfl ?_); refine goesL_ (some 4) rfl rfl Try.func74 (by kernel_rfl) rfl #[.int .i64 a0, .int .i64 7] rfl (by (try simp only [List.map_toArray, List.map_cons, List.map_nil]); first | done | rfl | (simp only [lD, lT]; rfl)) ?_; (with_reducible refine (tag_Handle.calls a0 7 t155 _ A2.out).mono ?_); rintro e w' ⟨rfl, ⟨nd, rfl⟩⟩; refine ⟨_, rfl, ?_⟩))
 go_ret
 exact ⟨by first | rfl | (simp; done) | (simp [*]; done), by repeat (first | exact Drawn0.refl _ | apply Drawn0.step)⟩
/-! ### rundlelaw18_cell: function 40 -/
def rundlelaw18_cell.f (a0 : Int) (a1 : Int) : Option (Int) := some (wrap64 ((wrap64 (1000 + (wrap64 (10 * a0)))) + a1))
set_option maxHeartbeats 8000000 in
set_option maxRecDepth 100000 in
theorem rundlelaw18_cell.calls (a0 : Int) (a1 : Int) (r : Int) (w : World) (h : rundlelaw18_cell.f a0 a1 = some r) :
  Calls Try.prog 40 #[.int .i64 a0, .int .i64 a1] w fun e w' => e = .returned (.int .i64 r) ∧ Drawn0 w w' := by
 have H : (some (wrap64 ((wrap64 (1000 + (wrap64 (10 * a0)))) + a1))) = some r := h
 clear h
 obtain rfl := Option.some.inj H
 go_enter Try.func40, Try.ntmps40
 go_wp2
 go_ret
 exact ⟨by first | rfl | (simp; done) | (simp [*]; done), by repeat (first | exact Drawn0.refl _ | apply Drawn0.step)⟩
end Go.Proofs.Ytoaacdjcjicemaa.PPlanRelinks
