-- written by a program of this session (the print, turned)
import Derived.Test.YtoaacdjcjicemaaPRevAppliesx0
import Derived.Test.YtoaacdjcjicemaaPRevAppliesx10
import Derived.Test.YtoaacdjcjicemaaWAl
namespace Go.Proofs.Ytoaacdjcjicemaa.PRevApplies
open Go.RowKit Go.Proofs.YtoaacdjcjicemaaW.PrintWords Go.Proofs.YtoaacdjcjicemaaW.PrintLast Go.Proofs.YtoaacdjcjicemaaW.PrintMore
attribute [local go_sem] cell_self cell_there leq_str geq_str gtr_str max2_str max2_int min2_int max_two min_two max_three min_three max_four min_four   -- for this text's walks alone
set_option linter.unusedVariables false
set_option linter.unusedSimpArgs false
/-! ### rundleref06_Build: function 62 -/
mutual
def rundleref06_Build.l0 : Nat → List ByteArray → Int → List Int → Int → Option (List Int)
 | 0, _, _, _, _ => none
 | k + 1, x0, x3, x4, x5 => if x5 < (x0.length : Int) then (rundleref06_Build.l1 k x0 x3 x4 x5 0) else (some x4)
def rundleref06_Build.l1 : Nat → List ByteArray → Int → List Int → Int → Int → Option (List Int)
 | 0, _, _, _, _, _ => none
 | k + 1, x0, x3, x4, x5, x6 => if 0 ≤ x5 then (if x5 < (x0.length : Int) then ((rundleref06_Slot.f k x3 (rdOf ByteArray.empty x0 x5) x6).bind fun t326 => (if 0 ≤ t326 then (if t326 < (x4.length : Int) then (if (rd x4 t326) = 0 then ((rundleref06_Slot.f k x3 (rdOf ByteArray.empty x0 x5) x6).bind fun t329 => (if 0 ≤ t329 then (if t329 < (x4.length : Int) then (rundleref06_Build.l0 k x0 x3 (x4.set (t329 : Int).toNat (wrap64 (x5 + 1))) (wrap64 (x5 + 1))) else (none)) else (none))) else (rundleref06_Build.l1 k x0 x3 x4 x5 (wrap64 (x6 + 1)))) else (none)) else (none))) else (none)) else (none)
end
def rundleref06_Build.f (k : Nat) (l0 : List ByteArray) : Option (List Int) := (rundleref06_Size.f k (l0.length : Int)).bind fun t321 => (if 0 ≤ t321 then (if (t321 : Int).toNat ≤ 35184372088832 then (rundleref06_Build.l0 k l0 t321 (List.replicate (t321 : Int).toNat 0) 0) else (none)) else (none))
set_option maxHeartbeats 8000000 in
set_option maxRecDepth 100000 in
theorem rundleref06_Build.calls (k : Nat) (A0 : Option Addr) (c0 : Nat) (l0 : List ByteArray) (r : List Int) (w : World) (hr0 : Kd.C Kd.string w A0 l0.length l0) (hc0 : l0.length ≤ c0) (h : rundleref06_Build.f k l0 = some r) :
  Calls Try.prog 62 #[.slice A0 l0.length c0] w fun e w' => ∃ v0_ : Value, e = .returned (v0_) ∧ Kd.R (Kd.int .i64) 3 w' w.heap.size (fun _ => True) v0_ r ∧ Below w.heap.size w w' := by
 have HR0 := K0 hr0
 have HC0 := K0 hc0
 clear hr0 hc0
 have HB := K0 (Below.refl w.heap.size w)
 have H : ((rundleref06_Size.f k (l0.length : Int)).bind fun t321 => (if 0 ≤ t321 then (if (t321 : Int).toNat ≤ 35184372088832 then (rundleref06_Build.l0 k l0 t321 (List.replicate (t321 : Int).toNat 0) 0) else (none)) else (none))) = some r := h
 clear h
 replace H := Option.bind_eq_some_iff.mp H
 obtain ⟨t321, A20, H⟩ := H
 replace H : (if 0 ≤ t321 then (if (t321 : Int).toNat ≤ 35184372088832 then (rundleref06_Build.l0 k l0 t321 (List.replicate (t321 : Int).toNat 0) 0) else (none)) else (none)) = some r := H
 have A2 := K0 A20
 clear A20
 by_cases c3 : 0 ≤ t321
 ·
  rw [if_pos c3] at H
  have c3b0 := eq_true c3
  have c3b1 : decide (0 ≤ t321) = true := dT c3
  clear c3
  by_cases c4 : (t321 : Int).toNat ≤ 35184372088832
  ·
   rw [if_pos c4] at H; have c4b0 := eq_true c4; have c4b1 : decide ((t321 : Int).toNat ≤ 35184372088832) = true := dT c4; clear c4; obtain ⟨y322, hy322⟩ : ∃ y_ : List Int, y_ = (List.replicate (t321 : Int).toNat 0) := ⟨_, rfl⟩; replace H : (rundleref06_Build.l0 k l0 t321 y322 0) = some r := by first | (rw [hy322]; with_reducible exact H) | (have H2_ := (Option.bind_some _ _).symm.trans H; rw [hy322]; with_reducible exact H2_) | (have H2_ := (Option.bind_some _ _).symm.trans H; with_reducible exact H2_) | with_reducible exact H | (rw [hy322]; exact H) | exact H
   have Ny322 := K0 hy322; clear hy322; have H' := K0 H; clear H; go_enter Try.func62, Try.ntmps62
   go_wp2_with (first | ((with_reducible refine gate_callee (f := 88) rfl ?_); refine goesL_ (some 9) rfl rfl Try.func88 (by kernel_rfl) rfl #[.int .i64 (l0.length : Int)] rfl (by (try simp only [List.map_toArray, List.map_cons, List.map_nil]); first | done | rfl | (simp only [lD, lT]; rfl)) ?_; (with_reducible refine (rundleref06_Size.calls k (l0.length : Int) t321 _ A2.out).mono ?_); rintro e w' ⟨rfl, ⟨nd, rfl⟩⟩; refine ⟨_, rfl, ?_⟩) | ((with_reducible refine gate_dst (N := 11) rfl ?_); refine Kd.R_make (Kd.int .i64) _ 3 rfl (N := 11) rfl 35 _ _ rfl t321 rfl rfl Try.underlying35 (.int .i64 0) 8 info3 rfl (by decide) (by omega) 0 (ok := fun _ => True) (okp := fun _ => True) rfl (fun _ hk => hk) trivial (oT (by first | (with_reducible assumption) | assumption)) (Nat.le_trans (Nat.mul_le_mul_right _ (oT (by first | (with_reducible assumption) | assumption) : t321.toNat ≤ 35184372088832)) (by omega)) (Below.refl _ _) (Nat.le_refl _) ?_; intro v323 w5 ho6 hb hg_ hnew_; clear hg_ hnew_; (first | rw [← Ny322.out] at ho6 | (simp only [Int.reduceToNat] at ho6; rw [← Ny322.out] at ho6)); have n0_ := K0 (Kd.R_lower ho6 (below_size (by repeat (first | (with_reducible first | exact HB.out | apply wA | apply wN | apply wD) | exact HB.out)))); have n1_ := K0 (below_step (by repeat (first | (with_reducible first | exact HB.out | apply wA | apply wN | apply wD) | exact HB.out)) hb); clear HB; have HO324 := n0_; have HB := n1_; clear n0_ n1_; clear hb ho6))
   go_loopg [5] k (fun kq v5 w' => ∃ (x4_1 : List Int) (x5_1 : Int), v5 = .int .i64 x5_1 ∧ Aside0 (rundleref06_Build.l0 kq l0 t321 x4_1 x5_1 = some r) ∧ Aside0 (kq ≤ k) ∧ Aside0 (Kd.R (Kd.int .i64) 3 w' w.heap.size (fun _ => True) v323 x4_1) ∧ Aside0 (Below w.heap.size w w'))
   case atStart => exact ⟨(y322), (0), (by first | rfl | (simp; done) | (simp [*]; done)), H', ⟨Nat.le_refl _⟩, ⟨by (with_reducible repeat (first | apply rA | apply rN | apply rD)); exact HO324.out⟩, ⟨by repeat (first | (with_reducible first | exact HB.out | apply wA | apply wN | apply wD) | exact HB.out)⟩⟩
   case round =>
    clear H'; try clear p2
    try clear c3
    try clear c3b0
    try clear c3b1
    try clear c4
    try clear c4b0
    try clear c4b1
    try clear c6
    obtain ⟨x4_1, x5_1, rfl, HA, HK1, HO_4, HB⟩ := hrel
    cases gk with
    | zero => exact absurd HA.out (by simp [rundleref06_Build.l0])
    | succ k1 =>
     have H := HA.out; clear HA; simp only [rundleref06_Build.l0] at H; by_cases c7 : x5_1 < (l0.length : Int)
     ·
      rw [if_pos c7] at H; have c7b0 : decide (x5_1 < (l0.length : Int)) = true := dT c7; clear c7; have H' := K0 H; clear H; go_wp2
      go_loopg [6] k1 (fun kq v6 w' => ∃ (x6_2 : Int), v6 = .int .i64 x6_2 ∧ Aside0 (rundleref06_Build.l1 kq l0 t321 x4_1 x5_1 x6_2 = some r) ∧ Aside0 (kq ≤ k1) ∧ Aside0 (Kd.R (Kd.int .i64) 3 w' w.heap.size (fun _ => True) v323 x4_1) ∧ Aside0 (Below w.heap.size w w'))
      case atStart => exact ⟨(0), (by first | rfl | (simp; done) | (simp [*]; done)), H', ⟨Nat.le_refl _⟩, ⟨by (with_reducible repeat (first | apply rA | apply rN | apply rD)); exact HO_4.out⟩, ⟨by repeat (first | (with_reducible first | exact HB.out | apply wA | apply wN | apply wD) | exact HB.out)⟩⟩
      case round =>
       clear H'; try clear p2
       try clear c3
       try clear c3b0
       try clear c3b1
       try clear c4
       try clear c4b0
       try clear c4b1
       try clear c6
       try clear c7
       try clear c7b0
       try clear p2
       obtain ⟨x6_2, rfl, HA, HK2, HO_4, HB⟩ := hrel
       cases gk with
       | zero => exact absurd HA.out (by simp [rundleref06_Build.l1])
       | succ k2 =>
        have H := HA.out; clear HA; simp only [rundleref06_Build.l1] at H; by_cases c8 : 0 ≤ x5_1
        ·
         rw [if_pos c8] at H; have c8b0 : decide (0 ≤ x5_1) = true := dT c8; clear c8; by_cases c9 : x5_1 < (l0.length : Int)
         ·
          rw [if_pos c9] at H; have c9b0 : decide (x5_1 < (l0.length : Int)) = true := dT c9; clear c9; replace H := Option.bind_eq_some_iff.mp H; obtain ⟨t326, A100, H⟩ := H; replace H : (if 0 ≤ t326 then (if t326 < (x4_1.length : Int) then (if (rd x4_1 t326) = 0 then ((rundleref06_Slot.f k2 t321 (rdOf ByteArray.empty l0 x5_1) x6_2).bind fun t329 => (if 0 ≤ t329 then (if t329 < (x4_1.length : Int) then (rundleref06_Build.l0 k2 l0 t321 (x4_1.set (t329 : Int).toNat (wrap64 (x5_1 + 1))) (wrap64 (x5_1 + 1))) else (none)) else (none))) else (rundleref06_Build.l1 k2 l0 t321 x4_1 x5_1 (wrap64 (x6_2 + 1)))) else (none)) else (none)) = some r := H; have A10 := K0 A100; clear A100; by_cases c11 : 0 ≤ t326
          ·
           rw [if_pos c11] at H; have c11b0 : decide (0 ≤ t326) = true := dT c11; clear c11; by_cases c12 : t326 < (x4_1.length : Int)
           ·
            rw [if_pos c12] at H; have c12b0 : decide (t326 < (x4_1.length : Int)) = true := dT c12; clear c12; by_cases c13 : (rd x4_1 t326) = 0
            ·
             rw [if_pos c13] at H; have c13b0 : ((rd x4_1 t326) == 0) = true := beq_iff_eq.mpr c13; have c13b1 : ((rd x4_1 t326) != 0) = false := bne_eq_false_iff_eq.mpr c13; clear c13; replace H := Option.bind_eq_some_iff.mp H; obtain ⟨t329, A140, H⟩ := H; replace H : (if 0 ≤ t329 then (if t329 < (x4_1.length : Int) then (rundleref06_Build.l0 k2 l0 t321 (x4_1.set (t329 : Int).toNat (wrap64 (x5_1 + 1))) (wrap64 (x5_1 + 1))) else (none)) else (none)) = some r := H; have A14 := K0 A140; clear A140; have QA14 := K0 (Option.some.inj (A14.out.symm.trans A10.out)); by_cases c15 : 0 ≤ t329
             ·
              rw [if_pos c15] at H; have c15b0 : decide (0 ≤ t329) = true := dT c15; clear c15; by_cases c16 : t329 < (x4_1.length : Int)
              ·
               rw [if_pos c16] at H; have c16b0 : decide (t329 < (x4_1.length : Int)) = true := dT c16; clear c16; obtain ⟨y330, hy330⟩ : ∃ y_ : List Int, y_ = (x4_1.set (t329 : Int).toNat (wrap64 (x5_1 + 1))) := ⟨_, rfl⟩; replace H : (rundleref06_Build.l0 k2 l0 t321 y330 (wrap64 (x5_1 + 1))) = some r := by first | (rw [hy330]; with_reducible exact H) | (have H2_ := (Option.bind_some _ _).symm.trans H; rw [hy330]; with_reducible exact H2_) | (have H2_ := (Option.bind_some _ _).symm.trans H; with_reducible exact H2_) | with_reducible exact H | (rw [hy330]; exact H) | exact H
               have Ny330 := K0 hy330; clear hy330; have H' := K0 H; clear H; have p325 : 0 ≤ (x5_1 : Int) := oT (by first | (with_reducible assumption) | assumption); have q325 : x5_1 < (l0.length : Int) := oT (by first | (with_reducible assumption) | assumption); obtain ⟨ad325, e325, hx325_0⟩ := Kd.at_string HR0.out x5_1 p325 q325
               cases e325; replace hx325_0 := (HB.out.cell (bL w _ hx325_0)).trans hx325_0; replace p325 := eq_true p325; replace q325 := eq_true q325; go_wp2_with (first | ((with_reducible refine gate_callee (f := 89) rfl ?_); refine goesL_ (some 25) rfl rfl Try.func89 (by kernel_rfl) rfl #[.int .i64 t321, .string (rdOf ByteArray.empty l0 x5_1), .int .i64 x6_2] rfl (by (try simp only [List.map_toArray, List.map_cons, List.map_nil]); first | done | rfl | (simp only [lD, lT]; rfl)) ?_; (with_reducible refine (rundleref06_Slot.calls k2 t321 (rdOf ByteArray.empty l0 x5_1) x6_2 t326 _ A10.out).mono ?_); rintro e w' ⟨rfl, ⟨nd, rfl⟩⟩; refine ⟨_, rfl, ?_⟩; (try (rw [drewN_self wr]; generalize hq_ : World.drewN wr _ = wr; have n0_ : Aside0 (Kd.R (Kd.int .i64) 3 wr w.heap.size (fun _ => True) v323 x4_1) := ⟨by rw [← hq_]; exact (by (with_reducible repeat (first | apply rA | apply rN | apply rD)); exact HO_4.out)⟩; have n1_ : Aside0 (Below w.heap.size w wr) := ⟨by rw [← hq_]; exact (by repeat (first | (with_reducible first | exact HB.out | apply wA | apply wN | apply wD) | exact HB.out))⟩; clear HO_4 HB hq_; have HO_4 := n0_; have HB := n1_; clear n0_ n1_)); obtain ⟨Ao18, co18, eo18⟩ := Kd.R_slice HO_4.out; subst eo18; have p327 : 0 ≤ (t326 : Int) := oT (by first | (with_reducible assumption) | assumption); have q327 : t326 < (x4_1.length : Int) := oT (by first | (with_reducible assumption) | assumption); obtain ⟨ad327, e327, hx327_0⟩ := Kd.at_int (Kd.R_reads' HO_4.out).2.2 t326 p327 q327; cases e327; replace p327 := eq_true p327; replace q327 := eq_true q327; have p328 : 0 ≤ (x5_1 : Int) := oT (by first | (with_reducible assumption) | assumption); have q328 : x5_1 < (l0.length : Int) := oT (by first | (with_reducible assumption) | assumption); obtain ⟨ad328, e328, hx328_0⟩ := Kd.at_string HR0.out x5_1 p328 q328; obtain rfl : ad325 = ad328 := (by injection e328); replace hx328_0 := (HB.out.cell (bL w _ hx328_0)).trans hx328_0; replace p328 := eq_true p328; replace q328 := eq_true q328) | ((with_reducible refine gate_callee (f := 89) rfl ?_); refine goesL_ (some 38) rfl rfl Try.func89 (by kernel_rfl) rfl #[.int .i64 t321, .string (rdOf ByteArray.empty l0 x5_1), .int .i64 x6_2] rfl (by (try simp only [List.map_toArray, List.map_cons, List.map_nil]); first | done | rfl | (simp only [lD, lT]; rfl)) ?_; (with_reducible refine (rundleref06_Slot.calls k2 t321 (rdOf ByteArray.empty l0 x5_1) x6_2 t329 _ A14.out).mono ?_); rintro e w' ⟨rfl, ⟨nd, rfl⟩⟩; refine ⟨_, rfl, ?_⟩; (try (rw [drewN_self wr]; generalize hq_ : World.drewN wr _ = wr; have n0_ : Aside0 (Kd.R (Kd.int .i64) 3 wr w.heap.size (fun _ => True) (.slice (some ad327) x4_1.length co18) x4_1) := ⟨by rw [← hq_]; exact (by (with_reducible repeat (first | apply rA | apply rN | apply rD)); exact HO_4.out)⟩; have n1_ : Aside0 (Below w.heap.size w wr) := ⟨by rw [← hq_]; exact (by repeat (first | (with_reducible first | exact HB.out | apply wA | apply wN | apply wD) | exact HB.out))⟩; clear HO_4 HB hq_; have HO_4 := n0_; have HB := n1_; clear n0_ n1_)); have p17 : 0 ≤ (t329 : Int) := oT (by first | (with_reducible assumption) | assumption); have q17 : (t329 : Int) < ((x4_1.length : Int) : Int) := oT (by first | (with_reducible assumption) | assumption); obtain ⟨go17, co17, eo17, gb17, gl17, cl17, HG17⟩ := Kd.R_form HO_4.out (by omega); (first | cases eo17 | (injection eo17 with ea_ en_ ec_; (first | subst ea_ | (injection ea_ with ea_; subst ea_)); subst ec_; clear en_)); have GB17 := K0 gb17; have GG17 := K0 HG17; clear gb17 gl17 HG17; (first | simp only [add_plain] at hx327_0 | skip); obtain ⟨hx17_0, hf17_0⟩ := Kd.R_celln 0 HO_4.out (t329 : Int) p17 q17; replace p17 := eq_true p17; replace q17 := eq_true q17; obtain ⟨hy19_, hz19_⟩ := Kd.R_celln 0 HO_4.out (t329 : Int) (oT (by first | (with_reducible assumption) | assumption)) (oT (by first | (with_reducible assumption) | assumption)); have HP19 := Kd.R_putg HO_4.out (t329 : Int) (wrap64 (x5_1 + 1))) | ((with_reducible refine gate_store (t := 3) (p := 41) rfl ?_); refine store_event (t := 3) (p := 41) (v := ?vo_w20) (w1 := (wr.setCell ⟨go17, (t329 : Int).toNat, none⟩ (.int .i64 (wrap64 (x5_1 + 1))))) ?hg ?ho ?hn ?hr ?_; (case ho => rfl); (case hg => rfl); (case hn => rfl); (case hr => first | (go_simp; done) | (go_simp; rfl)); intro w20 hw; have hg : wr.grownBy w20 (some go17) := (by rw [hw]; exact HP19.2); have hp_ : Kd.R (Kd.int .i64) 3 w20 w.heap.size (fun _ => True) (.slice (some ⟨go17, 0, none⟩) x4_1.length co18) y330 := (by rw [hw, Ny330.out]; exact HP19.1); clear HP19; have n0_ := K0 (hp_); have n1_ := K0 ((by rw [hw]; exact wS (HB.out) GB17.out : Below w.heap.size w w20)); clear HO_4; clear HB; have HO_4 := n0_; have HB := n1_; clear n0_ n1_; clear hg hw hp_))
               go_roundg k2
               case measure => have := HK1.out; have := HK2.out; omega
               case rel => exact ⟨(y330), (wrap64 (x5_1 + 1)), (by first | rfl | (simp; done) | (simp [*]; done)), H', ⟨by have := HK1.out; have := HK2.out; omega⟩, ⟨by (with_reducible repeat (first | apply rA | apply rN | apply rD)); exact HO_4.out⟩, ⟨by repeat (first | (with_reducible first | exact HB.out | apply wA | apply wN | apply wD) | exact HB.out)⟩⟩
              rw [if_neg c16] at H; exact absurd H (by simp)
             rw [if_neg c15] at H; exact absurd H (by simp)
            rw [if_neg c13] at H; have c13b0 : ((rd x4_1 t326) == 0) = false := beq_eq_false_iff_ne.mpr c13; have c13b1 : ((rd x4_1 t326) != 0) = true := bne_iff_ne.mpr c13; have H' := K0 H; clear H; have p325 : 0 ≤ (x5_1 : Int) := oT (by first | (with_reducible assumption) | assumption); have q325 : x5_1 < (l0.length : Int) := oT (by first | (with_reducible assumption) | assumption); obtain ⟨ad325, e325, hx325_0⟩ := Kd.at_string HR0.out x5_1 p325 q325
            cases e325; replace hx325_0 := (HB.out.cell (bL w _ hx325_0)).trans hx325_0; replace p325 := eq_true p325; replace q325 := eq_true q325; go_wp2_with (first | ((with_reducible refine gate_callee (f := 89) rfl ?_); refine goesL_ (some 25) rfl rfl Try.func89 (by kernel_rfl) rfl #[.int .i64 t321, .string (rdOf ByteArray.empty l0 x5_1), .int .i64 x6_2] rfl (by (try simp only [List.map_toArray, List.map_cons, List.map_nil]); first | done | rfl | (simp only [lD, lT]; rfl)) ?_; (with_reducible refine (rundleref06_Slot.calls k2 t321 (rdOf ByteArray.empty l0 x5_1) x6_2 t326 _ A10.out).mono ?_); rintro e w' ⟨rfl, ⟨nd, rfl⟩⟩; refine ⟨_, rfl, ?_⟩; obtain ⟨Ao21, co21, eo21⟩ := Kd.R_slice HO_4.out; subst eo21; have p327 : 0 ≤ (t326 : Int) := oT (by first | (with_reducible assumption) | assumption); have q327 : t326 < (x4_1.length : Int) := oT (by first | (with_reducible assumption) | assumption); obtain ⟨ad327, e327, hx327_0⟩ := Kd.at_int (Kd.R_reads' HO_4.out).2.2 t326 p327 q327; cases e327; replace p327 := eq_true p327; replace q327 := eq_true q327))
            go_roundg k2
            case measure => have := HK1.out; have := HK2.out; omega
            case rel => exact ⟨(wrap64 (x6_2 + 1)), (by first | rfl | (simp; done) | (simp [*]; done)), H', ⟨by have := HK1.out; have := HK2.out; omega⟩, ⟨by (with_reducible repeat (first | apply rA | apply rN | apply rD)); exact HO_4.out⟩, ⟨by repeat (first | (with_reducible first | exact HB.out | apply wA | apply wN | apply wD) | exact HB.out)⟩⟩
           rw [if_neg c12] at H; exact absurd H (by simp)
          rw [if_neg c11] at H; exact absurd H (by simp)
         rw [if_neg c9] at H; exact absurd H (by simp)
        rw [if_neg c8] at H; exact absurd H (by simp)
     rw [if_neg c7] at H; have c7b0 : decide (x5_1 < (l0.length : Int)) = false := dF c7; clear c7; obtain rfl := Option.some.inj H; go_wp2
     go_ret; exact ⟨_, by first | rfl | (simp [errW_none, errW_some] <;> rfl) | (simp [*, errW_none, errW_some] <;> rfl), by (with_reducible repeat (first | apply rA | apply rN | apply rD)); exact HO_4.out, by repeat (first | (with_reducible first | exact HB.out | apply wA | apply wN | apply wD) | exact HB.out)⟩
  rw [if_neg c4] at H
  exact absurd H (by simp)
 rw [if_neg c3] at H
 exact absurd H (by simp)
end Go.Proofs.Ytoaacdjcjicemaa.PRevApplies
