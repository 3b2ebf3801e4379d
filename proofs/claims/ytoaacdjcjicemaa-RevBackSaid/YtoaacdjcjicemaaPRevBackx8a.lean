-- written by a program of this session (the print, turned)
import Derived.Test.YtoaacdjcjicemaaPRevBackx0
import Derived.Test.YtoaacdjcjicemaaPRevBackx4
import Derived.Test.YtoaacdjcjicemaaPRevBackx7
import Derived.Test.YtoaacdjcjicemaaWAl
namespace Go.Proofs.Ytoaacdjcjicemaa.PRevBack
open Go.RowKit Go.Proofs.YtoaacdjcjicemaaW.PrintWords Go.Proofs.YtoaacdjcjicemaaW.PrintLast Go.Proofs.YtoaacdjcjicemaaW.PrintMore
attribute [local go_sem] cell_self cell_there leq_str geq_str gtr_str max2_str max2_int min2_int max_two min_two max_three min_three max_four min_four   -- for this text's walks alone
set_option linter.unusedVariables false
set_option linter.unusedSimpArgs false
/-! ### rev_Get: function 24 -/
def rev_Get.f (k : Nat) (a0_0 : Int) (a0_1 : Int) (a0_2 : ByteArray) (a0_3 : ByteArray) (a0_4 : Bool) (a0_5 : Bool) (l0_6 : List ByteArray) (l0_7 : List ByteArray) (l0_8 : List Bool) (l0_9 : List Int) (a1 : ByteArray) : Option (ByteArray × Bool) := (probe_Find.f k l0_9 l0_6 a1).bind fun bt229 => (if bt229.1 ≥ 0 then (if 0 ≤ bt229.1 then (if bt229.1 < (l0_8.length : Int) then (if rdOf false l0_8 bt229.1 = true then (some ((⟨#[]⟩ : ByteArray), false)) else (if bt229.1 < (l0_7.length : Int) then (some (rdOf ByteArray.empty l0_7 bt229.1, true)) else (none))) else (none)) else (none)) else (some ((⟨#[]⟩ : ByteArray), false)))
set_option maxHeartbeats 8000000 in
set_option maxRecDepth 100000 in
theorem rev_Get.calls (k : Nat) (a0_0 : Int) (a0_1 : Int) (a0_2 : ByteArray) (a0_3 : ByteArray) (a0_4 : Bool) (a0_5 : Bool) (A0_6 : Option Addr) (c0_6 : Nat) (l0_6 : List ByteArray) (A0_7 : Option Addr) (c0_7 : Nat) (l0_7 : List ByteArray) (A0_8 : Option Addr) (c0_8 : Nat) (l0_8 : List Bool) (A0_9 : Option Addr) (c0_9 : Nat) (l0_9 : List Int) (a1 : ByteArray) (r1 : ByteArray) (r2 : Bool) (w : World) (hr0_6 : Kd.C Kd.string w A0_6 l0_6.length l0_6) (hc0_6 : l0_6.length ≤ c0_6) (hr0_7 : Kd.C Kd.string w A0_7 l0_7.length l0_7) (hc0_7 : l0_7.length ≤ c0_7) (hr0_8 : Kd.C Kd.bool w A0_8 l0_8.length l0_8) (hc0_8 : l0_8.length ≤ c0_8) (hr0_9 : Kd.C (Kd.int .i64) w A0_9 l0_9.length l0_9) (hc0_9 : l0_9.length ≤ c0_9) (h : rev_Get.f k a0_0 a0_1 a0_2 a0_3 a0_4 a0_5 l0_6 l0_7 l0_8 l0_9 a1 = some (r1, r2)) :
  Calls Try.prog 24 #[.agg #[.int .i64 a0_0, .int .i64 a0_1, .string a0_2, .string a0_3, .bool a0_4, .bool a0_5, .slice A0_6 l0_6.length c0_6, .slice A0_7 l0_7.length c0_7, .slice A0_8 l0_8.length c0_8, .slice A0_9 l0_9.length c0_9], .string a1] w fun e w' => e = .returned (.tuple #[.string r1, .bool r2]) ∧ Below w.heap.size w w' := by
 have hu37 := Try.underlying37
 have HR0_6 := K0 hr0_6
 have HC0_6 := K0 hc0_6
 clear hr0_6 hc0_6
 have HR0_7 := K0 hr0_7
 have HC0_7 := K0 hc0_7
 clear hr0_7 hc0_7
 have HR0_8 := K0 hr0_8
 have HC0_8 := K0 hc0_8
 clear hr0_8 hc0_8
 have HR0_9 := K0 hr0_9
 have HC0_9 := K0 hc0_9
 clear hr0_9 hc0_9
 have HB := K0 (Below.refl w.heap.size w)
 have H : ((probe_Find.f k l0_9 l0_6 a1).bind fun bt229 => (if bt229.1 ≥ 0 then (if 0 ≤ bt229.1 then (if bt229.1 < (l0_8.length : Int) then (if rdOf false l0_8 bt229.1 = true then (some ((⟨#[]⟩ : ByteArray), false)) else (if bt229.1 < (l0_7.length : Int) then (some (rdOf ByteArray.empty l0_7 bt229.1, true)) else (none))) else (none)) else (none)) else (some ((⟨#[]⟩ : ByteArray), false)))) = some (r1, r2) := h
 clear h
 replace H := Option.bind_eq_some_iff.mp H
 obtain ⟨⟨t229, t230⟩, A30, H⟩ := H
 replace H : (if t229 ≥ 0 then (if 0 ≤ t229 then (if t229 < (l0_8.length : Int) then (if rdOf false l0_8 t229 = true then (some ((⟨#[]⟩ : ByteArray), false)) else (if t229 < (l0_7.length : Int) then (some (rdOf ByteArray.empty l0_7 t229, true)) else (none))) else (none)) else (none)) else (some ((⟨#[]⟩ : ByteArray), false))) = some (r1, r2) := H
 have A3 := K0 A30
 clear A30
 by_cases c4 : t229 ≥ 0
 ·
  rw [if_pos c4] at H
  have c4b0 : decide (0 ≤ t229) = true := dT c4
  clear c4
  by_cases c5 : 0 ≤ t229
  ·
   rw [if_pos c5] at H; have c5b0 : decide (0 ≤ t229) = true := dT c5; clear c5; by_cases c6 : t229 < (l0_8.length : Int)
   ·
    rw [if_pos c6] at H; have c6b0 : decide (t229 < (l0_8.length : Int)) = true := dT c6; clear c6; obtain ⟨bq7, hbq7⟩ : ∃ b_ : Bool, b_ = (rdOf false l0_8 t229) := ⟨_, rfl⟩; replace H : (if bq7 = true then (some ((⟨#[]⟩ : ByteArray), false)) else (if t229 < (l0_7.length : Int) then (some (rdOf ByteArray.empty l0_7 t229, true)) else (none))) = some (r1, r2) := by rw [← hbq7] at H; exact H
    have Nbq7 := K0 hbq7; clear hbq7; by_cases c8 : bq7 = true
    ·
     subst c8; have H1 : (some ((⟨#[]⟩ : ByteArray), false)) = some (r1, r2) := by rw [if_pos rfl] at H; exact H
     clear H; have H := H1; clear H1; simp only [Option.some.injEq, Prod.mk.injEq] at H; obtain ⟨rfl, rfl⟩ := H; go_enter Try.func24, Try.ntmps24
     go_wp2_with (first | ((with_reducible refine gate_dst (N := 2) rfl ?_); refine box_event ?hg (N := 2) ?hd (cs := #[.int .i64 a0_0, .int .i64 a0_1, .string a0_2, .string a0_3, .bool a0_4, .bool a0_5, .slice A0_6 l0_6.length c0_6, .slice A0_7 l0_7.length c0_7, .slice A0_8 l0_8.length c0_8, .slice A0_9 l0_9.length c0_9]) (t := 37) ?hr ?_; (case hd => rfl); (case hg => rfl); (case hr => first | (go_simp; done) | (go_simp; rfl)); intro gb228 hg w9 hbox hb; have n0_ := K0 (below_step (by repeat (first | (with_reducible first | exact HB.out | apply wA | apply wN | apply wD) | exact HB.out)) hb); have n1_ := K0 (hbox); have n2_ := K0 ((by rw [hg]; exact (below_size (by repeat (first | (with_reducible first | exact HB.out | apply wA | apply wN | apply wD) | exact HB.out))) : w.heap.size ≤ gb228)); have n3_ := K0 ((by rw [hg]; exact (below_size (by repeat (first | (with_reducible first | exact HB.out | apply wA | apply wN | apply wD) | exact HB.out))) : w.heap.size ≤ gb228)); clear HB; have HB := n0_; have BK228 := n1_; have GW228 := n2_; have GE228 := n3_; clear n0_ n1_ n2_ n3_; clear hb hbox hg; obtain ⟨hcz10_0, hcz10_1, hcz10_2, hcz10_3, hcz10_4, hcz10_5, hcz10_6, hcz10_7, hcz10_8, hcz10_9⟩ := cellS10 BK228.out; obtain ⟨hfz10_0, hfz10_1, hfz10_2, hfz10_3, hfz10_4, hfz10_5, hfz10_6, hfz10_7, hfz10_8, hfz10_9⟩ := frozS10 BK228.out) | ((with_reducible refine gate_callee (f := 65) rfl ?_); refine goesL_ (some 14) rfl rfl Try.func65 (by kernel_rfl) rfl #[.slice A0_9 l0_9.length c0_9, .slice A0_6 l0_6.length c0_6, .string a1] rfl (by (try simp only [List.map_toArray, List.map_cons, List.map_nil]); first | done | rfl | (simp only [lD, lT]; rfl)) ?_; (with_reducible refine (probe_Find.calls k _ _ l0_9 _ _ l0_6 a1 t229 t230 _ ?side1 ?side2 ?side3 ?side4 A3.out).mono ?_); (case side1 => repeat (first | exact (Kd.C_below HR0_9.out HB.out) | (with_reducible refine Kd.C_alloc ?_ _) | (with_reducible refine Kd.C_drewN ?_ _) | (with_reducible refine Kd.C_drew ?_))); (case side2 => exact HC0_9.out); (case side3 => repeat (first | exact (Kd.C_below HR0_6.out HB.out) | (with_reducible refine Kd.C_alloc ?_ _) | (with_reducible refine Kd.C_drewN ?_ _) | (with_reducible refine Kd.C_drew ?_))); (case side4 => exact HC0_6.out); rintro e w' ⟨rfl, ⟨nd, rfl⟩⟩; refine ⟨_, rfl, ?_⟩; have p231 : 0 ≤ (t229 : Int) := oT (by first | (with_reducible assumption) | assumption); have q231 : t229 < (l0_8.length : Int) := oT (by first | (with_reducible assumption) | assumption); obtain ⟨ad231, e231, hx231_0⟩ := Kd.at_bool HR0_8.out t229 p231 q231; (try rw [← Nbq7.out] at hx231_0); cases e231; replace hx231_0 := (HB.out.cell (bL w _ hx231_0)).trans hx231_0; replace p231 := eq_true p231; replace q231 := eq_true q231))
     go_ret2
     exact ⟨by first | rfl | (simp [errW_none, errW_some] <;> rfl) | (simp [*, errW_none, errW_some] <;> rfl), by repeat (first | (with_reducible first | exact HB.out | apply wA | apply wN | apply wD | refine wS ?_ GE228.out) | exact HB.out)⟩
    replace c8 := Bool.eq_false_iff.mpr c8; subst c8; have H1 : (if t229 < (l0_7.length : Int) then (some (rdOf ByteArray.empty l0_7 t229, true)) else (none)) = some (r1, r2) := by rw [if_neg (show ¬ (false = true) by decide)] at H; exact H
    clear H; have H := H1; clear H1; by_cases c11 : t229 < (l0_7.length : Int)
    ·
     rw [if_pos c11] at H; have c11b0 : decide (t229 < (l0_7.length : Int)) = true := dT c11; clear c11; simp only [Option.some.injEq, Prod.mk.injEq] at H; obtain ⟨rfl, rfl⟩ := H; go_enter Try.func24, Try.ntmps24
     go_wp2_with (first | ((with_reducible refine gate_dst (N := 2) rfl ?_); refine box_event ?hg (N := 2) ?hd (cs := #[.int .i64 a0_0, .int .i64 a0_1, .string a0_2, .string a0_3, .bool a0_4, .bool a0_5, .slice A0_6 l0_6.length c0_6, .slice A0_7 l0_7.length c0_7, .slice A0_8 l0_8.length c0_8, .slice A0_9 l0_9.length c0_9]) (t := 37) ?hr ?_; (case hd => rfl); (case hg => rfl); (case hr => first | (go_simp; done) | (go_simp; rfl)); intro gb228 hg w12 hbox hb; have n0_ := K0 (below_step (by repeat (first | (with_reducible first | exact HB.out | apply wA | apply wN | apply wD) | exact HB.out)) hb); have n1_ := K0 (hbox); have n2_ := K0 ((by rw [hg]; exact (below_size (by repeat (first | (with_reducible first | exact HB.out | apply wA | apply wN | apply wD) | exact HB.out))) : w.heap.size ≤ gb228)); have n3_ := K0 ((by rw [hg]; exact (below_size (by repeat (first | (with_reducible first | exact HB.out | apply wA | apply wN | apply wD) | exact HB.out))) : w.heap.size ≤ gb228)); clear HB; have HB := n0_; have BK228 := n1_; have GW228 := n2_; have GE228 := n3_; clear n0_ n1_ n2_ n3_; clear hb hbox hg; obtain ⟨hcz13_0, hcz13_1, hcz13_2, hcz13_3, hcz13_4, hcz13_5, hcz13_6, hcz13_7, hcz13_8, hcz13_9⟩ := cellS10 BK228.out; obtain ⟨hfz13_0, hfz13_1, hfz13_2, hfz13_3, hfz13_4, hfz13_5, hfz13_6, hfz13_7, hfz13_8, hfz13_9⟩ := frozS10 BK228.out) | ((with_reducible refine gate_callee (f := 65) rfl ?_); refine goesL_ (some 14) rfl rfl Try.func65 (by kernel_rfl) rfl #[.slice A0_9 l0_9.length c0_9, .slice A0_6 l0_6.length c0_6, .string a1] rfl (by (try simp only [List.map_toArray, List.map_cons, List.map_nil]); first | done | rfl | (simp only [lD, lT]; rfl)) ?_; (with_reducible refine (probe_Find.calls k _ _ l0_9 _ _ l0_6 a1 t229 t230 _ ?side1 ?side2 ?side3 ?side4 A3.out).mono ?_); (case side1 => repeat (first | exact (Kd.C_below HR0_9.out HB.out) | (with_reducible refine Kd.C_alloc ?_ _) | (with_reducible refine Kd.C_drewN ?_ _) | (with_reducible refine Kd.C_drew ?_))); (case side2 => exact HC0_9.out); (case side3 => repeat (first | exact (Kd.C_below HR0_6.out HB.out) | (with_reducible refine Kd.C_alloc ?_ _) | (with_reducible refine Kd.C_drewN ?_ _) | (with_reducible refine Kd.C_drew ?_))); (case side4 => exact HC0_6.out); rintro e w' ⟨rfl, ⟨nd, rfl⟩⟩; refine ⟨_, rfl, ?_⟩; have p231 : 0 ≤ (t229 : Int) := oT (by first | (with_reducible assumption) | assumption); have q231 : t229 < (l0_8.length : Int) := oT (by first | (with_reducible assumption) | assumption); obtain ⟨ad231, e231, hx231_0⟩ := Kd.at_bool HR0_8.out t229 p231 q231; (try rw [← Nbq7.out] at hx231_0); cases e231; replace hx231_0 := (HB.out.cell (bL w _ hx231_0)).trans hx231_0; replace p231 := eq_true p231; replace q231 := eq_true q231; have p232 : 0 ≤ (t229 : Int) := oT (by first | (with_reducible assumption) | assumption); have q232 : t229 < (l0_7.length : Int) := oT (by first | (with_reducible assumption) | assumption); obtain ⟨ad232, e232, hx232_0⟩ := Kd.at_string HR0_7.out t229 p232 q232; cases e232; replace hx232_0 := (HB.out.cell (bL w _ hx232_0)).trans hx232_0; replace p232 := eq_true p232; replace q232 := eq_true q232))
     go_ret2
     exact ⟨by first | rfl | (simp [errW_none, errW_some] <;> rfl) | (simp [*, errW_none, errW_some] <;> rfl), by repeat (first | (with_reducible first | exact HB.out | apply wA | apply wN | apply wD | refine wS ?_ GE228.out) | exact HB.out)⟩
    rw [if_neg c11] at H; exact absurd H (by simp)
   rw [if_neg c6] at H; exact absurd H (by simp)
  rw [if_neg c5] at H
  exact absurd H (by simp)
 rw [if_neg c4] at H
 have c4b0 : decide (0 ≤ t229) = false := dF c4
 clear c4
 simp only [Option.some.injEq, Prod.mk.injEq] at H
 obtain ⟨rfl, rfl⟩ := H
 go_enter Try.func24, Try.ntmps24
 go_wp2_with (first | ((with_reducible refine gate_dst (N := 2) rfl ?_); refine box_event ?hg (N := 2) ?hd (cs := #[.int .i64 a0_0, .int .i64 a0_1, .string a0_2, .string a0_3, .bool a0_4, .bool a0_5, .slice A0_6 l0_6.length c0_6, .slice A0_7 l0_7.length c0_7, .slice A0_8 l0_8.length c0_8, .slice A0_9 l0_9.length c0_9]) (t := 37) ?hr ?_; (case hd => rfl); (case hg => rfl); (case hr => first | (go_simp; done) | (go_simp; rfl)); intro gb228 hg w14 hbox hb; have n0_ := K0 (below_step (by repeat (first | (with_reducible first | exact HB.out | apply wA | apply wN | apply wD) | exact HB.out)) hb); have n1_ := K0 (hbox); have n2_ := K0 ((by rw [hg]; exact (below_size (by repeat (first | (with_reducible first | exact HB.out | apply wA | apply wN | apply wD) | exact HB.out))) : w.heap.size ≤ gb228)); have n3_ := K0 ((by rw [hg]; exact (below_size (by repeat (first | (with_reducible first | exact HB.out | apply wA | apply wN | apply wD) | exact HB.out))) : w.heap.size ≤ gb228)); clear HB; have HB := n0_; have BK228 := n1_; have GW228 := n2_; have GE228 := n3_; clear n0_ n1_ n2_ n3_; clear hb hbox hg; obtain ⟨hcz15_0, hcz15_1, hcz15_2, hcz15_3, hcz15_4, hcz15_5, hcz15_6, hcz15_7, hcz15_8, hcz15_9⟩ := cellS10 BK228.out; obtain ⟨hfz15_0, hfz15_1, hfz15_2, hfz15_3, hfz15_4, hfz15_5, hfz15_6, hfz15_7, hfz15_8, hfz15_9⟩ := frozS10 BK228.out) | ((with_reducible refine gate_callee (f := 65) rfl ?_); refine goesL_ (some 14) rfl rfl Try.func65 (by kernel_rfl) rfl #[.slice A0_9 l0_9.length c0_9, .slice A0_6 l0_6.length c0_6, .string a1] rfl (by (try simp only [List.map_toArray, List.map_cons, List.map_nil]); first | done | rfl | (simp only [lD, lT]; rfl)) ?_; (with_reducible refine (probe_Find.calls k _ _ l0_9 _ _ l0_6 a1 t229 t230 _ ?side1 ?side2 ?side3 ?side4 A3.out).mono ?_); (case side1 => repeat (first | exact (Kd.C_below HR0_9.out HB.out) | (with_reducible refine Kd.C_alloc ?_ _) | (with_reducible refine Kd.C_drewN ?_ _) | (with_reducible refine Kd.C_drew ?_))); (case side2 => exact HC0_9.out); (case side3 => repeat (first | exact (Kd.C_below HR0_6.out HB.out) | (with_reducible refine Kd.C_alloc ?_ _) | (with_reducible refine Kd.C_drewN ?_ _) | (with_reducible refine Kd.C_drew ?_))); (case side4 => exact HC0_6.out); rintro e w' ⟨rfl, ⟨nd, rfl⟩⟩; refine ⟨_, rfl, ?_⟩))
 go_ret2
 exact ⟨by first | rfl | (simp [errW_none, errW_some] <;> rfl) | (simp [*, errW_none, errW_some] <;> rfl), by repeat (first | (with_reducible first | exact HB.out | apply wA | apply wN | apply wD | refine wS ?_ GE228.out) | exact HB.out)⟩
/-! ### rev_Live: function 26 -/
def rev_Live.l0 : Nat → Int → List Bool → Int → Int → Option (Int)
 | 0, _, _, _, _ => none
 | k + 1, x3, x7, x8, x9 => if x9 < x8 then (if 0 ≤ x9 then (if x9 < (x7.length : Int) then (if rdOf false x7 x9 = true then (rev_Live.l0 k x3 x7 x8 (wrap64 (x9 + 1))) else (rev_Live.l0 k (wrap64 (x3 + 1)) x7 x8 (wrap64 (x9 + 1)))) else (none)) else (none)) else (some x3)
def rev_Live.f (k : Nat) (a0_0 : Int) (a0_1 : Int) (a0_2 : ByteArray) (a0_3 : ByteArray) (a0_4 : Bool) (a0_5 : Bool) (l0_6 : List ByteArray) (l0_7 : List ByteArray) (l0_8 : List Bool) (l0_9 : List Int) : Option (Int) := rev_Live.l0 k 0 l0_8 (l0_8.length : Int) 0
set_option maxHeartbeats 8000000 in
set_option maxRecDepth 100000 in
theorem rev_Live.calls (k : Nat) (a0_0 : Int) (a0_1 : Int) (a0_2 : ByteArray) (a0_3 : ByteArray) (a0_4 : Bool) (a0_5 : Bool) (A0_6 : Option Addr) (c0_6 : Nat) (l0_6 : List ByteArray) (A0_7 : Option Addr) (c0_7 : Nat) (l0_7 : List ByteArray) (A0_8 : Option Addr) (c0_8 : Nat) (l0_8 : List Bool) (A0_9 : Option Addr) (c0_9 : Nat) (l0_9 : List Int) (r : Int) (w : World) (hr0_6 : Kd.C Kd.string w A0_6 l0_6.length l0_6) (hc0_6 : l0_6.length ≤ c0_6) (hr0_7 : Kd.C Kd.string w A0_7 l0_7.length l0_7) (hc0_7 : l0_7.length ≤ c0_7) (hr0_8 : Kd.C Kd.bool w A0_8 l0_8.length l0_8) (hc0_8 : l0_8.length ≤ c0_8) (hr0_9 : Kd.C (Kd.int .i64) w A0_9 l0_9.length l0_9) (hc0_9 : l0_9.length ≤ c0_9) (h : rev_Live.f k a0_0 a0_1 a0_2 a0_3 a0_4 a0_5 l0_6 l0_7 l0_8 l0_9 = some r) :
  Calls Try.prog 26 #[.agg #[.int .i64 a0_0, .int .i64 a0_1, .string a0_2, .string a0_3, .bool a0_4, .bool a0_5, .slice A0_6 l0_6.length c0_6, .slice A0_7 l0_7.length c0_7, .slice A0_8 l0_8.length c0_8, .slice A0_9 l0_9.length c0_9]] w fun e w' => e = .returned (.int .i64 r) ∧ Below w.heap.size w w' := by
 have hu37 := Try.underlying37
 have HR0_6 := K0 hr0_6
 have HC0_6 := K0 hc0_6
 clear hr0_6 hc0_6
 have HR0_7 := K0 hr0_7
 have HC0_7 := K0 hc0_7
 clear hr0_7 hc0_7
 have HR0_8 := K0 hr0_8
 have HC0_8 := K0 hc0_8
 clear hr0_8 hc0_8
 have HR0_9 := K0 hr0_9
 have HC0_9 := K0 hc0_9
 clear hr0_9 hc0_9
 have HB := K0 (Below.refl w.heap.size w)
 have H : (rev_Live.l0 k 0 l0_8 (l0_8.length : Int) 0) = some r := h
 clear h
 have H' := K0 H
 clear H
 go_enter Try.func26, Try.ntmps26
 go_wp2_with (first | ((with_reducible refine gate_dst (N := 1) rfl ?_); refine box_event ?hg (N := 1) ?hd (cs := #[.int .i64 a0_0, .int .i64 a0_1, .string a0_2, .string a0_3, .bool a0_4, .bool a0_5, .slice A0_6 l0_6.length c0_6, .slice A0_7 l0_7.length c0_7, .slice A0_8 l0_8.length c0_8, .slice A0_9 l0_9.length c0_9]) (t := 37) ?hr ?_; (case hd => rfl); (case hg => rfl); (case hr => first | (go_simp; done) | (go_simp; rfl)); intro gb233 hg w2 hbox hb; have n0_ := K0 (below_step (by repeat (first | (with_reducible first | exact HB.out | apply wA | apply wN | apply wD) | exact HB.out)) hb); have n1_ := K0 (hbox); have n2_ := K0 ((by rw [hg]; exact (below_size (by repeat (first | (with_reducible first | exact HB.out | apply wA | apply wN | apply wD) | exact HB.out))) : w.heap.size ≤ gb233)); have n3_ := K0 ((by rw [hg]; exact (below_size (by repeat (first | (with_reducible first | exact HB.out | apply wA | apply wN | apply wD) | exact HB.out))) : w.heap.size ≤ gb233)); clear HB; have HB := n0_; have BK233 := n1_; have GW233 := n2_; have GE233 := n3_; clear n0_ n1_ n2_ n3_; clear hb hbox hg; obtain ⟨hcz3_0, hcz3_1, hcz3_2, hcz3_3, hcz3_4, hcz3_5, hcz3_6, hcz3_7, hcz3_8, hcz3_9⟩ := cellS10 BK233.out; obtain ⟨hfz3_0, hfz3_1, hfz3_2, hfz3_3, hfz3_4, hfz3_5, hfz3_6, hfz3_7, hfz3_8, hfz3_9⟩ := frozS10 BK233.out))
 go_loopg [3, 9] k (fun kq v3 v9 w' => ∃ (x3_1 : Int) (x9_1 : Int), v3 = .int .i64 x3_1 ∧ v9 = .int .i64 x9_1 ∧ Aside0 (rev_Live.l0 kq x3_1 l0_8 (l0_8.length : Int) x9_1 = some r) ∧ Aside0 (kq ≤ k) ∧ Aside0 (w'.heap[gb233]? = some (.cells #[.int .i64 a0_0, .int .i64 a0_1, .string a0_2, .string a0_3, .bool a0_4, .bool a0_5, (.slice A0_6 l0_6.length c0_6), (.slice A0_7 l0_7.length c0_7), (.slice A0_8 l0_8.length c0_8), (.slice A0_9 l0_9.length c0_9)] 37 (0, 0))) ∧ Aside0 (Below w.heap.size w w'))
 case atStart => exact ⟨(0), (0), (by first | rfl | (simp; done) | (simp [*]; done)), (by first | rfl | (simp; done) | (simp [*]; done)), H', ⟨Nat.le_refl _⟩, ⟨by (with_reducible repeat (first | refine bN ?_ _ | refine bD ?_ | refine bA ?_ _)); exact BK233.out⟩, ⟨by repeat (first | (with_reducible first | exact HB.out | apply wA | apply wN | apply wD | refine wS ?_ GE233.out) | exact HB.out)⟩⟩
 case round =>
  clear H'
  try clear c2
  try clear p2
  try clear hcz3_0
  try clear hcz3_1
  try clear hcz3_2
  try clear hcz3_3
  try clear hcz3_4
  try clear hcz3_5
  try clear hcz3_6
  try clear hcz3_7
  try clear hcz3_8
  try clear hcz3_9
  try clear hfz3_0
  try clear hfz3_1
  try clear hfz3_2
  try clear hfz3_3
  try clear hfz3_4
  try clear hfz3_5
  try clear hfz3_6
  try clear hfz3_7
  try clear hfz3_8
  try clear hfz3_9
  obtain ⟨x3_1, x9_1, rfl, rfl, HA, HK1, BK233, HB⟩ := hrel
  cases gk with
  | zero => exact absurd HA.out (by simp [rev_Live.l0])
  | succ k1 =>
   have H := HA.out; clear HA; simp only [rev_Live.l0] at H; by_cases c4 : x9_1 < (l0_8.length : Int)
   ·
    rw [if_pos c4] at H; have c4b0 : decide (x9_1 < (l0_8.length : Int)) = true := dT c4; clear c4; by_cases c5 : 0 ≤ x9_1
    ·
     rw [if_pos c5] at H; have c5b0 : decide (0 ≤ x9_1) = true := dT c5; clear c5; by_cases c6 : x9_1 < (l0_8.length : Int)
     ·
      rw [if_pos c6] at H; have c6b0 : decide (x9_1 < (l0_8.length : Int)) = true := dT c6; clear c6; obtain ⟨bq7, hbq7⟩ : ∃ b_ : Bool, b_ = (rdOf false l0_8 x9_1) := ⟨_, rfl⟩; replace H : (if bq7 = true then (rev_Live.l0 k1 x3_1 l0_8 (l0_8.length : Int) (wrap64 (x9_1 + 1))) else (rev_Live.l0 k1 (wrap64 (x3_1 + 1)) l0_8 (l0_8.length : Int) (wrap64 (x9_1 + 1)))) = some r := by rw [← hbq7] at H; exact H
      have Nbq7 := K0 hbq7; clear hbq7; by_cases c8 : bq7 = true
      ·
       subst c8; have H1 : (rev_Live.l0 k1 x3_1 l0_8 (l0_8.length : Int) (wrap64 (x9_1 + 1))) = some r := by rw [if_pos rfl] at H; exact H
       clear H; have H := H1; clear H1; have H' := K0 H; clear H; have p234 : 0 ≤ (x9_1 : Int) := oT (by first | (with_reducible assumption) | assumption); have q234 : x9_1 < (l0_8.length : Int) := oT (by first | (with_reducible assumption) | assumption); obtain ⟨ad234, e234, hx234_0⟩ := Kd.at_bool HR0_8.out x9_1 p234 q234; (try rw [← Nbq7.out] at hx234_0)
       cases e234; replace hx234_0 := (HB.out.cell (bL w _ hx234_0)).trans hx234_0; replace p234 := eq_true p234; replace q234 := eq_true q234; go_wp2
       go_roundg k1
       case measure => have := HK1.out; omega
       case rel => exact ⟨(x3_1), (wrap64 (x9_1 + 1)), (by first | rfl | (simp; done) | (simp [*]; done)), (by first | rfl | (simp; done) | (simp [*]; done)), H', ⟨by have := HK1.out; omega⟩, ⟨by (with_reducible repeat (first | refine bN ?_ _ | refine bD ?_ | refine bA ?_ _)); exact BK233.out⟩, ⟨by repeat (first | (with_reducible first | exact HB.out | apply wA | apply wN | apply wD | refine wS ?_ GE233.out) | exact HB.out)⟩⟩
      replace c8 := Bool.eq_false_iff.mpr c8; subst c8; have H1 : (rev_Live.l0 k1 (wrap64 (x3_1 + 1)) l0_8 (l0_8.length : Int) (wrap64 (x9_1 + 1))) = some r := by rw [if_neg (show ¬ (false = true) by decide)] at H; exact H
      clear H; have H := H1; clear H1; have H' := K0 H; clear H; have p234 : 0 ≤ (x9_1 : Int) := oT (by first | (with_reducible assumption) | assumption); have q234 : x9_1 < (l0_8.length : Int) := oT (by first | (with_reducible assumption) | assumption); obtain ⟨ad234, e234, hx234_0⟩ := Kd.at_bool HR0_8.out x9_1 p234 q234; (try rw [← Nbq7.out] at hx234_0)
      cases e234; replace hx234_0 := (HB.out.cell (bL w _ hx234_0)).trans hx234_0; replace p234 := eq_true p234; replace q234 := eq_true q234; go_wp2
      go_roundg k1
      case measure => have := HK1.out; omega
      case rel => exact ⟨(wrap64 (x3_1 + 1)), (wrap64 (x9_1 + 1)), (by first | rfl | (simp; done) | (simp [*]; done)), (by first | rfl | (simp; done) | (simp [*]; done)), H', ⟨by have := HK1.out; omega⟩, ⟨by (with_reducible repeat (first | refine bN ?_ _ | refine bD ?_ | refine bA ?_ _)); exact BK233.out⟩, ⟨by repeat (first | (with_reducible first | exact HB.out | apply wA | apply wN | apply wD | refine wS ?_ GE233.out) | exact HB.out)⟩⟩
     rw [if_neg c6] at H; exact absurd H (by simp)
    rw [if_neg c5] at H; exact absurd H (by simp)
   rw [if_neg c4] at H; have c4b0 : decide (x9_1 < (l0_8.length : Int)) = false := dF c4; clear c4; obtain rfl := Option.some.inj H; go_wp2
   go_ret; exact ⟨by first | rfl | (simp [errW_none, errW_some] <;> rfl) | (simp [*, errW_none, errW_some] <;> rfl), by repeat (first | (with_reducible first | exact HB.out | apply wA | apply wN | apply wD | refine wS ?_ GE233.out) | exact HB.out)⟩
/-! ### key_Whole: function 31 -/
def key_Whole.f  : Option (ByteArray × ByteArray × Bool) := some ((⟨#[]⟩ : ByteArray), (⟨#[]⟩ : ByteArray), true)
set_option maxHeartbeats 8000000 in
set_option maxRecDepth 100000 in
theorem key_Whole.calls  (r1 : ByteArray) (r2 : ByteArray) (r3 : Bool) (w : World) (h : key_Whole.f  = some (r1, r2, r3)) :
  Calls Try.prog 31 #[] w fun e w' => e = .returned (.agg #[.string r1, .string r2, .bool r3]) ∧ Below w.heap.size w w' := by
 have hu32 := Try.underlying32
 have HB := K0 (Below.refl w.heap.size w)
 have H : (some ((⟨#[]⟩ : ByteArray), (⟨#[]⟩ : ByteArray), true)) = some (r1, r2, r3) := h
 clear h
 simp only [Option.some.injEq, Prod.mk.injEq] at H
 obtain ⟨rfl, rfl, rfl⟩ := H
 go_enter Try.func31, Try.ntmps31
 go_wp2_with (first | ((with_reducible refine gate_dst (N := 0) rfl ?_); refine box_event ?hg (N := 0) ?hd (cs := #[.string (⟨#[]⟩ : ByteArray), .string (⟨#[]⟩ : ByteArray), .bool false]) (t := 32) ?hr ?_; (case hd => rfl); (case hg => rfl); (case hr => first | (go_simp; done) | (go_simp; rfl)); intro gb235 hg w1 hbox hb; have n0_ := K0 (below_step (by repeat (first | (with_reducible first | exact HB.out | apply wA | apply wN | apply wD) | exact HB.out)) hb); have n1_ := K0 (hbox); have n2_ := K0 ((by rw [hg]; exact (below_size (by repeat (first | (with_reducible first | exact HB.out | apply wA | apply wN | apply wD) | exact HB.out))) : w.heap.size ≤ gb235)); have n3_ := K0 ((by rw [hg]; exact (below_size (by repeat (first | (with_reducible first | exact HB.out | apply wA | apply wN | apply wD) | exact HB.out))) : w.heap.size ≤ gb235)); clear HB; have HB := n0_; have BK235 := n1_; have GW235 := n2_; have GE235 := n3_; clear n0_ n1_ n2_ n3_; clear hb hbox hg; obtain ⟨hcz2_0, hcz2_1, hcz2_2⟩ := cellS3 BK235.out; obtain ⟨hfz2_0, hfz2_1, hfz2_2⟩ := frozS3 BK235.out))
 refine bodyPost_ret (results_cell_row rfl _ _ gb235 32 #[.string (⟨#[]⟩ : ByteArray), .string (⟨#[]⟩ : ByteArray), .bool true] (0, 0) _ rfl (by (with_reducible repeat (first | refine bN ?_ _ | refine bD ?_ | refine bA ?_ _)); apply blkS3; (with_reducible repeat (first | refine bN ?_ _ | refine bD ?_ | refine bA ?_ _)); exact BK235.out) Try.underlying32 rfl (by kernel_rfl)) rfl ?_
 exact ⟨by first | rfl | (simp [errW_none, errW_some] <;> rfl) | (simp [*, errW_none, errW_some] <;> rfl), by repeat (first | (with_reducible first | exact HB.out | apply wA | apply wN | apply wD | refine wS ?_ GE235.out) | exact HB.out)⟩
/-! ### rundlelaw08_awake: function 12 -/
/-! ### rundlelaw08_Few: function 13 -/
def rundlelaw08_Few.l0 : Nat → List (S62) → Int → Option (Int)
 | 0, _, _ => none
 | k + 1, x0, x3 => if x3 < (x0.length : Int) then (if 0 ≤ x3 then (if (((rd_T62 x0 x3).f0).size : Int) > 40 then (some 0) else (if (((rd_T62 x0 x3).f1).size : Int) > 40 then (some 0) else (rundlelaw08_Few.l0 k x0 (wrap64 (x3 + 1))))) else (none)) else (some 1)
def rundlelaw08_Few.f (k : Nat) (l0 : List (S62)) : Option (Int) := if (l0.length : Int) > 70 then (some 0) else (rundlelaw08_Few.l0 k l0 0)
set_option maxHeartbeats 8000000 in
set_option maxRecDepth 100000 in
theorem rundlelaw08_Few.calls (k : Nat) (A0 : Option Addr) (c0 : Nat) (l0 : List (S62)) (r : Int) (w : World) (hr0 : Kd.C k62 w A0 l0.length l0) (hc0 : l0.length ≤ c0) (h : rundlelaw08_Few.f k l0 = some r) :
  Calls Try.prog 13 #[.slice A0 l0.length c0] w fun e w' => e = .returned (.int .i64 r) ∧ Drawn0 w w' := by
 have HR0 := K0 hr0
 have HC0 := K0 hc0
 clear hr0 hc0
 have H : (if (l0.length : Int) > 70 then (some 0) else (rundlelaw08_Few.l0 k l0 0)) = some r := h
 clear h
 by_cases c2 : (l0.length : Int) > 70
 ·
  rw [if_pos c2] at H
  have c2b0 : decide (70 < (l0.length : Int)) = true := dT c2
  have c2b1 : decide (70 < l0.length) = true := dT (by omega)
  clear c2
  obtain rfl := Option.some.inj H
  go_enter Try.func13, Try.ntmps13
  go_wp2
  go_ret
  exact ⟨by first | rfl | (simp; done) | (simp [*]; done), by repeat (first | exact Drawn0.refl _ | apply Drawn0.step)⟩
 rw [if_neg c2] at H
 have c2b0 : decide (70 < (l0.length : Int)) = false := dF c2
 have c2b1 : decide (70 < l0.length) = false := dF (by omega)
 clear c2
 have H' := K0 H
 clear H
 go_enter Try.func13, Try.ntmps13
 go_wp2
 go_loopg [3] k (fun kq v3 w' => ∃ (x3_1 : Int), v3 = .int .i64 x3_1 ∧ Aside0 (rundlelaw08_Few.l0 kq l0 x3_1 = some r) ∧ Aside0 (kq ≤ k) ∧ Drawn0 w w')
 case atStart => exact ⟨(0), (by first | rfl | (simp; done) | (simp [*]; done)), H', ⟨Nat.le_refl _⟩, by repeat (first | exact Drawn0.refl _ | apply Drawn0.step)⟩
 case round =>
  clear H'
  try clear c1
  try clear c2
  try clear c2b0
  try clear c2b1
  try clear p2
  obtain ⟨x3_1, rfl, HA, HK1, ⟨m1, rfl⟩⟩ := hrel
  cases gk with
  | zero => exact absurd HA.out (by simp [rundlelaw08_Few.l0])
  | succ k1 =>
   have H := HA.out; clear HA; simp only [rundlelaw08_Few.l0] at H; by_cases c3 : x3_1 < (l0.length : Int)
   ·
    rw [if_pos c3] at H; have c3b0 : decide (x3_1 < (l0.length : Int)) = true := dT c3; clear c3; by_cases c4 : 0 ≤ x3_1
    ·
     rw [if_pos c4] at H; have c4b0 : decide (0 ≤ x3_1) = true := dT c4; clear c4; by_cases c5 : (((rd_T62 l0 x3_1).f0).size : Int) > 40
     ·
      rw [if_pos c5] at H; have c5b0 : decide (40 < (((rd_T62 l0 x3_1).f0).size : Int)) = true := dT c5; have c5b1 : decide (40 < ((rd_T62 l0 x3_1).f0).size) = true := dT (by omega); clear c5; obtain rfl := Option.some.inj H; have p290 : 0 ≤ (x3_1 : Int) := oT (by first | (with_reducible assumption) | assumption); have q290 : x3_1 < (l0.length : Int) := oT (by first | (with_reducible assumption) | assumption); obtain ⟨ad290, e290, hx290_0, hx290_1, hx290_2⟩ := at_T62 HR0.out x3_1 p290 q290
      cases e290; replace p290 := eq_true p290; replace q290 := eq_true q290; go_wp2
      go_ret; exact ⟨by first | rfl | (simp; done) | (simp [*]; done), by repeat (first | exact Drawn0.refl _ | apply Drawn0.step)⟩
     rw [if_neg c5] at H; have c5b0 : decide (40 < (((rd_T62 l0 x3_1).f0).size : Int)) = false := dF c5; have c5b1 : decide (40 < ((rd_T62 l0 x3_1).f0).size) = false := dF (by omega); clear c5; by_cases c6 : (((rd_T62 l0 x3_1).f1).size : Int) > 40
     ·
      rw [if_pos c6] at H; have c6b0 : decide (40 < (((rd_T62 l0 x3_1).f1).size : Int)) = true := dT c6; have c6b1 : decide (40 < ((rd_T62 l0 x3_1).f1).size) = true := dT (by omega); clear c6; obtain rfl := Option.some.inj H; have p290 : 0 ≤ (x3_1 : Int) := oT (by first | (with_reducible assumption) | assumption); have q290 : x3_1 < (l0.length : Int) := oT (by first | (with_reducible assumption) | assumption); obtain ⟨ad290, e290, hx290_0, hx290_1, hx290_2⟩ := at_T62 HR0.out x3_1 p290 q290
      cases e290; replace p290 := eq_true p290; replace q290 := eq_true q290; have p291 : 0 ≤ (x3_1 : Int) := oT (by first | (with_reducible assumption) | assumption); have q291 : x3_1 < (l0.length : Int) := oT (by first | (with_reducible assumption) | assumption); obtain ⟨ad291, e291, hx291_0, hx291_1, hx291_2⟩ := at_T62 HR0.out x3_1 p291 q291; obtain rfl : ad290 = ad291 := (by injection e291); replace p291 := eq_true p291; replace q291 := eq_true q291; go_wp2
      go_ret; exact ⟨by first | rfl | (simp; done) | (simp [*]; done), by repeat (first | exact Drawn0.refl _ | apply Drawn0.step)⟩
     rw [if_neg c6] at H; have c6b0 : decide (40 < (((rd_T62 l0 x3_1).f1).size : Int)) = false := dF c6; have c6b1 : decide (40 < ((rd_T62 l0 x3_1).f1).size) = false := dF (by omega); clear c6; have H' := K0 H; clear H; have p290 : 0 ≤ (x3_1 : Int) := oT (by first | (with_reducible assumption) | assumption); have q290 : x3_1 < (l0.length : Int) := oT (by first | (with_reducible assumption) | assumption); obtain ⟨ad290, e290, hx290_0, hx290_1, hx290_2⟩ := at_T62 HR0.out x3_1 p290 q290
     cases e290; replace p290 := eq_true p290; replace q290 := eq_true q290; have p291 : 0 ≤ (x3_1 : Int) := oT (by first | (with_reducible assumption) | assumption); have q291 : x3_1 < (l0.length : Int) := oT (by first | (with_reducible assumption) | assumption); obtain ⟨ad291, e291, hx291_0, hx291_1, hx291_2⟩ := at_T62 HR0.out x3_1 p291 q291; obtain rfl : ad290 = ad291 := (by injection e291); replace p291 := eq_true p291; replace q291 := eq_true q291; go_wp2
     go_roundg k1
     case measure => have := HK1.out; omega
     case rel => exact ⟨(wrap64 (x3_1 + 1)), (by first | rfl | (simp; done) | (simp [*]; done)), H', ⟨by have := HK1.out; omega⟩, by repeat (first | exact Drawn0.refl _ | apply Drawn0.step)⟩
    rw [if_neg c4] at H; exact absurd H (by simp)
   rw [if_neg c3] at H; have c3b0 : decide (x3_1 < (l0.length : Int)) = false := dF c3; clear c3; obtain rfl := Option.some.inj H; go_wp2
   go_ret; exact ⟨by first | rfl | (simp; done) | (simp [*]; done), by repeat (first | exact Drawn0.refl _ | apply Drawn0.step)⟩
/-! ### rundlelaw08_short: function 14 -/
def rundlelaw08_short.f (a0_0 : ByteArray) (a0_1 : ByteArray) (a0_2 : Bool) : Option (Bool) := if (a0_0.size : Int) ≤ 40 then (some (decide ((a0_1.size : Int) ≤ 40))) else (some false)
set_option maxHeartbeats 8000000 in
set_option maxRecDepth 100000 in
theorem rundlelaw08_short.calls (a0_0 : ByteArray) (a0_1 : ByteArray) (a0_2 : Bool) (r : Bool) (w : World) (h : rundlelaw08_short.f a0_0 a0_1 a0_2 = some r) :
  Calls Try.prog 14 #[.agg #[.string a0_0, .string a0_1, .bool a0_2]] w fun e w' => e = .returned (.bool r) ∧ Below w.heap.size w w' := by
 have hu23 := Try.underlying23
 have HB := K0 (Below.refl w.heap.size w)
 have H : (if (a0_0.size : Int) ≤ 40 then (some (decide ((a0_1.size : Int) ≤ 40))) else (some false)) = some r := h
 clear h
 by_cases c2 : (a0_0.size : Int) ≤ 40
 ·
  rw [if_pos c2] at H
  have c2b0 : decide ((a0_0.size : Int) ≤ 40) = true := dT c2
  have c2b1 : decide (a0_0.size ≤ 40) = true := dT (by omega)
  clear c2
  obtain rfl := Option.some.inj H
  go_enter Try.func14, Try.ntmps14
  go_wp2_with (first | ((with_reducible refine gate_dst (N := 1) rfl ?_); (try (refine gate_guard (by rfl) ?_; dsimp only)); refine box_event ?hg (N := 1) ?hd (cs := #[.string a0_0, .string a0_1, .bool a0_2]) (t := 23) ?hr ?_; (case hd => rfl); (case hg => rfl); (case hr => first | (go_simp; done) | (go_simp; rfl)); intro gb292 hg w3 hbox hb; have n0_ := K0 (below_step (by repeat (first | (with_reducible first | exact HB.out | apply wA | apply wN | apply wD) | exact HB.out)) hb); have n1_ := K0 (hbox); have n2_ := K0 ((by rw [hg]; exact (below_size (by repeat (first | (with_reducible first | exact HB.out | apply wA | apply wN | apply wD) | exact HB.out))) : w.heap.size ≤ gb292)); have n3_ := K0 ((by rw [hg]; exact (below_size (by repeat (first | (with_reducible first | exact HB.out | apply wA | apply wN | apply wD) | exact HB.out))) : w.heap.size ≤ gb292)); clear HB; have HB := n0_; have BK292 := n1_; have GW292 := n2_; have GE292 := n3_; clear n0_ n1_ n2_ n3_; clear hb hbox hg; obtain ⟨hcz4_0, hcz4_1, hcz4_2⟩ := cellS3 BK292.out; obtain ⟨hfz4_0, hfz4_1, hfz4_2⟩ := frozS3 BK292.out))
  go_ret
  exact ⟨by first | rfl | (simp [errW_none, errW_some] <;> rfl) | (simp [*, errW_none, errW_some] <;> rfl), by repeat (first | (with_reducible first | exact HB.out | apply wA | apply wN | apply wD | refine wS ?_ GE292.out) | exact HB.out)⟩
 rw [if_neg c2] at H
 have c2b0 : decide ((a0_0.size : Int) ≤ 40) = false := dF c2
 have c2b1 : decide (a0_0.size ≤ 40) = false := dF (by omega)
 clear c2
 obtain rfl := Option.some.inj H
 go_enter Try.func14, Try.ntmps14
 go_wp2_with (first | ((with_reducible refine gate_dst (N := 1) rfl ?_); (try (refine gate_guard (by rfl) ?_; dsimp only)); refine box_event ?hg (N := 1) ?hd (cs := #[.string a0_0, .string a0_1, .bool a0_2]) (t := 23) ?hr ?_; (case hd => rfl); (case hg => rfl); (case hr => first | (go_simp; done) | (go_simp; rfl)); intro gb292 hg w5 hbox hb; have n0_ := K0 (below_step (by repeat (first | (with_reducible first | exact HB.out | apply wA | apply wN | apply wD) | exact HB.out)) hb); have n1_ := K0 (hbox); have n2_ := K0 ((by rw [hg]; exact (below_size (by repeat (first | (with_reducible first | exact HB.out | apply wA | apply wN | apply wD) | exact HB.out))) : w.heap.size ≤ gb292)); have n3_ := K0 ((by rw [hg]; exact (below_size (by repeat (first | (with_reducible first | exact HB.out | apply wA | apply wN | apply wD) | exact HB.out))) : w.heap.size ≤ gb292)); clear HB; have HB := n0_; have BK292 := n1_; have GW292 := n2_; have GE292 := n3_; clear n0_ n1_ n2_ n3_; clear hb hbox hg; obtain ⟨hcz6_0, hcz6_1, hcz6_2⟩ := cellS3 BK292.out; obtain ⟨hfz6_0, hfz6_1, hfz6_2⟩ := frozS3 BK292.out))
 go_ret
 exact ⟨by first | rfl | (simp [errW_none, errW_some] <;> rfl) | (simp [*, errW_none, errW_some] <;> rfl), by repeat (first | (with_reducible first | exact HB.out | apply wA | apply wN | apply wD | refine wS ?_ GE292.out) | exact HB.out)⟩
/-! ### rundlelaw04_Of: function 17 -/
def rundlelaw04_Of.f (a0_0 : ByteArray) (a0_1 : ByteArray) (a0_2 : Bool) : Option (ByteArray × ByteArray × Bool) := some (a0_0, a0_1, a0_2)
set_option maxHeartbeats 8000000 in
set_option maxRecDepth 100000 in
theorem rundlelaw04_Of.calls (a0_0 : ByteArray) (a0_1 : ByteArray) (a0_2 : Bool) (r1 : ByteArray) (r2 : ByteArray) (r3 : Bool) (w : World) (h : rundlelaw04_Of.f a0_0 a0_1 a0_2 = some (r1, r2, r3)) :
  Calls Try.prog 17 #[.agg #[.string a0_0, .string a0_1, .bool a0_2]] w fun e w' => e = .returned (.agg #[.string r1, .string r2, .bool r3]) ∧ Below w.heap.size w w' := by
 have hu23 := Try.underlying23
 have hu32 := Try.underlying32
 have HB := K0 (Below.refl w.heap.size w)
 have H : (some (a0_0, a0_1, a0_2)) = some (r1, r2, r3) := h
 clear h
 simp only [Option.some.injEq, Prod.mk.injEq] at H
 obtain ⟨rfl, rfl, rfl⟩ := H
 go_enter Try.func17, Try.ntmps17
 go_wp2_with (first | ((with_reducible refine gate_dst (N := 1) rfl ?_); refine box_event ?hg (N := 1) ?hd (cs := #[.string a0_0, .string a0_1, .bool a0_2]) (t := 23) ?hr ?_; (case hd => rfl); (case hg => rfl); (case hr => first | (go_simp; done) | (go_simp; rfl)); intro gb293 hg w2 hbox hb; have n0_ := K0 (below_step (by repeat (first | (with_reducible first | exact HB.out | apply wA | apply wN | apply wD) | exact HB.out)) hb); have n1_ := K0 (hbox); have n2_ := K0 ((by rw [hg]; exact (below_size (by repeat (first | (with_reducible first | exact HB.out | apply wA | apply wN | apply wD) | exact HB.out))) : w.heap.size ≤ gb293)); have n3_ := K0 ((by rw [hg]; exact (below_size (by repeat (first | (with_reducible first | exact HB.out | apply wA | apply wN | apply wD) | exact HB.out))) : w.heap.size ≤ gb293)); clear HB; have HB := n0_; have BK293 := n1_; have GW293 := n2_; have GE293 := n3_; clear n0_ n1_ n2_ n3_; clear hb hbox hg) | ((with_reducible refine gate_dst (N := 2) rfl ?_); refine box_event ?hg (N := 2) ?hd (cs := #[.string (⟨#[]⟩ : ByteArray), .string (⟨#[]⟩ : ByteArray), .bool false]) (t := 32) ?hr ?_; (case hd => rfl); (case hg => rfl); (case hr => first | (go_simp; done) | (go_simp; rfl)); intro gb294 hg w3 hbox hb; have n0_ := K0 (bB (g := gb293) (o := .cells #[.string a0_0, .string a0_1, .bool a0_2] 23 (0, 0)) (by (with_reducible repeat (first | refine bN ?_ _ | refine bD ?_ | refine bA ?_ _)); exact BK293.out) hb); have n1_ := K0 (below_step (by repeat (first | (with_reducible first | exact HB.out | apply wA | apply wN | apply wD | refine wS ?_ GE293.out) | exact HB.out)) hb); have n2_ := K0 (hbox); have n3_ := K0 ((by rw [hg]; exact (below_size (by repeat (first | (with_reducible first | exact HB.out | apply wA | apply wN | apply wD | refine wS ?_ GE293.out) | exact HB.out))) : w.heap.size ≤ gb294)); have n4_ := K0 ((by rw [hg]; exact (below_size (by repeat (first | (with_reducible first | exact HB.out | apply wA | apply wN | apply wD | refine wS ?_ GE293.out) | exact HB.out))) : w.heap.size ≤ gb294)); have n5_ := K0 ((by rw [hg]; exact Nat.ne_of_lt (blk_lt (g := gb293) (o := .cells #[.string a0_0, .string a0_1, .bool a0_2] 23 (0, 0)) (by (with_reducible repeat (first | refine bN ?_ _ | refine bD ?_ | refine bA ?_ _)); exact BK293.out)) : gb293 ≠ gb294)); have n6_ := K0 ((by rw [hg]; exact Nat.ne_of_gt (blk_lt (g := gb293) (o := .cells #[.string a0_0, .string a0_1, .bool a0_2] 23 (0, 0)) (by (with_reducible repeat (first | refine bN ?_ _ | refine bD ?_ | refine bA ?_ _)); exact BK293.out)) : gb294 ≠ gb293)); clear BK293; clear HB; have BK293 := n0_; have HB := n1_; have BK294 := n2_; have GW294 := n3_; have GE294 := n4_; have NB293_294 := n5_; have NB294_293 := n6_; clear n0_ n1_ n2_ n3_ n4_ n5_ n6_; clear hb hbox hg; have hnb4 := NB293_294.out; have hnc4 := NB294_293.out; obtain ⟨hcz5_0, hcz5_1, hcz5_2⟩ := cellS3 BK293.out; obtain ⟨hfz5_0, hfz5_1, hfz5_2⟩ := frozS3 BK293.out; obtain ⟨hcz6_0, hcz6_1, hcz6_2⟩ := cellS3 BK294.out; obtain ⟨hfz6_0, hfz6_1, hfz6_2⟩ := frozS3 BK294.out))
 refine bodyPost_ret (results_cell_row rfl _ _ gb294 32 #[.string a0_0, .string a0_1, .bool a0_2] (0, 0) _ rfl (by (with_reducible repeat (first | refine bN ?_ _ | refine bD ?_ | refine bA ?_ _)); apply blkS3; (with_reducible repeat (first | refine bN ?_ _ | refine bD ?_ | refine bA ?_ _)); exact BK294.out) Try.underlying32 rfl (by kernel_rfl)) rfl ?_
 exact ⟨by first | rfl | (simp [errW_none, errW_some] <;> rfl) | (simp [*, errW_none, errW_some] <;> rfl), by repeat (first | (with_reducible first | exact HB.out | apply wA | apply wN | apply wD | refine wS ?_ GE293.out | refine wS ?_ GE294.out) | exact HB.out)⟩
end Go.Proofs.Ytoaacdjcjicemaa.PRevBack
