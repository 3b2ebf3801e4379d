-- written by a program of this session (the print, turned)
import Derived.Test.YtoaacdjcjicemaaPPlanLeadsx0
import Derived.Test.YtoaacdjcjicemaaPPlanLeadsx4
import Derived.Test.YtoaacdjcjicemaaPPlanLeadsx5
import Derived.Test.YtoaacdjcjicemaaPPlanLeadsx8
import Derived.Test.YtoaacdjcjicemaaPPlanLeadsx10
import Derived.Test.YtoaacdjcjicemaaPPlanLeadsx11
import Derived.Test.YtoaacdjcjicemaaPPlanLeadsx12
import Derived.Test.YtoaacdjcjicemaaPPlanLeadsx13
import Derived.Test.YtoaacdjcjicemaaWAl
namespace Go.Proofs.Ytoaacdjcjicemaa.PPlanLeads
open Go.RowKit Go.Proofs.YtoaacdjcjicemaaW.PrintWords Go.Proofs.YtoaacdjcjicemaaW.PrintLast Go.Proofs.YtoaacdjcjicemaaW.PrintMore
attribute [local go_sem] cell_self cell_there leq_str geq_str gtr_str max2_str max2_int min2_int max_two min_two max_three min_three max_four min_four   -- for this text's walks alone
set_option linter.unusedVariables false
set_option linter.unusedSimpArgs false
/-! ### plan_Links: function 43 -/
mutual
def plan_Links.j0 : Nat → List (S92) → Int → Int → Int → Bool → Option (List Int)
 | 0, _, _, _, _, _ => none
 | k + 1, x0, x1, x2, x3, x16 => if x16 = true then (some ([] : List Int)) else (plan_Links.l0 k x0 x1 x3 ([] : List Int) x2 0)
def plan_Links.l0 : Nat → List (S92) → Int → Int → List Int → Int → Int → Option (List Int)
 | 0, _, _, _, _, _, _ => none
 | k + 1, x0, x1, x3, x9, x17, x18 => if x18 < x17 then ((plan_Leads.f x0 x1 x18).bind fun t313 => ((tag_Word.f t313 x3).bind fun t314 => (if x9.length < 17592186044416 then (plan_Links.l0 k x0 x1 x3 (x9 ++ [t314]) x17 (wrap64 (x18 + 1))) else (none)))) else (some x9)
end
def plan_Links.f (k : Nat) (l0 : List (S92)) (a1 : Int) (a2 : Int) (a3 : Int) : Option (List Int) := if a2 < 1 then (plan_Links.j0 k l0 a1 a2 a3 true) else (plan_Links.j0 k l0 a1 a2 a3 (decide (a2 > 24)))
set_option maxHeartbeats 8000000 in
set_option maxRecDepth 100000 in
theorem plan_Links.calls (k : Nat) (A0 : Option Addr) (c0 : Nat) (l0 : List (S92)) (a1 : Int) (a2 : Int) (a3 : Int) (r : List Int) (w : World) (hr0 : Kd.C k92 w A0 l0.length l0) (hc0 : l0.length ≤ c0) (h : plan_Links.f k l0 a1 a2 a3 = some r) :
  Calls Try.prog 43 #[.slice A0 l0.length c0, .int .i64 a1, .int .i64 a2, .int .i64 a3] w fun e w' => ∃ v0_ : Value, e = .returned (v0_) ∧ Kd.R (Kd.int .i64) 3 w' w.heap.size (fun _ => True) v0_ r ∧ Below w.heap.size w w' := by
 have HR0 := K0 hr0
 have HC0 := K0 hc0
 clear hr0 hc0
 have HB := K0 (Below.refl w.heap.size w)
 have H : (if a2 < 1 then (plan_Links.j0 k l0 a1 a2 a3 true) else (plan_Links.j0 k l0 a1 a2 a3 (decide (a2 > 24)))) = some r := h
 clear h
 have HC5 := K0 H
 clear H
 go_enter Try.func43, Try.ntmps43
 go_upto_region 1 with (fail)
 go_cut [16] (fun v16 wc => ∃ (kq : Nat) (x16_4 : Bool), v16 = .bool x16_4 ∧ Aside0 (plan_Links.j0 kq l0 a1 a2 a3 x16_4 = some r) ∧ Aside0 (kq ≤ k) ∧ Aside0 (Below w.heap.size w wc))
 case first =>
  have H := HC5.out
  clear HC5
  by_cases c6 : a2 < 1
  ·
   rw [if_pos c6] at H; have c6b0 : decide (a2 < 1) = true := dT c6; clear c6; (first | rw [c6b0] | (simp only [i64_w, i32_w]; rw [c6b0]) | skip)
   have H' := K0 H; clear H; go_wp2
   go_meet
   case rel => exact ⟨_, (true), (by first | rfl | (simp; done) | (simp [*]; done)), H', ⟨by first | omega | exact Nat.le_refl _⟩, ⟨by repeat (first | (with_reducible first | exact HB.out | apply wA | apply wN | apply wD) | exact HB.out)⟩⟩
  rw [if_neg c6] at H
  have c6b0 : decide (a2 < 1) = false := dF c6
  clear c6
  (first | rw [c6b0] | (simp only [i64_w, i32_w]; rw [c6b0]) | skip)
  have H' := K0 H
  clear H
  go_wp2
  go_meet
  case rel => exact ⟨_, (decide (a2 > 24)), (by first | rfl | (simp; done) | (simp [*]; done)), H', ⟨by first | omega | exact Nat.le_refl _⟩, ⟨by repeat (first | (with_reducible first | exact HB.out | apply wA | apply wN | apply wD) | exact HB.out)⟩⟩
 case rest =>
  clear HC5
  try clear p2
  try clear c4
  try clear c6
  try clear c6b0
  obtain ⟨kq, x16_4, rfl, HA, HJ4, HB⟩ := hcut
  cases kq with
  | zero => exact absurd HA.out (by simp [plan_Links.j0])
  | succ kj4 =>
   have H := HA.out; clear HA; simp only [plan_Links.j0] at H; by_cases c7 : x16_4 = true
   ·
    subst c7; have H1 : (some ([] : List Int)) = some r := by rw [if_pos rfl] at H; exact H
    clear H; have H := H1; clear H1; obtain rfl := Option.some.inj H; go_wp2
    go_ret; exact ⟨_, by first | rfl | (simp [errW_none, errW_some] <;> rfl) | (simp [*, errW_none, errW_some] <;> rfl), by first | exact Kd.R_nil _ _ _ _ _ | exact Kd.N_nil _ _ _ _ _ | exact Kd.V_nil _ _ _ _ _ | exact Kd.Q_nil _ _ _ _ _ | exact Kd.S_nil _ _ _ _ _, by repeat (first | (with_reducible first | exact HB.out | apply wA | apply wN | apply wD) | exact HB.out)⟩
   replace c7 := Bool.eq_false_iff.mpr c7; subst c7; have H1 : (plan_Links.l0 kj4 l0 a1 a3 ([] : List Int) a2 0) = some r := by rw [if_neg (show ¬ (false = true) by decide)] at H; exact H
   clear H; have H := H1; clear H1; have H' := K0 H; clear H; go_wp2
   go_loopg [9, 18] kj4 (fun kq v9 v18 w' => ∃ (x9_2 : List Int) (x18_2 : Int), v18 = .int .i64 x18_2 ∧ Aside0 (plan_Links.l0 kq l0 a1 a3 x9_2 a2 x18_2 = some r) ∧ Aside0 (kq ≤ kj4) ∧ Aside0 (Kd.R (Kd.int .i64) 3 w' w.heap.size (fun _ => True) v9 x9_2) ∧ Aside0 (Below w.heap.size w w'))
   case atStart => exact ⟨(([] : List Int)), (0), (by first | rfl | (simp; done) | (simp [*]; done)), H', ⟨Nat.le_refl _⟩, ⟨by first | exact Kd.R_nil _ _ _ _ _ | exact Kd.N_nil _ _ _ _ _ | exact Kd.V_nil _ _ _ _ _ | exact Kd.Q_nil _ _ _ _ _ | exact Kd.S_nil _ _ _ _ _⟩, ⟨by repeat (first | (with_reducible first | exact HB.out | apply wA | apply wN | apply wD) | exact HB.out)⟩⟩
   case round =>
    clear H'; try clear p2
    try clear c4
    try clear c6
    try clear c6b0
    try clear c7
    try clear p2
    obtain ⟨x9_2, x18_2, rfl, HA, HK2, HO_9, HB⟩ := hrel
    cases gk with
    | zero => exact absurd HA.out (by simp [plan_Links.l0])
    | succ k2 =>
     have H := HA.out; clear HA; simp only [plan_Links.l0] at H; by_cases c8 : x18_2 < a2
     ·
      rw [if_pos c8] at H; have c8b0 : decide (x18_2 < a2) = true := dT c8; clear c8; replace H := Option.bind_eq_some_iff.mp H; obtain ⟨t313, A90, H⟩ := H; replace H : ((tag_Word.f t313 a3).bind fun t314 => (if x9_2.length < 17592186044416 then (plan_Links.l0 k2 l0 a1 a3 (x9_2 ++ [t314]) a2 (wrap64 (x18_2 + 1))) else (none))) = some r := H; have A9 := K0 A90; clear A90; replace H := Option.bind_eq_some_iff.mp H; obtain ⟨t314, A100, H⟩ := H; replace H : (if x9_2.length < 17592186044416 then (plan_Links.l0 k2 l0 a1 a3 (x9_2 ++ [t314]) a2 (wrap64 (x18_2 + 1))) else (none)) = some r := H; have A10 := K0 A100; clear A100; by_cases c11 : x9_2.length < 17592186044416
      ·
       rw [if_pos c11] at H; have LMc11 := K0 c11; clear c11; obtain ⟨y315, hy315⟩ : ∃ y_ : List Int, y_ = (x9_2 ++ [t314]) := ⟨_, rfl⟩; replace H : (plan_Links.l0 k2 l0 a1 a3 y315 a2 (wrap64 (x18_2 + 1))) = some r := by first | (rw [hy315]; with_reducible exact H) | (have H2_ := (Option.bind_some _ _).symm.trans H; rw [hy315]; with_reducible exact H2_) | (have H2_ := (Option.bind_some _ _).symm.trans H; with_reducible exact H2_) | with_reducible exact H | (rw [hy315]; exact H) | exact H
       have Ny315 := K0 hy315; clear hy315; have H' := K0 H; clear H; go_wp2_with (first | ((with_reducible refine gate_callee (f := 42) rfl ?_); refine goesL_ (some 25) rfl rfl Try.func42 (by kernel_rfl) rfl #[.slice A0 l0.length c0, .int .i64 a1, .int .i64 x18_2] rfl (by (try simp only [List.map_toArray, List.map_cons, List.map_nil]); first | done | rfl | (simp only [lD, lT]; rfl)) ?_; (with_reducible refine (plan_Leads.calls _ _ l0 a1 x18_2 t313 _ ?side1 ?side2 A9.out).mono ?_); (case side1 => repeat (first | exact (Kd.C_below HR0.out HB.out) | (with_reducible refine Kd.C_alloc ?_ _) | (with_reducible refine Kd.C_drewN ?_ _) | (with_reducible refine Kd.C_drew ?_))); (case side2 => exact HC0.out); rintro e w12 ⟨rfl, hb⟩; refine ⟨_, rfl, ?_⟩; have n0_ := K0 (rB (by (with_reducible repeat (first | apply rA | apply rN | apply rD)); exact HO_9.out) hb); have n1_ := K0 (below_step (by repeat (first | (with_reducible first | exact HB.out | apply wA | apply wN | apply wD) | exact HB.out)) hb); clear HO_9; clear HB; have HO_9 := n0_; have HB := n1_; clear n0_ n1_; (try clear hb); (try clear hb2); (try clear hk); (try clear hi)) | ((with_reducible refine gate_callee (f := 41) rfl ?_); refine goesL_ (some 27) rfl rfl Try.func41 (by kernel_rfl) rfl #[.int .i64 t313, .int .i64 a3] rfl (by (try simp only [List.map_toArray, List.map_cons, List.map_nil]); first | done | rfl | (simp only [lD, lT]; rfl)) ?_; (with_reducible refine (tag_Word.calls t313 a3 t314 _ A10.out).mono ?_); rintro e w' ⟨rfl, ⟨nd, rfl⟩⟩; refine ⟨_, rfl, ?_⟩) | ((with_reducible refine gate_builtin (b := .append) (xs := #[.tmp 21, .tmp 28]) rfl ?_); at_builtin; refine Kd.R_append (Kd.int .i64) (w0 := w) w.heap.size rfl (.tmp 21) (.tmp 28) 35 3 (.int .i64 0) 8 rfl Try.underlying35 info3 rfl (by decide) (by omega) u9 x9_2 t314 [.int .i64 t314] (fun _ => True) (fun _ => False) rfl rfl ?aP (fun _ hk => hk.elim) ?aF ?aO ?aB ?aS ?aL ?_; (case aP => exact rfl); (case aB => exact (by repeat (first | (with_reducible first | exact HB.out | apply wA | apply wN | apply wD) | exact HB.out))); (case aF => exact (fun _ _ => trivial)); (case aO => exact (by (with_reducible repeat (first | apply rA | apply rN | apply rD)); exact HO_9.out)); (case aS => exact (below_size (by repeat (first | (with_reducible first | exact HB.out | apply wA | apply wN | apply wD) | exact HB.out)))); (case aL => have := LMc11.out; omega); intro v316 w13 ho hb hg hat; rw [← Ny315.out] at ho; have n0_ := K0 (hb); have n1_ := K0 (ho); clear HB; clear HO_9; have HB := n0_; have HO317 := n1_; clear n0_ n1_; clear ho hb hg hat))
       go_roundg k2
       case measure => have := HJ4.out; have := HK2.out; omega
       case rel => exact ⟨(y315), (wrap64 (x18_2 + 1)), (by first | rfl | (simp; done) | (simp [*]; done)), H', ⟨by have := HJ4.out; have := HK2.out; omega⟩, ⟨by (with_reducible repeat (first | apply rA | apply rN | apply rD)); exact HO317.out⟩, ⟨by repeat (first | (with_reducible first | exact HB.out | apply wA | apply wN | apply wD) | exact HB.out)⟩⟩
      rw [if_neg c11] at H; exact absurd H (by simp)
     rw [if_neg c8] at H; have c8b0 : decide (x18_2 < a2) = false := dF c8; clear c8; obtain rfl := Option.some.inj H; go_wp2
     go_ret; exact ⟨_, by first | rfl | (simp [errW_none, errW_some] <;> rfl) | (simp [*, errW_none, errW_some] <;> rfl), by (with_reducible repeat (first | apply rA | apply rN | apply rD)); exact HO_9.out, by repeat (first | (with_reducible first | exact HB.out | apply wA | apply wN | apply wD) | exact HB.out)⟩
/-! ### rundlelaw18_PlanLeads: function 7 -/
mutual
def rundlelaw18_PlanLeads.j0 : Nat → List (S108) → Int → Int → Int → Int → Bool → Option (Bool)
 | 0, _, _, _, _, _, _ => none
 | k + 1, x0, x1, x2, x3, x4, x33 => if x33 = true then ((rundlelaw18_awake.f k).bind fun t319 => (some t319)) else ((rundlelaw18_row.f k x0).bind fun bt320 => (if bt320.2 = true then ((rundlelaw18_goes.f k bt320.1 x0).bind fun t324 => ((rundlelaw18_towers.f k x0).bind fun t327 => ((rundleref18_Leads.f k t327 x1 x2).bind fun t330 => (if t330 ≥ 0 then ((rundlelaw18_handle.f t330).bind fun t331 => (rundlelaw18_PlanLeads.j1 k x1 x2 x3 x4 t324 t327 t331)) else (rundlelaw18_PlanLeads.j1 k x1 x2 x3 x4 t324 t327 0))))) else (some false)))
def rundlelaw18_PlanLeads.j1 : Nat → Int → Int → Int → Int → List (S92) → List (S77) → Int → Option (Bool)
 | 0, _, _, _, _, _, _, _ => none
 | k + 1, x1, x2, x3, x4, x13, x14, x15 => (plan_Leads.f x13 x1 x2).bind fun t332 => (if t332 = x15 then ((plan_Links.f k x13 x1 x3 (wrap64 (Int.tmod x4 1073741825))).bind fun t333 => (if x3 < 1 then (rundlelaw18_PlanLeads.j2 k x1 x3 x14 (wrap64 (Int.tmod x4 1073741825)) t333 true) else (rundlelaw18_PlanLeads.j2 k x1 x3 x14 (wrap64 (Int.tmod x4 1073741825)) t333 (decide (x3 > 24))))) else (some false))
def rundlelaw18_PlanLeads.j2 : Nat → Int → Int → List (S77) → Int → List Int → Bool → Option (Bool)
 | 0, _, _, _, _, _, _ => none
 | k + 1, x1, x3, x14, x17, x18, x74 => if x74 = true then (some ((x18.length : Int) == 0)) else (if (x18.length : Int) = x3 then (rundlelaw18_PlanLeads.l0 k x1 x3 x14 x17 x18 0) else (some false))
def rundlelaw18_PlanLeads.l0 : Nat → Int → Int → List (S77) → Int → List Int → Int → Option (Bool)
 | 0, _, _, _, _, _, _ => none
 | k + 1, x1, x3, x14, x17, x18, x19 => if x19 < x3 then ((rundleref18_Leads.f k x14 x1 x19).bind fun t336 => (if t336 ≥ 0 then ((rundlelaw18_handle.f t336).bind fun t337 => (if 0 ≤ x19 then (if x19 < (x18.length : Int) then ((tag_Word.f t337 x17).bind fun t339 => (if (rd x18 x19) = t339 then (rundlelaw18_PlanLeads.l0 k x1 x3 x14 x17 x18 (wrap64 (x19 + 1))) else (some false))) else (none)) else (none))) else (if 0 ≤ x19 then (if x19 < (x18.length : Int) then ((tag_Word.f 0 x17).bind fun t341 => (if (rd x18 x19) = t341 then (rundlelaw18_PlanLeads.l0 k x1 x3 x14 x17 x18 (wrap64 (x19 + 1))) else (some false))) else (none)) else (none)))) else (some true)
end
def rundlelaw18_PlanLeads.f (k : Nat) (l0 : List (S108)) (a1 : Int) (a2 : Int) (a3 : Int) (a4 : Int) : Option (Bool) := (rundlelaw18_awake.f k).bind fun t318 => (if t318 = true then (if (l0.length : Int) < 1 then (rundlelaw18_PlanLeads.j0 k l0 a1 a2 a3 a4 true) else (rundlelaw18_PlanLeads.j0 k l0 a1 a2 a3 a4 (decide ((l0.length : Int) > 20)))) else (rundlelaw18_PlanLeads.j0 k l0 a1 a2 a3 a4 true))
set_option maxHeartbeats 8000000 in
set_option maxRecDepth 100000 in
theorem rundlelaw18_PlanLeads.calls (k : Nat) (A0 : Option Addr) (c0 : Nat) (l0 : List (S108)) (a1 : Int) (a2 : Int) (a3 : Int) (a4 : Int) (r : Bool) (w : World) (hr0 : Kd.C k108 w A0 l0.length l0) (hc0 : l0.length ≤ c0) (h : rundlelaw18_PlanLeads.f k l0 a1 a2 a3 a4 = some r) (hrt : r = true) :
  Calls Try.prog 7 #[.slice A0 l0.length c0, .int .i64 a1, .int .i64 a2, .int .i64 a3, .int .u32 a4] w fun e w' => e = .returned (.bool r) ∧ Below w.heap.size w w' := by
 have HR0 := K0 hr0
 have HC0 := K0 hc0
 clear hr0 hc0
 have HB := K0 (Below.refl w.heap.size w)
 have H : ((rundlelaw18_awake.f k).bind fun t318 => (if t318 = true then (if (l0.length : Int) < 1 then (rundlelaw18_PlanLeads.j0 k l0 a1 a2 a3 a4 true) else (rundlelaw18_PlanLeads.j0 k l0 a1 a2 a3 a4 (decide ((l0.length : Int) > 20)))) else (rundlelaw18_PlanLeads.j0 k l0 a1 a2 a3 a4 true))) = some r := h
 clear h
 have HRT := K0 hrt
 clear hrt
 have HC6 := K0 H
 clear H
 go_enter Try.func7, Try.ntmps7
 go_upto_region 1 with (fail)
 repeat (go_quiet (fail); go_upto_region 1 with (fail))
 go_cut [33] (fun v33 wc => ∃ (kq : Nat) (x33_5 : Bool), v33 = .bool x33_5 ∧ Aside0 (rundlelaw18_PlanLeads.j0 kq l0 a1 a2 a3 a4 x33_5 = some r) ∧ Aside0 (kq ≤ k) ∧ Aside0 (Below w.heap.size w wc))
 case first =>
  have H := HC6.out
  clear HC6
  replace H := Option.bind_eq_some_iff.mp H
  obtain ⟨t318, A70, H⟩ := H
  replace H : (if t318 = true then (if (l0.length : Int) < 1 then (rundlelaw18_PlanLeads.j0 k l0 a1 a2 a3 a4 true) else (rundlelaw18_PlanLeads.j0 k l0 a1 a2 a3 a4 (decide ((l0.length : Int) > 20)))) else (rundlelaw18_PlanLeads.j0 k l0 a1 a2 a3 a4 true)) = some r := H
  have A7 := K0 A70
  clear A70
  by_cases c8 : t318 = true
  ·
   subst c8; have H1 : (if (l0.length : Int) < 1 then (rundlelaw18_PlanLeads.j0 k l0 a1 a2 a3 a4 true) else (rundlelaw18_PlanLeads.j0 k l0 a1 a2 a3 a4 (decide ((l0.length : Int) > 20)))) = some r := by rw [if_pos rfl] at H; exact H
   clear H; have H := H1; clear H1; by_cases c9 : (l0.length : Int) < 1
   ·
    rw [if_pos c9] at H; have c9b0 : decide ((l0.length : Int) < 1) = true := dT c9; have c9b1 : decide (l0.length < 1) = true := dT (by omega); clear c9; (first | rw [c9b0] | (simp only [i64_w, i32_w]; rw [c9b0]) | skip)
    have H' := K0 H; clear H; go_wp2_with (first | (go_at_call 32; (with_reducible refine (rundlelaw18_awake.calls k  true _ A7.out).mono ?_); rintro e w10 ⟨rfl, hb⟩; have n0_ := K0 (below_step (by repeat (first | (with_reducible first | exact HB.out | apply wA | apply wN | apply wD) | exact HB.out)) hb); clear HB; have HB := n0_; clear n0_; (try clear hb); (try clear hb2); (try clear hk); (try clear hi)))
    repeat (go_quiet (first | (go_at_call 32; (with_reducible refine (rundlelaw18_awake.calls k  true _ A7.out).mono ?_); rintro e w10 ⟨rfl, hb⟩; have n0_ := K0 (below_step (by repeat (first | (with_reducible first | exact HB.out | apply wA | apply wN | apply wD) | exact HB.out)) hb); clear HB; have HB := n0_; clear n0_; (try clear hb); (try clear hb2); (try clear hk); (try clear hi))); try go_wp2_with (first | (go_at_call 32; (with_reducible refine (rundlelaw18_awake.calls k  true _ A7.out).mono ?_); rintro e w10 ⟨rfl, hb⟩; have n0_ := K0 (below_step (by repeat (first | (with_reducible first | exact HB.out | apply wA | apply wN | apply wD) | exact HB.out)) hb); clear HB; have HB := n0_; clear n0_; (try clear hb); (try clear hb2); (try clear hk); (try clear hi))))
    go_meet
    case rel => exact ⟨_, (true), (by first | rfl | (simp; done) | (simp [*]; done)), H', ⟨by first | omega | exact Nat.le_refl _⟩, ⟨by repeat (first | (with_reducible first | exact HB.out | apply wA | apply wN | apply wD) | exact HB.out)⟩⟩
   rw [if_neg c9] at H; have c9b0 : decide ((l0.length : Int) < 1) = false := dF c9; have c9b1 : decide (l0.length < 1) = false := dF (by omega); clear c9; (first | rw [c9b0] | (simp only [i64_w, i32_w]; rw [c9b0]) | skip)
   have H' := K0 H; clear H; go_wp2_with (first | (go_at_call 32; (with_reducible refine (rundlelaw18_awake.calls k  true _ A7.out).mono ?_); rintro e w11 ⟨rfl, hb⟩; have n0_ := K0 (below_step (by repeat (first | (with_reducible first | exact HB.out | apply wA | apply wN | apply wD) | exact HB.out)) hb); clear HB; have HB := n0_; clear n0_; (try clear hb); (try clear hb2); (try clear hk); (try clear hi)))
   repeat (go_quiet (first | (go_at_call 32; (with_reducible refine (rundlelaw18_awake.calls k  true _ A7.out).mono ?_); rintro e w11 ⟨rfl, hb⟩; have n0_ := K0 (below_step (by repeat (first | (with_reducible first | exact HB.out | apply wA | apply wN | apply wD) | exact HB.out)) hb); clear HB; have HB := n0_; clear n0_; (try clear hb); (try clear hb2); (try clear hk); (try clear hi))); try go_wp2_with (first | (go_at_call 32; (with_reducible refine (rundlelaw18_awake.calls k  true _ A7.out).mono ?_); rintro e w11 ⟨rfl, hb⟩; have n0_ := K0 (below_step (by repeat (first | (with_reducible first | exact HB.out | apply wA | apply wN | apply wD) | exact HB.out)) hb); clear HB; have HB := n0_; clear n0_; (try clear hb); (try clear hb2); (try clear hk); (try clear hi))))
   go_meet
   case rel => exact ⟨_, (decide ((l0.length : Int) > 20)), (by first | rfl | (simp; done) | (simp [*]; done)), H', ⟨by first | omega | exact Nat.le_refl _⟩, ⟨by repeat (first | (with_reducible first | exact HB.out | apply wA | apply wN | apply wD) | exact HB.out)⟩⟩
  replace c8 := Bool.eq_false_iff.mpr c8
  subst c8
  have H1 : (rundlelaw18_PlanLeads.j0 k l0 a1 a2 a3 a4 true) = some r := by rw [if_neg (show ¬ (false = true) by decide)] at H; exact H
  clear H
  have H := H1
  clear H1
  have H' := K0 H
  clear H
  go_wp2_with (first | (go_at_call 32; (with_reducible refine (rundlelaw18_awake.calls k  false _ A7.out).mono ?_); rintro e w12 ⟨rfl, hb⟩; have n0_ := K0 (below_step (by repeat (first | (with_reducible first | exact HB.out | apply wA | apply wN | apply wD) | exact HB.out)) hb); clear HB; have HB := n0_; clear n0_; (try clear hb); (try clear hb2); (try clear hk); (try clear hi)))
  repeat (go_quiet (first | (go_at_call 32; (with_reducible refine (rundlelaw18_awake.calls k  false _ A7.out).mono ?_); rintro e w12 ⟨rfl, hb⟩; have n0_ := K0 (below_step (by repeat (first | (with_reducible first | exact HB.out | apply wA | apply wN | apply wD) | exact HB.out)) hb); clear HB; have HB := n0_; clear n0_; (try clear hb); (try clear hb2); (try clear hk); (try clear hi))); try go_wp2_with (first | (go_at_call 32; (with_reducible refine (rundlelaw18_awake.calls k  false _ A7.out).mono ?_); rintro e w12 ⟨rfl, hb⟩; have n0_ := K0 (below_step (by repeat (first | (with_reducible first | exact HB.out | apply wA | apply wN | apply wD) | exact HB.out)) hb); clear HB; have HB := n0_; clear n0_; (try clear hb); (try clear hb2); (try clear hk); (try clear hi))))
  go_meet
  case rel => exact ⟨_, (true), (by first | rfl | (simp; done) | (simp [*]; done)), H', ⟨by first | omega | exact Nat.le_refl _⟩, ⟨by repeat (first | (with_reducible first | exact HB.out | apply wA | apply wN | apply wD) | exact HB.out)⟩⟩
 case rest =>
  clear HC6
  try clear p2
  try clear c7
  try clear c8
  try clear c9
  try clear c9b0
  try clear c9b1
  obtain ⟨kq, x33_5, rfl, HA, HJ5, HB⟩ := hcut
  cases kq with
  | zero => exact absurd HA.out (by simp [rundlelaw18_PlanLeads.j0])
  | succ kj5 =>
   have H := HA.out; clear HA; simp only [rundlelaw18_PlanLeads.j0] at H; by_cases c13 : x33_5 = true
   ·
    subst c13; have H1 : ((rundlelaw18_awake.f kj5).bind fun t319 => (some t319)) = some r := by rw [if_pos rfl] at H; exact H
    clear H; have H := H1; clear H1; replace H := Option.bind_eq_some_iff.mp H; obtain ⟨t319, A140, H⟩ := H; replace H : (some t319) = some r := H; have A14 := K0 A140; clear A140; obtain rfl := Option.some.inj H; go_wp2_with (first | (go_at_call 32; (with_reducible refine (rundlelaw18_awake.calls kj5  t319 _ A14.out).mono ?_); rintro e w15 ⟨rfl, hb⟩; have n0_ := K0 (below_step (by repeat (first | (with_reducible first | exact HB.out | apply wA | apply wN | apply wD) | exact HB.out)) hb); clear HB; have HB := n0_; clear n0_; (try clear hb); (try clear hb2); (try clear hk); (try clear hi)))
    repeat (go_quiet (first | (go_at_call 32; (with_reducible refine (rundlelaw18_awake.calls kj5  t319 _ A14.out).mono ?_); rintro e w15 ⟨rfl, hb⟩; have n0_ := K0 (below_step (by repeat (first | (with_reducible first | exact HB.out | apply wA | apply wN | apply wD) | exact HB.out)) hb); clear HB; have HB := n0_; clear n0_; (try clear hb); (try clear hb2); (try clear hk); (try clear hi))); try go_wp2_with (first | (go_at_call 32; (with_reducible refine (rundlelaw18_awake.calls kj5  t319 _ A14.out).mono ?_); rintro e w15 ⟨rfl, hb⟩; have n0_ := K0 (below_step (by repeat (first | (with_reducible first | exact HB.out | apply wA | apply wN | apply wD) | exact HB.out)) hb); clear HB; have HB := n0_; clear n0_; (try clear hb); (try clear hb2); (try clear hk); (try clear hi))))
    go_ret; exact ⟨by first | rfl | (simp [errW_none, errW_some] <;> rfl) | (simp [*, errW_none, errW_some] <;> rfl), by repeat (first | (with_reducible first | exact HB.out | apply wA | apply wN | apply wD) | exact HB.out)⟩
   replace c13 := Bool.eq_false_iff.mpr c13; subst c13; have H1 : ((rundlelaw18_row.f kj5 l0).bind fun bt320 => (if bt320.2 = true then ((rundlelaw18_goes.f kj5 bt320.1 l0).bind fun t324 => ((rundlelaw18_towers.f kj5 l0).bind fun t327 => ((rundleref18_Leads.f kj5 t327 a1 a2).bind fun t330 => (if t330 ≥ 0 then ((rundlelaw18_handle.f t330).bind fun t331 => (rundlelaw18_PlanLeads.j1 kj5 a1 a2 a3 a4 t324 t327 t331)) else (rundlelaw18_PlanLeads.j1 kj5 a1 a2 a3 a4 t324 t327 0))))) else (some false))) = some r := by rw [if_neg (show ¬ (false = true) by decide)] at H; exact H
   clear H; have H := H1; clear H1; replace H := Option.bind_eq_some_iff.mp H; obtain ⟨⟨t320, t321⟩, A160, H⟩ := H; replace H : (if t321 = true then ((rundlelaw18_goes.f kj5 t320 l0).bind fun t324 => ((rundlelaw18_towers.f kj5 l0).bind fun t327 => ((rundleref18_Leads.f kj5 t327 a1 a2).bind fun t330 => (if t330 ≥ 0 then ((rundlelaw18_handle.f t330).bind fun t331 => (rundlelaw18_PlanLeads.j1 kj5 a1 a2 a3 a4 t324 t327 t331)) else (rundlelaw18_PlanLeads.j1 kj5 a1 a2 a3 a4 t324 t327 0))))) else (some false)) = some r := H; have A16 := K0 A160; clear A160; by_cases c17 : t321 = true
   ·
    subst c17; have H1 : ((rundlelaw18_goes.f kj5 t320 l0).bind fun t324 => ((rundlelaw18_towers.f kj5 l0).bind fun t327 => ((rundleref18_Leads.f kj5 t327 a1 a2).bind fun t330 => (if t330 ≥ 0 then ((rundlelaw18_handle.f t330).bind fun t331 => (rundlelaw18_PlanLeads.j1 kj5 a1 a2 a3 a4 t324 t327 t331)) else (rundlelaw18_PlanLeads.j1 kj5 a1 a2 a3 a4 t324 t327 0))))) = some r := by rw [if_pos rfl] at H; exact H
    clear H; have H := H1; clear H1; replace H := Option.bind_eq_some_iff.mp H; obtain ⟨t324, A180, H⟩ := H; replace H : ((rundlelaw18_towers.f kj5 l0).bind fun t327 => ((rundleref18_Leads.f kj5 t327 a1 a2).bind fun t330 => (if t330 ≥ 0 then ((rundlelaw18_handle.f t330).bind fun t331 => (rundlelaw18_PlanLeads.j1 kj5 a1 a2 a3 a4 t324 t327 t331)) else (rundlelaw18_PlanLeads.j1 kj5 a1 a2 a3 a4 t324 t327 0)))) = some r := H; have A18 := K0 A180; clear A180; replace H := Option.bind_eq_some_iff.mp H; obtain ⟨t327, A190, H⟩ := H; replace H : ((rundleref18_Leads.f kj5 t327 a1 a2).bind fun t330 => (if t330 ≥ 0 then ((rundlelaw18_handle.f t330).bind fun t331 => (rundlelaw18_PlanLeads.j1 kj5 a1 a2 a3 a4 t324 t327 t331)) else (rundlelaw18_PlanLeads.j1 kj5 a1 a2 a3 a4 t324 t327 0))) = some r := H; have A19 := K0 A190; clear A190; replace H := Option.bind_eq_some_iff.mp H; obtain ⟨t330, A200, H⟩ := H; replace H : (if t330 ≥ 0 then ((rundlelaw18_handle.f t330).bind fun t331 => (rundlelaw18_PlanLeads.j1 kj5 a1 a2 a3 a4 t324 t327 t331)) else (rundlelaw18_PlanLeads.j1 kj5 a1 a2 a3 a4 t324 t327 0)) = some r := H; have A20 := K0 A200; clear A200; have HC21 := K0 H; clear H; go_upto_if 52 with (first | (go_at_call 33; (with_reducible refine (rundlelaw18_row.calls kj5 _ _ l0 t320 true _ ?side1 ?side2 A16.out).mono ?_); (case side1 => repeat (first | exact (Kd.C_below HR0.out HB.out) | (with_reducible refine Kd.C_alloc ?_ _) | (with_reducible refine Kd.C_drewN ?_ _) | (with_reducible refine Kd.C_drew ?_))); (case side2 => exact HC0.out); rintro e w22 ⟨v322, rfl, ho0, hb⟩; have n0_ := K0 (Kd.N_lower (Kd.N_mono (ok' := fun k_ => True) (Kd.R_N (Kd.R_bound ho0)) (fun k_ hk_ => trivial)) (below_size (by repeat (first | (with_reducible first | exact HB.out | apply wA | apply wN | apply wD) | exact HB.out)))); have n1_ := K0 (below_step (by repeat (first | (with_reducible first | exact HB.out | apply wA | apply wN | apply wD) | exact HB.out)) hb); clear HB; have HO323 := n0_; have HB := n1_; clear n0_ n1_; (try clear hb); (try clear hb2); (try clear hk); (try clear hi); (try clear ho0); obtain ⟨Ao23, co23, eo23⟩ := Kd.N_slice HO323.out; subst eo23) | (go_at_call 34; (with_reducible refine (rundlelaw18_goes.calls kj5 _ _ t320 _ _ l0 t324 _ ?side1 ?side2 ?side3 ?side4 A18.out).mono ?_); (case side1 => repeat (first | exact (Kd.N_reads' HO323.out).2.2 | (with_reducible refine Kd.C_alloc ?_ _) | (with_reducible refine Kd.C_drewN ?_ _) | (with_reducible refine Kd.C_drew ?_))); (case side2 => exact (Kd.N_reads' HO323.out).2.1); (case side3 => repeat (first | exact (Kd.C_below HR0.out HB.out) | (with_reducible refine Kd.C_alloc ?_ _) | (with_reducible refine Kd.C_drewN ?_ _) | (with_reducible refine Kd.C_drew ?_))); (case side4 => exact HC0.out); rintro e w24 ⟨v325, rfl, ho0, hb⟩; have n0_ := K0 (Kd.N_elder' (by (with_reducible repeat (first | apply Kd.N_alloc | apply Kd.N_drewN | apply Kd.N_drew)); exact HO323.out) (Kd.N_base ho0) hb); have n1_ := K0 (Kd.N_lower (Kd.N_mono (ok' := fun k_ => some k_ ≠ (.slice Ao23 t320.length co23 : Value).ownBlock) ho0 (fun k_ hk_ => (Kd.fresh' (Kd.N_lt (by (with_reducible repeat (first | apply Kd.N_alloc | apply Kd.N_drewN | apply Kd.N_drew)); exact HO323.out)) k_ hk_))) (below_size (by repeat (first | (with_reducible first | exact HB.out | apply wA | apply wN | apply wD) | exact HB.out)))); have n2_ := K0 (below_step (by repeat (first | (with_reducible first | exact HB.out | apply wA | apply wN | apply wD) | exact HB.out)) hb); clear HO323; clear HB; have HO323 := n0_; have HO326 := n1_; have HB := n2_; clear n0_ n1_ n2_; (try clear hb); (try clear hb2); (try clear hk); (try clear hi); (try clear ho0)) | (go_at_call 35; (with_reducible refine (rundlelaw18_towers.calls kj5 _ _ l0 t327 _ ?side1 ?side2 A19.out).mono ?_); (case side1 => repeat (first | exact (Kd.C_below HR0.out HB.out) | (with_reducible refine Kd.C_alloc ?_ _) | (with_reducible refine Kd.C_drewN ?_ _) | (with_reducible refine Kd.C_drew ?_))); (case side2 => exact HC0.out); rintro e w25 ⟨v328, rfl, ho0, hb⟩; have n0_ := K0 (Kd.N_elder' (by (with_reducible repeat (first | apply Kd.N_alloc | apply Kd.N_drewN | apply Kd.N_drew)); exact HO323.out) (Kd.R_base ho0) hb); have n1_ := K0 (Kd.N_elder' (by (with_reducible repeat (first | apply Kd.N_alloc | apply Kd.N_drewN | apply Kd.N_drew)); exact HO326.out) (Kd.R_base ho0) hb); have n2_ := K0 (Kd.R_lower ho0 (below_size (by repeat (first | (with_reducible first | exact HB.out | apply wA | apply wN | apply wD) | exact HB.out)))); have n3_ := K0 (below_step (by repeat (first | (with_reducible first | exact HB.out | apply wA | apply wN | apply wD) | exact HB.out)) hb); clear HO323; clear HO326; clear HB; have HO323 := n0_; have HO326 := n1_; have HO329 := n2_; have HB := n3_; clear n0_ n1_ n2_ n3_; (try clear hb); (try clear hb2); (try clear hk); (try clear hi); (try clear ho0); obtain ⟨Ao26, co26, eo26⟩ := Kd.R_slice HO329.out; subst eo26) | (go_at_call 37; (with_reducible refine (rundleref18_Leads.calls kj5 _ _ t327 a1 a2 t330 _ ?side1 ?side2 A20.out).mono ?_); (case side1 => repeat (first | exact (Kd.R_reads' HO329.out).2.2 | (with_reducible refine Kd.C_alloc ?_ _) | (with_reducible refine Kd.C_drewN ?_ _) | (with_reducible refine Kd.C_drew ?_))); (case side2 => exact (Kd.R_reads' HO329.out).2.1); rintro e w' ⟨rfl, ⟨nd, rfl⟩⟩; (try first | exact ⟨rfl, _, World.drewN_drewN _ _ _⟩ | exact ⟨rfl, _, Eq.trans (World.drewN_drewN _ _ _) (congrArg (World.drewN _) (Nat.add_assoc _ _ _))⟩)))
    repeat (go_quiet (first | (go_at_call 33; (with_reducible refine (rundlelaw18_row.calls kj5 _ _ l0 t320 true _ ?side1 ?side2 A16.out).mono ?_); (case side1 => repeat (first | exact (Kd.C_below HR0.out HB.out) | (with_reducible refine Kd.C_alloc ?_ _) | (with_reducible refine Kd.C_drewN ?_ _) | (with_reducible refine Kd.C_drew ?_))); (case side2 => exact HC0.out); rintro e w22 ⟨v322, rfl, ho0, hb⟩; have n0_ := K0 (Kd.N_lower (Kd.N_mono (ok' := fun k_ => True) (Kd.R_N (Kd.R_bound ho0)) (fun k_ hk_ => trivial)) (below_size (by repeat (first | (with_reducible first | exact HB.out | apply wA | apply wN | apply wD) | exact HB.out)))); have n1_ := K0 (below_step (by repeat (first | (with_reducible first | exact HB.out | apply wA | apply wN | apply wD) | exact HB.out)) hb); clear HB; have HO323 := n0_; have HB := n1_; clear n0_ n1_; (try clear hb); (try clear hb2); (try clear hk); (try clear hi); (try clear ho0); obtain ⟨Ao23, co23, eo23⟩ := Kd.N_slice HO323.out; subst eo23) | (go_at_call 34; (with_reducible refine (rundlelaw18_goes.calls kj5 _ _ t320 _ _ l0 t324 _ ?side1 ?side2 ?side3 ?side4 A18.out).mono ?_); (case side1 => repeat (first | exact (Kd.N_reads' HO323.out).2.2 | (with_reducible refine Kd.C_alloc ?_ _) | (with_reducible refine Kd.C_drewN ?_ _) | (with_reducible refine Kd.C_drew ?_))); (case side2 => exact (Kd.N_reads' HO323.out).2.1); (case side3 => repeat (first | exact (Kd.C_below HR0.out HB.out) | (with_reducible refine Kd.C_alloc ?_ _) | (with_reducible refine Kd.C_drewN ?_ _) | (with_reducible refine Kd.C_drew ?_))); (case side4 => exact HC0.out); rintro e w24 ⟨v325, rfl, ho0, hb⟩; have n0_ := K0 (Kd.N_elder' (by (with_reducible repeat (first | apply Kd.N_alloc | apply Kd.N_drewN | apply Kd.N_drew)); exact HO323.out) (Kd.N_base ho0) hb); have n1_ := K0 (Kd.N_lower (Kd.N_mono (ok' := fun k_ => some k_ ≠ (.slice Ao23 t320.length co23 : Value).ownBlock) ho0 (fun k_ hk_ => (Kd.fresh' (Kd.N_lt (by (with_reducible repeat (first | apply Kd.N_alloc | apply Kd.N_drewN | apply Kd.N_drew)); exact HO323.out)) k_ hk_))) (below_size (by repeat (first | (with_reducible first | exact HB.out | apply wA | apply wN | apply wD) | exact HB.out)))); have n2_ := K0 (below_step (by repeat (first | (with_reducible first | exact HB.out | apply wA | apply wN | apply wD) | exact HB.out)) hb); clear HO323; clear HB; have HO323 := n0_; have HO326 := n1_; have HB := n2_; clear n0_ n1_ n2_; (try clear hb); (try clear hb2); (try clear hk); (try clear hi); (try clear ho0)) | (go_at_call 35; (with_reducible refine (rundlelaw18_towers.calls kj5 _ _ l0 t327 _ ?side1 ?side2 A19.out).mono ?_); (case side1 => repeat (first | exact (Kd.C_below HR0.out HB.out) | (with_reducible refine Kd.C_alloc ?_ _) | (with_reducible refine Kd.C_drewN ?_ _) | (with_reducible refine Kd.C_drew ?_))); (case side2 => exact HC0.out); rintro e w25 ⟨v328, rfl, ho0, hb⟩; have n0_ := K0 (Kd.N_elder' (by (with_reducible repeat (first | apply Kd.N_alloc | apply Kd.N_drewN | apply Kd.N_drew)); exact HO323.out) (Kd.R_base ho0) hb); have n1_ := K0 (Kd.N_elder' (by (with_reducible repeat (first | apply Kd.N_alloc | apply Kd.N_drewN | apply Kd.N_drew)); exact HO326.out) (Kd.R_base ho0) hb); have n2_ := K0 (Kd.R_lower ho0 (below_size (by repeat (first | (with_reducible first | exact HB.out | apply wA | apply wN | apply wD) | exact HB.out)))); have n3_ := K0 (below_step (by repeat (first | (with_reducible first | exact HB.out | apply wA | apply wN | apply wD) | exact HB.out)) hb); clear HO323; clear HO326; clear HB; have HO323 := n0_; have HO326 := n1_; have HO329 := n2_; have HB := n3_; clear n0_ n1_ n2_ n3_; (try clear hb); (try clear hb2); (try clear hk); (try clear hi); (try clear ho0); obtain ⟨Ao26, co26, eo26⟩ := Kd.R_slice HO329.out; subst eo26) | (go_at_call 37; (with_reducible refine (rundleref18_Leads.calls kj5 _ _ t327 a1 a2 t330 _ ?side1 ?side2 A20.out).mono ?_); (case side1 => repeat (first | exact (Kd.R_reads' HO329.out).2.2 | (with_reducible refine Kd.C_alloc ?_ _) | (with_reducible refine Kd.C_drewN ?_ _) | (with_reducible refine Kd.C_drew ?_))); (case side2 => exact (Kd.R_reads' HO329.out).2.1); rintro e w' ⟨rfl, ⟨nd, rfl⟩⟩; (try first | exact ⟨rfl, _, World.drewN_drewN _ _ _⟩ | exact ⟨rfl, _, Eq.trans (World.drewN_drewN _ _ _) (congrArg (World.drewN _) (Nat.add_assoc _ _ _))⟩))); go_upto_if 52 with (first | (go_at_call 33; (with_reducible refine (rundlelaw18_row.calls kj5 _ _ l0 t320 true _ ?side1 ?side2 A16.out).mono ?_); (case side1 => repeat (first | exact (Kd.C_below HR0.out HB.out) | (with_reducible refine Kd.C_alloc ?_ _) | (with_reducible refine Kd.C_drewN ?_ _) | (with_reducible refine Kd.C_drew ?_))); (case side2 => exact HC0.out); rintro e w22 ⟨v322, rfl, ho0, hb⟩; have n0_ := K0 (Kd.N_lower (Kd.N_mono (ok' := fun k_ => True) (Kd.R_N (Kd.R_bound ho0)) (fun k_ hk_ => trivial)) (below_size (by repeat (first | (with_reducible first | exact HB.out | apply wA | apply wN | apply wD) | exact HB.out)))); have n1_ := K0 (below_step (by repeat (first | (with_reducible first | exact HB.out | apply wA | apply wN | apply wD) | exact HB.out)) hb); clear HB; have HO323 := n0_; have HB := n1_; clear n0_ n1_; (try clear hb); (try clear hb2); (try clear hk); (try clear hi); (try clear ho0); obtain ⟨Ao23, co23, eo23⟩ := Kd.N_slice HO323.out; subst eo23) | (go_at_call 34; (with_reducible refine (rundlelaw18_goes.calls kj5 _ _ t320 _ _ l0 t324 _ ?side1 ?side2 ?side3 ?side4 A18.out).mono ?_); (case side1 => repeat (first | exact (Kd.N_reads' HO323.out).2.2 | (with_reducible refine Kd.C_alloc ?_ _) | (with_reducible refine Kd.C_drewN ?_ _) | (with_reducible refine Kd.C_drew ?_))); (case side2 => exact (Kd.N_reads' HO323.out).2.1); (case side3 => repeat (first | exact (Kd.C_below HR0.out HB.out) | (with_reducible refine Kd.C_alloc ?_ _) | (with_reducible refine Kd.C_drewN ?_ _) | (with_reducible refine Kd.C_drew ?_))); (case side4 => exact HC0.out); rintro e w24 ⟨v325, rfl, ho0, hb⟩; have n0_ := K0 (Kd.N_elder' (by (with_reducible repeat (first | apply Kd.N_alloc | apply Kd.N_drewN | apply Kd.N_drew)); exact HO323.out) (Kd.N_base ho0) hb); have n1_ := K0 (Kd.N_lower (Kd.N_mono (ok' := fun k_ => some k_ ≠ (.slice Ao23 t320.length co23 : Value).ownBlock) ho0 (fun k_ hk_ => (Kd.fresh' (Kd.N_lt (by (with_reducible repeat (first | apply Kd.N_alloc | apply Kd.N_drewN | apply Kd.N_drew)); exact HO323.out)) k_ hk_))) (below_size (by repeat (first | (with_reducible first | exact HB.out | apply wA | apply wN | apply wD) | exact HB.out)))); have n2_ := K0 (below_step (by repeat (first | (with_reducible first | exact HB.out | apply wA | apply wN | apply wD) | exact HB.out)) hb); clear HO323; clear HB; have HO323 := n0_; have HO326 := n1_; have HB := n2_; clear n0_ n1_ n2_; (try clear hb); (try clear hb2); (try clear hk); (try clear hi); (try clear ho0)) | (go_at_call 35; (with_reducible refine (rundlelaw18_towers.calls kj5 _ _ l0 t327 _ ?side1 ?side2 A19.out).mono ?_); (case side1 => repeat (first | exact (Kd.C_below HR0.out HB.out) | (with_reducible refine Kd.C_alloc ?_ _) | (with_reducible refine Kd.C_drewN ?_ _) | (with_reducible refine Kd.C_drew ?_))); (case side2 => exact HC0.out); rintro e w25 ⟨v328, rfl, ho0, hb⟩; have n0_ := K0 (Kd.N_elder' (by (with_reducible repeat (first | apply Kd.N_alloc | apply Kd.N_drewN | apply Kd.N_drew)); exact HO323.out) (Kd.R_base ho0) hb); have n1_ := K0 (Kd.N_elder' (by (with_reducible repeat (first | apply Kd.N_alloc | apply Kd.N_drewN | apply Kd.N_drew)); exact HO326.out) (Kd.R_base ho0) hb); have n2_ := K0 (Kd.R_lower ho0 (below_size (by repeat (first | (with_reducible first | exact HB.out | apply wA | apply wN | apply wD) | exact HB.out)))); have n3_ := K0 (below_step (by repeat (first | (with_reducible first | exact HB.out | apply wA | apply wN | apply wD) | exact HB.out)) hb); clear HO323; clear HO326; clear HB; have HO323 := n0_; have HO326 := n1_; have HO329 := n2_; have HB := n3_; clear n0_ n1_ n2_ n3_; (try clear hb); (try clear hb2); (try clear hk); (try clear hi); (try clear ho0); obtain ⟨Ao26, co26, eo26⟩ := Kd.R_slice HO329.out; subst eo26) | (go_at_call 37; (with_reducible refine (rundleref18_Leads.calls kj5 _ _ t327 a1 a2 t330 _ ?side1 ?side2 A20.out).mono ?_); (case side1 => repeat (first | exact (Kd.R_reads' HO329.out).2.2 | (with_reducible refine Kd.C_alloc ?_ _) | (with_reducible refine Kd.C_drewN ?_ _) | (with_reducible refine Kd.C_drew ?_))); (case side2 => exact (Kd.R_reads' HO329.out).2.1); rintro e w' ⟨rfl, ⟨nd, rfl⟩⟩; (try first | exact ⟨rfl, _, World.drewN_drewN _ _ _⟩ | exact ⟨rfl, _, Eq.trans (World.drewN_drewN _ _ _) (congrArg (World.drewN _) (Nat.add_assoc _ _ _))⟩))))
    (try simp only [Act.put, s1, s2, s3])
    go_cut [15] (fun v15 wc => ∃ (kq : Nat) (x15_20 : Int), v15 = .int .i64 x15_20 ∧ Aside0 (rundlelaw18_PlanLeads.j1 kq a1 a2 a3 a4 t324 t327 x15_20 = some r) ∧ Aside0 (kq ≤ kj5) ∧ Aside0 (Kd.N k92 92 wc w.heap.size (fun k_ => some k_ ≠ ((.slice Ao26 t327.length co26) : Value).ownBlock) v325 t324) ∧ Aside0 (Kd.R k77 77 wc w.heap.size (fun _ => True) (.slice Ao26 t327.length co26) t327) ∧ Aside0 (Below w.heap.size w wc))
    case first =>
     have H := HC21.out; clear HC21; by_cases c27 : t330 ≥ 0
     ·
      rw [if_pos c27] at H; have c27b0 : decide (0 ≤ t330) = true := dT c27; clear c27; (first | rw [c27b0] | (simp only [i64_w, i32_w]; rw [c27b0]) | skip)
      replace H := Option.bind_eq_some_iff.mp H; obtain ⟨t331, A280, H⟩ := H; replace H : (rundlelaw18_PlanLeads.j1 kj5 a1 a2 a3 a4 t324 t327 t331) = some r := H; have A28 := K0 A280; clear A280; have H' := K0 H; clear H; go_wp2_with (first | (go_at_call 38; (with_reducible refine (rundlelaw18_handle.calls t330 t331 _ A28.out).mono ?_); rintro e w' ⟨rfl, ⟨nd, rfl⟩⟩; (try first | exact ⟨rfl, _, World.drewN_drewN _ _ _⟩ | exact ⟨rfl, _, Eq.trans (World.drewN_drewN _ _ _) (congrArg (World.drewN _) (Nat.add_assoc _ _ _))⟩)))
      repeat (go_quiet (first | (go_at_call 38; (with_reducible refine (rundlelaw18_handle.calls t330 t331 _ A28.out).mono ?_); rintro e w' ⟨rfl, ⟨nd, rfl⟩⟩; (try first | exact ⟨rfl, _, World.drewN_drewN _ _ _⟩ | exact ⟨rfl, _, Eq.trans (World.drewN_drewN _ _ _) (congrArg (World.drewN _) (Nat.add_assoc _ _ _))⟩))); try go_wp2_with (first | (go_at_call 38; (with_reducible refine (rundlelaw18_handle.calls t330 t331 _ A28.out).mono ?_); rintro e w' ⟨rfl, ⟨nd, rfl⟩⟩; (try first | exact ⟨rfl, _, World.drewN_drewN _ _ _⟩ | exact ⟨rfl, _, Eq.trans (World.drewN_drewN _ _ _) (congrArg (World.drewN _) (Nat.add_assoc _ _ _))⟩))))
      go_meet
      case rel => exact ⟨_, (t331), (by first | rfl | (simp; done) | (simp [*]; done)), H', ⟨by have := HJ5.out; first | omega | exact Nat.le_refl _⟩, ⟨by (with_reducible repeat (first | apply Kd.N_alloc | apply Kd.N_drewN | apply Kd.N_drew)); exact Kd.N_mono HO326.out (fun _ hk => hk.2)⟩, ⟨by (with_reducible repeat (first | apply rA | apply rN | apply rD)); exact HO329.out⟩, ⟨by repeat (first | (with_reducible first | exact HB.out | apply wA | apply wN | apply wD) | exact HB.out)⟩⟩
     rw [if_neg c27] at H; have c27b0 : decide (0 ≤ t330) = false := dF c27; clear c27; (first | rw [c27b0] | (simp only [i64_w, i32_w]; rw [c27b0]) | skip)
     have H' := K0 H; clear H; go_wp2
     repeat (go_quiet (fail); try go_wp2)
     go_meet
     case rel => exact ⟨_, (0), (by first | rfl | (simp; done) | (simp [*]; done)), H', ⟨by have := HJ5.out; first | omega | exact Nat.le_refl _⟩, ⟨by (with_reducible repeat (first | apply Kd.N_alloc | apply Kd.N_drewN | apply Kd.N_drew)); exact Kd.N_mono HO326.out (fun _ hk => hk.2)⟩, ⟨by (with_reducible repeat (first | apply rA | apply rN | apply rD)); exact HO329.out⟩, ⟨by repeat (first | (with_reducible first | exact HB.out | apply wA | apply wN | apply wD) | exact HB.out)⟩⟩
    case rest =>
     clear HC21; try clear c1
     try clear c2
     try clear p2
     try clear c7
     try clear c8
     try clear c9
     try clear c9b0
     try clear c9b1
     try clear c13
     try clear c17
     try clear c27
     try clear c27b0
     try clear p2
     obtain ⟨kq, x15_20, rfl, HA, HJ20, HO_13, HO_14, HB⟩ := hcut
     cases kq with
     | zero => exact absurd HA.out (by simp [rundlelaw18_PlanLeads.j1])
     | succ kj20 =>
      have H := HA.out; clear HA; simp only [rundlelaw18_PlanLeads.j1] at H; replace H := Option.bind_eq_some_iff.mp H; obtain ⟨t332, A290, H⟩ := H; replace H : (if t332 = x15_20 then ((plan_Links.f kj20 t324 a1 a3 (wrap64 (Int.tmod a4 1073741825))).bind fun t333 => (if a3 < 1 then (rundlelaw18_PlanLeads.j2 kj20 a1 a3 t327 (wrap64 (Int.tmod a4 1073741825)) t333 true) else (rundlelaw18_PlanLeads.j2 kj20 a1 a3 t327 (wrap64 (Int.tmod a4 1073741825)) t333 (decide (a3 > 24))))) else (some false)) = some r := H; have A29 := K0 A290; clear A290; by_cases c30 : t332 = x15_20
      ·
       rw [if_pos c30] at H; have c30b0 : (t332 == x15_20) = true := beq_iff_eq.mpr c30; have c30b1 : (t332 != x15_20) = false := bne_eq_false_iff_eq.mpr c30; clear c30; replace H := Option.bind_eq_some_iff.mp H; obtain ⟨t333, A310, H⟩ := H; replace H : (if a3 < 1 then (rundlelaw18_PlanLeads.j2 kj20 a1 a3 t327 (wrap64 (Int.tmod a4 1073741825)) t333 true) else (rundlelaw18_PlanLeads.j2 kj20 a1 a3 t327 (wrap64 (Int.tmod a4 1073741825)) t333 (decide (a3 > 24)))) = some r := H; have A31 := K0 A310; clear A310; have HC32 := K0 H; clear H; obtain ⟨Ao33, co33, eo33⟩ := Kd.N_slice HO_13.out; subst eo33; go_upto_region 15 with (first | (go_at_call 42; (with_reducible refine (plan_Leads.calls _ _ t324 a1 a2 t332 _ ?side1 ?side2 A29.out).mono ?_); (case side1 => repeat (first | exact (Kd.N_reads' HO_13.out).2.2 | (with_reducible refine Kd.C_alloc ?_ _) | (with_reducible refine Kd.C_drewN ?_ _) | (with_reducible refine Kd.C_drew ?_))); (case side2 => exact (Kd.N_reads' HO_13.out).2.1); rintro e w34 ⟨rfl, hb⟩; have n0_ := K0 (Kd.N_below (by (with_reducible repeat (first | apply Kd.N_alloc | apply Kd.N_drewN | apply Kd.N_drew)); exact HO_13.out) hb); have n1_ := K0 (rB (by (with_reducible repeat (first | apply rA | apply rN | apply rD)); exact HO_14.out) hb); have n2_ := K0 (below_step (by repeat (first | (with_reducible first | exact HB.out | apply wA | apply wN | apply wD) | exact HB.out)) hb); clear HO_13; clear HO_14; clear HB; have HO_13 := n0_; have HO_14 := n1_; have HB := n2_; clear n0_ n1_ n2_; (try clear hb); (try clear hb2); (try clear hk); (try clear hi)) | (go_at_call 43; (with_reducible refine (plan_Links.calls kj20 _ _ t324 a1 a3 (wrap64 (Int.tmod a4 1073741825)) t333 _ ?side1 ?side2 A31.out).mono ?_); (case side1 => repeat (first | exact (Kd.N_reads' HO_13.out).2.2 | (with_reducible refine Kd.C_alloc ?_ _) | (with_reducible refine Kd.C_drewN ?_ _) | (with_reducible refine Kd.C_drew ?_))); (case side2 => exact (Kd.N_reads' HO_13.out).2.1); rintro e w35 ⟨v334, rfl, ho0, hb⟩; have n0_ := K0 (Kd.N_elder' (by (with_reducible repeat (first | apply Kd.N_alloc | apply Kd.N_drewN | apply Kd.N_drew)); exact HO_13.out) (Kd.R_base ho0) hb); have n1_ := K0 (rB (by (with_reducible repeat (first | apply rA | apply rN | apply rD)); exact HO_14.out) hb); have n2_ := K0 (Kd.R_lower ho0 (below_size (by repeat (first | (with_reducible first | exact HB.out | apply wA | apply wN | apply wD) | exact HB.out)))); have n3_ := K0 (below_step (by repeat (first | (with_reducible first | exact HB.out | apply wA | apply wN | apply wD) | exact HB.out)) hb); clear HO_13; clear HO_14; clear HB; have HO_13 := n0_; have HO_14 := n1_; have HO335 := n2_; have HB := n3_; clear n0_ n1_ n2_ n3_; (try clear hb); (try clear hb2); (try clear hk); (try clear hi); (try clear ho0)))
       repeat (go_quiet (first | (go_at_call 42; (with_reducible refine (plan_Leads.calls _ _ t324 a1 a2 t332 _ ?side1 ?side2 A29.out).mono ?_); (case side1 => repeat (first | exact (Kd.N_reads' HO_13.out).2.2 | (with_reducible refine Kd.C_alloc ?_ _) | (with_reducible refine Kd.C_drewN ?_ _) | (with_reducible refine Kd.C_drew ?_))); (case side2 => exact (Kd.N_reads' HO_13.out).2.1); rintro e w34 ⟨rfl, hb⟩; have n0_ := K0 (Kd.N_below (by (with_reducible repeat (first | apply Kd.N_alloc | apply Kd.N_drewN | apply Kd.N_drew)); exact HO_13.out) hb); have n1_ := K0 (rB (by (with_reducible repeat (first | apply rA | apply rN | apply rD)); exact HO_14.out) hb); have n2_ := K0 (below_step (by repeat (first | (with_reducible first | exact HB.out | apply wA | apply wN | apply wD) | exact HB.out)) hb); clear HO_13; clear HO_14; clear HB; have HO_13 := n0_; have HO_14 := n1_; have HB := n2_; clear n0_ n1_ n2_; (try clear hb); (try clear hb2); (try clear hk); (try clear hi)) | (go_at_call 43; (with_reducible refine (plan_Links.calls kj20 _ _ t324 a1 a3 (wrap64 (Int.tmod a4 1073741825)) t333 _ ?side1 ?side2 A31.out).mono ?_); (case side1 => repeat (first | exact (Kd.N_reads' HO_13.out).2.2 | (with_reducible refine Kd.C_alloc ?_ _) | (with_reducible refine Kd.C_drewN ?_ _) | (with_reducible refine Kd.C_drew ?_))); (case side2 => exact (Kd.N_reads' HO_13.out).2.1); rintro e w35 ⟨v334, rfl, ho0, hb⟩; have n0_ := K0 (Kd.N_elder' (by (with_reducible repeat (first | apply Kd.N_alloc | apply Kd.N_drewN | apply Kd.N_drew)); exact HO_13.out) (Kd.R_base ho0) hb); have n1_ := K0 (rB (by (with_reducible repeat (first | apply rA | apply rN | apply rD)); exact HO_14.out) hb); have n2_ := K0 (Kd.R_lower ho0 (below_size (by repeat (first | (with_reducible first | exact HB.out | apply wA | apply wN | apply wD) | exact HB.out)))); have n3_ := K0 (below_step (by repeat (first | (with_reducible first | exact HB.out | apply wA | apply wN | apply wD) | exact HB.out)) hb); clear HO_13; clear HO_14; clear HB; have HO_13 := n0_; have HO_14 := n1_; have HO335 := n2_; have HB := n3_; clear n0_ n1_ n2_ n3_; (try clear hb); (try clear hb2); (try clear hk); (try clear hi); (try clear ho0))); go_upto_region 15 with (first | (go_at_call 42; (with_reducible refine (plan_Leads.calls _ _ t324 a1 a2 t332 _ ?side1 ?side2 A29.out).mono ?_); (case side1 => repeat (first | exact (Kd.N_reads' HO_13.out).2.2 | (with_reducible refine Kd.C_alloc ?_ _) | (with_reducible refine Kd.C_drewN ?_ _) | (with_reducible refine Kd.C_drew ?_))); (case side2 => exact (Kd.N_reads' HO_13.out).2.1); rintro e w34 ⟨rfl, hb⟩; have n0_ := K0 (Kd.N_below (by (with_reducible repeat (first | apply Kd.N_alloc | apply Kd.N_drewN | apply Kd.N_drew)); exact HO_13.out) hb); have n1_ := K0 (rB (by (with_reducible repeat (first | apply rA | apply rN | apply rD)); exact HO_14.out) hb); have n2_ := K0 (below_step (by repeat (first | (with_reducible first | exact HB.out | apply wA | apply wN | apply wD) | exact HB.out)) hb); clear HO_13; clear HO_14; clear HB; have HO_13 := n0_; have HO_14 := n1_; have HB := n2_; clear n0_ n1_ n2_; (try clear hb); (try clear hb2); (try clear hk); (try clear hi)) | (go_at_call 43; (with_reducible refine (plan_Links.calls kj20 _ _ t324 a1 a3 (wrap64 (Int.tmod a4 1073741825)) t333 _ ?side1 ?side2 A31.out).mono ?_); (case side1 => repeat (first | exact (Kd.N_reads' HO_13.out).2.2 | (with_reducible refine Kd.C_alloc ?_ _) | (with_reducible refine Kd.C_drewN ?_ _) | (with_reducible refine Kd.C_drew ?_))); (case side2 => exact (Kd.N_reads' HO_13.out).2.1); rintro e w35 ⟨v334, rfl, ho0, hb⟩; have n0_ := K0 (Kd.N_elder' (by (with_reducible repeat (first | apply Kd.N_alloc | apply Kd.N_drewN | apply Kd.N_drew)); exact HO_13.out) (Kd.R_base ho0) hb); have n1_ := K0 (rB (by (with_reducible repeat (first | apply rA | apply rN | apply rD)); exact HO_14.out) hb); have n2_ := K0 (Kd.R_lower ho0 (below_size (by repeat (first | (with_reducible first | exact HB.out | apply wA | apply wN | apply wD) | exact HB.out)))); have n3_ := K0 (below_step (by repeat (first | (with_reducible first | exact HB.out | apply wA | apply wN | apply wD) | exact HB.out)) hb); clear HO_13; clear HO_14; clear HB; have HO_13 := n0_; have HO_14 := n1_; have HO335 := n2_; have HB := n3_; clear n0_ n1_ n2_ n3_; (try clear hb); (try clear hb2); (try clear hk); (try clear hi); (try clear ho0))))
       (try simp only [Act.put, s1, s2, s3])
       go_cut [74] (fun v74 wc => ∃ (kq : Nat) (x74_31 : Bool), v74 = .bool x74_31 ∧ Aside0 (rundlelaw18_PlanLeads.j2 kq a1 a3 t327 (wrap64 (Int.tmod a4 1073741825)) t333 x74_31 = some r) ∧ Aside0 (kq ≤ kj20) ∧ Aside0 (Kd.R k77 77 wc w.heap.size (fun _ => True) (.slice Ao26 t327.length co26) t327) ∧ Aside0 (Kd.R (Kd.int .i64) 3 wc w.heap.size (fun _ => True) v334 t333) ∧ Aside0 (Below w.heap.size w wc))
       case first =>
        have H := HC32.out; clear HC32; by_cases c36 : a3 < 1
        ·
         rw [if_pos c36] at H; have c36b0 : decide (a3 < 1) = true := dT c36; clear c36; (first | rw [c36b0] | (simp only [i64_w, i32_w]; rw [c36b0]) | skip)
         have H' := K0 H; clear H; go_wp2
         repeat (go_quiet (fail); try go_wp2)
         go_meet
         case rel => exact ⟨_, (true), (by first | rfl | (simp; done) | (simp [*]; done)), H', ⟨by have := HJ5.out; have := HJ20.out; first | omega | exact Nat.le_refl _⟩, ⟨by (with_reducible repeat (first | apply rA | apply rN | apply rD)); exact HO_14.out⟩, ⟨by (with_reducible repeat (first | apply rA | apply rN | apply rD)); exact HO335.out⟩, ⟨by repeat (first | (with_reducible first | exact HB.out | apply wA | apply wN | apply wD) | exact HB.out)⟩⟩
        rw [if_neg c36] at H; have c36b0 : decide (a3 < 1) = false := dF c36; clear c36; (first | rw [c36b0] | (simp only [i64_w, i32_w]; rw [c36b0]) | skip)
        have H' := K0 H; clear H; go_wp2
        repeat (go_quiet (fail); try go_wp2)
        go_meet
        case rel => exact ⟨_, (decide (a3 > 24)), (by first | rfl | (simp; done) | (simp [*]; done)), H', ⟨by have := HJ5.out; have := HJ20.out; first | omega | exact Nat.le_refl _⟩, ⟨by (with_reducible repeat (first | apply rA | apply rN | apply rD)); exact HO_14.out⟩, ⟨by (with_reducible repeat (first | apply rA | apply rN | apply rD)); exact HO335.out⟩, ⟨by repeat (first | (with_reducible first | exact HB.out | apply wA | apply wN | apply wD) | exact HB.out)⟩⟩
       case rest =>
        clear HC32; try clear c1
        try clear c2
        try clear p2
        try clear c3
        try clear p6
        try clear c7
        try clear c8
        try clear c9
        try clear c9b0
        try clear c9b1
        try clear c13
        try clear c17
        try clear c27
        try clear c27b0
        try clear c30
        try clear c30b0
        try clear c30b1
        try clear c36
        try clear c36b0
        try clear p2
        obtain ⟨kq, x74_31, rfl, HA, HJ31, HO_14, HO_18, HB⟩ := hcut
        cases kq with
        | zero => exact absurd HA.out (by simp [rundlelaw18_PlanLeads.j2])
        | succ kj31 =>
         have H := HA.out; clear HA; simp only [rundlelaw18_PlanLeads.j2] at H; by_cases c37 : x74_31 = true
         ·
          subst c37; have H1 : (some ((t333.length : Int) == 0)) = some r := by rw [if_pos rfl] at H; exact H
          clear H; have H := H1; clear H1; obtain rfl := Option.some.inj H; obtain ⟨Ao38, co38, eo38⟩ := Kd.R_slice HO_18.out; subst eo38; go_wp2
          repeat (go_quiet (fail); try go_wp2)
          go_ret; exact ⟨by first | rfl | (simp [errW_none, errW_some] <;> rfl) | (simp [*, errW_none, errW_some] <;> rfl), by repeat (first | (with_reducible first | exact HB.out | apply wA | apply wN | apply wD) | exact HB.out)⟩
         replace c37 := Bool.eq_false_iff.mpr c37; subst c37; have H1 : (if (t333.length : Int) = a3 then (rundlelaw18_PlanLeads.l0 kj31 a1 a3 t327 (wrap64 (Int.tmod a4 1073741825)) t333 0) else (some false)) = some r := by rw [if_neg (show ¬ (false = true) by decide)] at H; exact H
         clear H; have H := H1; clear H1; by_cases c39 : (t333.length : Int) = a3
         ·
          rw [if_pos c39] at H; have c39b0 : ((t333.length : Int) == a3) = true := beq_iff_eq.mpr c39; have c39b1 : ((t333.length : Int) != a3) = false := bne_eq_false_iff_eq.mpr c39; clear c39; have H' := K0 H; clear H; obtain ⟨Ao40, co40, eo40⟩ := Kd.R_slice HO_18.out; subst eo40; go_wp2
          repeat (go_quiet (fail); try go_wp2)
          go_loopg [19] kj31 (fun kq v19 w' => ∃ (x19_4 : Int), v19 = .int .i64 x19_4 ∧ Aside0 (rundlelaw18_PlanLeads.l0 kq a1 a3 t327 (wrap64 (Int.tmod a4 1073741825)) t333 x19_4 = some r) ∧ Aside0 (kq ≤ kj31) ∧ Aside0 (Kd.R k77 77 w' w.heap.size (fun _ => True) (.slice Ao26 t327.length co26) t327) ∧ Aside0 (Kd.R (Kd.int .i64) 3 w' w.heap.size (fun _ => True) (.slice Ao40 t333.length co40) t333) ∧ Aside0 (Below w.heap.size w w'))
          case atStart => exact ⟨(0), (by first | rfl | (simp; done) | (simp [*]; done)), H', ⟨Nat.le_refl _⟩, ⟨by (with_reducible repeat (first | apply rA | apply rN | apply rD)); exact HO_14.out⟩, ⟨by (with_reducible repeat (first | apply rA | apply rN | apply rD)); exact HO_18.out⟩, ⟨by repeat (first | (with_reducible first | exact HB.out | apply wA | apply wN | apply wD) | exact HB.out)⟩⟩
          case round =>
           clear H'; try clear c1
           try clear c2
           try clear p2
           try clear c3
           try clear p6
           try clear c7
           try clear c8
           try clear c9
           try clear c9b0
           try clear c9b1
           try clear c13
           try clear c17
           try clear c27
           try clear c27b0
           try clear c30
           try clear c30b0
           try clear c30b1
           try clear c36
           try clear c36b0
           try clear c37
           try clear c39
           try clear c39b0
           try clear c39b1
           try clear p2
           try clear p6
           obtain ⟨x19_4, rfl, HA, HK4, HO_14, HO_18, HB⟩ := hrel
           cases gk with
           | zero => exact absurd HA.out (by simp [rundlelaw18_PlanLeads.l0])
           | succ k4 =>
            have H := HA.out; clear HA; simp only [rundlelaw18_PlanLeads.l0] at H; by_cases c41 : x19_4 < a3
            ·
             rw [if_pos c41] at H; have c41b0 : decide (x19_4 < a3) = true := dT c41; clear c41; replace H := Option.bind_eq_some_iff.mp H; obtain ⟨t336, A420, H⟩ := H; replace H : (if t336 ≥ 0 then ((rundlelaw18_handle.f t336).bind fun t337 => (if 0 ≤ x19_4 then (if x19_4 < (t333.length : Int) then ((tag_Word.f t337 (wrap64 (Int.tmod a4 1073741825))).bind fun t339 => (if (rd t333 x19_4) = t339 then (rundlelaw18_PlanLeads.l0 k4 a1 a3 t327 (wrap64 (Int.tmod a4 1073741825)) t333 (wrap64 (x19_4 + 1))) else (some false))) else (none)) else (none))) else (if 0 ≤ x19_4 then (if x19_4 < (t333.length : Int) then ((tag_Word.f 0 (wrap64 (Int.tmod a4 1073741825))).bind fun t341 => (if (rd t333 x19_4) = t341 then (rundlelaw18_PlanLeads.l0 k4 a1 a3 t327 (wrap64 (Int.tmod a4 1073741825)) t333 (wrap64 (x19_4 + 1))) else (some false))) else (none)) else (none))) = some r := H; have A42 := K0 A420; clear A420; by_cases c43 : t336 ≥ 0
             ·
              rw [if_pos c43] at H; have c43b0 : decide (0 ≤ t336) = true := dT c43; clear c43; replace H := Option.bind_eq_some_iff.mp H; obtain ⟨t337, A440, H⟩ := H; replace H : (if 0 ≤ x19_4 then (if x19_4 < (t333.length : Int) then ((tag_Word.f t337 (wrap64 (Int.tmod a4 1073741825))).bind fun t339 => (if (rd t333 x19_4) = t339 then (rundlelaw18_PlanLeads.l0 k4 a1 a3 t327 (wrap64 (Int.tmod a4 1073741825)) t333 (wrap64 (x19_4 + 1))) else (some false))) else (none)) else (none)) = some r := H; have A44 := K0 A440; clear A440; by_cases c45 : 0 ≤ x19_4
              ·
               rw [if_pos c45] at H; have c45b0 : decide (0 ≤ x19_4) = true := dT c45; clear c45; by_cases c46 : x19_4 < (t333.length : Int)
               ·
                rw [if_pos c46] at H; have c46b0 : decide (x19_4 < (t333.length : Int)) = true := dT c46; clear c46; replace H := Option.bind_eq_some_iff.mp H; obtain ⟨t339, A470, H⟩ := H; replace H : (if (rd t333 x19_4) = t339 then (rundlelaw18_PlanLeads.l0 k4 a1 a3 t327 (wrap64 (Int.tmod a4 1073741825)) t333 (wrap64 (x19_4 + 1))) else (some false)) = some r := H; have A47 := K0 A470; clear A470; by_cases c48 : (rd t333 x19_4) = t339
                ·
                 rw [if_pos c48] at H; have c48b0 : ((rd t333 x19_4) == t339) = true := beq_iff_eq.mpr c48; have c48b1 : ((rd t333 x19_4) != t339) = false := bne_eq_false_iff_eq.mpr c48; clear c48; have H' := K0 H; clear H; go_wp2_with (first | (go_at_call 37; (with_reducible refine (rundleref18_Leads.calls k4 _ _ t327 a1 x19_4 t336 _ ?side1 ?side2 A42.out).mono ?_); (case side1 => repeat (first | exact (Kd.R_reads' HO_14.out).2.2 | (with_reducible refine Kd.C_alloc ?_ _) | (with_reducible refine Kd.C_drewN ?_ _) | (with_reducible refine Kd.C_drew ?_))); (case side2 => exact (Kd.R_reads' HO_14.out).2.1); rintro e w' ⟨rfl, ⟨nd, rfl⟩⟩; (try first | exact ⟨rfl, _, World.drewN_drewN _ _ _⟩ | exact ⟨rfl, _, Eq.trans (World.drewN_drewN _ _ _) (congrArg (World.drewN _) (Nat.add_assoc _ _ _))⟩)) | (go_at_call 38; (with_reducible refine (rundlelaw18_handle.calls t336 t337 _ A44.out).mono ?_); rintro e w' ⟨rfl, ⟨nd, rfl⟩⟩; (try first | exact ⟨rfl, _, World.drewN_drewN _ _ _⟩ | exact ⟨rfl, _, Eq.trans (World.drewN_drewN _ _ _) (congrArg (World.drewN _) (Nat.add_assoc _ _ _))⟩); have p338 : 0 ≤ (x19_4 : Int) := oT (by first | (with_reducible assumption) | assumption); have q338 : x19_4 < (t333.length : Int) := oT (by first | (with_reducible assumption) | assumption); obtain ⟨ad338, e338, hx338_0⟩ := Kd.at_int (Kd.R_reads' HO_18.out).2.2 x19_4 p338 q338; cases e338; replace p338 := eq_true p338; replace q338 := eq_true q338) | (go_at_call 41; (with_reducible refine (tag_Word.calls t337 (wrap64 (Int.tmod a4 1073741825)) t339 _ A47.out).mono ?_); rintro e w' ⟨rfl, ⟨nd, rfl⟩⟩; (try first | exact ⟨rfl, _, World.drewN_drewN _ _ _⟩ | exact ⟨rfl, _, Eq.trans (World.drewN_drewN _ _ _) (congrArg (World.drewN _) (Nat.add_assoc _ _ _))⟩)))
                 repeat (go_quiet (first | (go_at_call 37; (with_reducible refine (rundleref18_Leads.calls k4 _ _ t327 a1 x19_4 t336 _ ?side1 ?side2 A42.out).mono ?_); (case side1 => repeat (first | exact (Kd.R_reads' HO_14.out).2.2 | (with_reducible refine Kd.C_alloc ?_ _) | (with_reducible refine Kd.C_drewN ?_ _) | (with_reducible refine Kd.C_drew ?_))); (case side2 => exact (Kd.R_reads' HO_14.out).2.1); rintro e w' ⟨rfl, ⟨nd, rfl⟩⟩; (try first | exact ⟨rfl, _, World.drewN_drewN _ _ _⟩ | exact ⟨rfl, _, Eq.trans (World.drewN_drewN _ _ _) (congrArg (World.drewN _) (Nat.add_assoc _ _ _))⟩)) | (go_at_call 38; (with_reducible refine (rundlelaw18_handle.calls t336 t337 _ A44.out).mono ?_); rintro e w' ⟨rfl, ⟨nd, rfl⟩⟩; (try first | exact ⟨rfl, _, World.drewN_drewN _ _ _⟩ | exact ⟨rfl, _, Eq.trans (World.drewN_drewN _ _ _) (congrArg (World.drewN _) (Nat.add_assoc _ _ _))⟩); have p338 : 0 ≤ (x19_4 : Int) := oT (by first | (with_reducible assumption) | assumption); have q338 : x19_4 < (t333.length : Int) := oT (by first | (with_reducible assumption) | assumption); obtain ⟨ad338, e338, hx338_0⟩ := Kd.at_int (Kd.R_reads' HO_18.out).2.2 x19_4 p338 q338; cases e338; replace p338 := eq_true p338; replace q338 := eq_true q338) | (go_at_call 41; (with_reducible refine (tag_Word.calls t337 (wrap64 (Int.tmod a4 1073741825)) t339 _ A47.out).mono ?_); rintro e w' ⟨rfl, ⟨nd, rfl⟩⟩; (try first | exact ⟨rfl, _, World.drewN_drewN _ _ _⟩ | exact ⟨rfl, _, Eq.trans (World.drewN_drewN _ _ _) (congrArg (World.drewN _) (Nat.add_assoc _ _ _))⟩))); try go_wp2_with (first | (go_at_call 37; (with_reducible refine (rundleref18_Leads.calls k4 _ _ t327 a1 x19_4 t336 _ ?side1 ?side2 A42.out).mono ?_); (case side1 => repeat (first | exact (Kd.R_reads' HO_14.out).2.2 | (with_reducible refine Kd.C_alloc ?_ _) | (with_reducible refine Kd.C_drewN ?_ _) | (with_reducible refine Kd.C_drew ?_))); (case side2 => exact (Kd.R_reads' HO_14.out).2.1); rintro e w' ⟨rfl, ⟨nd, rfl⟩⟩; (try first | exact ⟨rfl, _, World.drewN_drewN _ _ _⟩ | exact ⟨rfl, _, Eq.trans (World.drewN_drewN _ _ _) (congrArg (World.drewN _) (Nat.add_assoc _ _ _))⟩)) | (go_at_call 38; (with_reducible refine (rundlelaw18_handle.calls t336 t337 _ A44.out).mono ?_); rintro e w' ⟨rfl, ⟨nd, rfl⟩⟩; (try first | exact ⟨rfl, _, World.drewN_drewN _ _ _⟩ | exact ⟨rfl, _, Eq.trans (World.drewN_drewN _ _ _) (congrArg (World.drewN _) (Nat.add_assoc _ _ _))⟩); have p338 : 0 ≤ (x19_4 : Int) := oT (by first | (with_reducible assumption) | assumption); have q338 : x19_4 < (t333.length : Int) := oT (by first | (with_reducible assumption) | assumption); obtain ⟨ad338, e338, hx338_0⟩ := Kd.at_int (Kd.R_reads' HO_18.out).2.2 x19_4 p338 q338; cases e338; replace p338 := eq_true p338; replace q338 := eq_true q338) | (go_at_call 41; (with_reducible refine (tag_Word.calls t337 (wrap64 (Int.tmod a4 1073741825)) t339 _ A47.out).mono ?_); rintro e w' ⟨rfl, ⟨nd, rfl⟩⟩; (try first | exact ⟨rfl, _, World.drewN_drewN _ _ _⟩ | exact ⟨rfl, _, Eq.trans (World.drewN_drewN _ _ _) (congrArg (World.drewN _) (Nat.add_assoc _ _ _))⟩))))
                 go_roundg k4
                 case measure => have := HJ5.out; have := HJ20.out; have := HJ31.out; have := HK4.out; omega
                 case rel => exact ⟨(wrap64 (x19_4 + 1)), (by first | rfl | (simp; done) | (simp [*]; done)), H', ⟨by have := HJ5.out; have := HJ20.out; have := HJ31.out; have := HK4.out; omega⟩, ⟨by (with_reducible repeat (first | apply rA | apply rN | apply rD)); exact HO_14.out⟩, ⟨by (with_reducible repeat (first | apply rA | apply rN | apply rD)); exact HO_18.out⟩, ⟨by repeat (first | (with_reducible first | exact HB.out | apply wA | apply wN | apply wD) | exact HB.out)⟩⟩
                rw [if_neg c48] at H; have c48b0 : ((rd t333 x19_4) == t339) = false := beq_eq_false_iff_ne.mpr c48; have c48b1 : ((rd t333 x19_4) != t339) = true := bne_iff_ne.mpr c48; exact absurd (H.trans (congrArg some HRT.out)) (by simp)
               rw [if_neg c46] at H; exact absurd H (by simp)
              rw [if_neg c45] at H; exact absurd H (by simp)
             rw [if_neg c43] at H; have c43b0 : decide (0 ≤ t336) = false := dF c43; clear c43; by_cases c49 : 0 ≤ x19_4
             ·
              rw [if_pos c49] at H; have c49b0 : decide (0 ≤ x19_4) = true := dT c49; clear c49; by_cases c50 : x19_4 < (t333.length : Int)
              ·
               rw [if_pos c50] at H; have c50b0 : decide (x19_4 < (t333.length : Int)) = true := dT c50; clear c50; replace H := Option.bind_eq_some_iff.mp H; obtain ⟨t341, A510, H⟩ := H; replace H : (if (rd t333 x19_4) = t341 then (rundlelaw18_PlanLeads.l0 k4 a1 a3 t327 (wrap64 (Int.tmod a4 1073741825)) t333 (wrap64 (x19_4 + 1))) else (some false)) = some r := H; have A51 := K0 A510; clear A510; by_cases c52 : (rd t333 x19_4) = t341
               ·
                rw [if_pos c52] at H; have c52b0 : ((rd t333 x19_4) == t341) = true := beq_iff_eq.mpr c52; have c52b1 : ((rd t333 x19_4) != t341) = false := bne_eq_false_iff_eq.mpr c52; clear c52; have H' := K0 H; clear H; go_wp2_with (first | (go_at_call 37; (with_reducible refine (rundleref18_Leads.calls k4 _ _ t327 a1 x19_4 t336 _ ?side1 ?side2 A42.out).mono ?_); (case side1 => repeat (first | exact (Kd.R_reads' HO_14.out).2.2 | (with_reducible refine Kd.C_alloc ?_ _) | (with_reducible refine Kd.C_drewN ?_ _) | (with_reducible refine Kd.C_drew ?_))); (case side2 => exact (Kd.R_reads' HO_14.out).2.1); rintro e w' ⟨rfl, ⟨nd, rfl⟩⟩; (try first | exact ⟨rfl, _, World.drewN_drewN _ _ _⟩ | exact ⟨rfl, _, Eq.trans (World.drewN_drewN _ _ _) (congrArg (World.drewN _) (Nat.add_assoc _ _ _))⟩); have p340 : 0 ≤ (x19_4 : Int) := oT (by first | (with_reducible assumption) | assumption); have q340 : x19_4 < (t333.length : Int) := oT (by first | (with_reducible assumption) | assumption); obtain ⟨ad340, e340, hx340_0⟩ := Kd.at_int (Kd.R_reads' HO_18.out).2.2 x19_4 p340 q340; cases e340; replace p340 := eq_true p340; replace q340 := eq_true q340) | (go_at_call 41; (with_reducible refine (tag_Word.calls 0 (wrap64 (Int.tmod a4 1073741825)) t341 _ A51.out).mono ?_); rintro e w' ⟨rfl, ⟨nd, rfl⟩⟩; (try first | exact ⟨rfl, _, World.drewN_drewN _ _ _⟩ | exact ⟨rfl, _, Eq.trans (World.drewN_drewN _ _ _) (congrArg (World.drewN _) (Nat.add_assoc _ _ _))⟩)))
                repeat (go_quiet (first | (go_at_call 37; (with_reducible refine (rundleref18_Leads.calls k4 _ _ t327 a1 x19_4 t336 _ ?side1 ?side2 A42.out).mono ?_); (case side1 => repeat (first | exact (Kd.R_reads' HO_14.out).2.2 | (with_reducible refine Kd.C_alloc ?_ _) | (with_reducible refine Kd.C_drewN ?_ _) | (with_reducible refine Kd.C_drew ?_))); (case side2 => exact (Kd.R_reads' HO_14.out).2.1); rintro e w' ⟨rfl, ⟨nd, rfl⟩⟩; (try first | exact ⟨rfl, _, World.drewN_drewN _ _ _⟩ | exact ⟨rfl, _, Eq.trans (World.drewN_drewN _ _ _) (congrArg (World.drewN _) (Nat.add_assoc _ _ _))⟩); have p340 : 0 ≤ (x19_4 : Int) := oT (by first | (with_reducible assumption) | assumption); have q340 : x19_4 < (t333.length : Int) := oT (by first | (with_reducible assumption) | assumption); obtain ⟨ad340, e340, hx340_0⟩ := Kd.at_int (Kd.R_reads' HO_18.out).2.2 x19_4 p340 q340; cases e340; replace p340 := eq_true p340; replace q340 := eq_true q340) | (go_at_call 41; (with_reducible refine (tag_Word.calls 0 (wrap64 (Int.tmod a4 1073741825)) t341 _ A51.out).mono ?_); rintro e w' ⟨rfl, ⟨nd, rfl⟩⟩; (try first | exact ⟨rfl, _, World.drewN_drewN _ _ _⟩ | exact ⟨rfl, _, Eq.trans (World.drewN_drewN _ _ _) (congrArg (World.drewN _) (Nat.add_assoc _ _ _))⟩))); try go_wp2_with (first | (go_at_call 37; (with_reducible refine (rundleref18_Leads.calls k4 _ _ t327 a1 x19_4 t336 _ ?side1 ?side2 A42.out).mono ?_); (case side1 => repeat (first | exact (Kd.R_reads' HO_14.out).2.2 | (with_reducible refine Kd.C_alloc ?_ _) | (with_reducible refine Kd.C_drewN ?_ _) | (with_reducible refine Kd.C_drew ?_))); (case side2 => exact (Kd.R_reads' HO_14.out).2.1); rintro e w' ⟨rfl, ⟨nd, rfl⟩⟩; (try first | exact ⟨rfl, _, World.drewN_drewN _ _ _⟩ | exact ⟨rfl, _, Eq.trans (World.drewN_drewN _ _ _) (congrArg (World.drewN _) (Nat.add_assoc _ _ _))⟩); have p340 : 0 ≤ (x19_4 : Int) := oT (by first | (with_reducible assumption) | assumption); have q340 : x19_4 < (t333.length : Int) := oT (by first | (with_reducible assumption) | assumption); obtain ⟨ad340, e340, hx340_0⟩ := Kd.at_int (Kd.R_reads' HO_18.out).2.2 x19_4 p340 q340; cases e340; replace p340 := eq_true p340; replace q340 := eq_true q340) | (go_at_call 41; (with_reducible refine (tag_Word.calls 0 (wrap64 (Int.tmod a4 1073741825)) t341 _ A51.out).mono ?_); rintro e w' ⟨rfl, ⟨nd, rfl⟩⟩; (try first | exact ⟨rfl, _, World.drewN_drewN _ _ _⟩ | exact ⟨rfl, _, Eq.trans (World.drewN_drewN _ _ _) (congrArg (World.drewN _) (Nat.add_assoc _ _ _))⟩))))
                go_roundg k4
                case measure => have := HJ5.out; have := HJ20.out; have := HJ31.out; have := HK4.out; omega
                case rel => exact ⟨(wrap64 (x19_4 + 1)), (by first | rfl | (simp; done) | (simp [*]; done)), H', ⟨by have := HJ5.out; have := HJ20.out; have := HJ31.out; have := HK4.out; omega⟩, ⟨by (with_reducible repeat (first | apply rA | apply rN | apply rD)); exact HO_14.out⟩, ⟨by (with_reducible repeat (first | apply rA | apply rN | apply rD)); exact HO_18.out⟩, ⟨by repeat (first | (with_reducible first | exact HB.out | apply wA | apply wN | apply wD) | exact HB.out)⟩⟩
               rw [if_neg c52] at H; have c52b0 : ((rd t333 x19_4) == t341) = false := beq_eq_false_iff_ne.mpr c52; have c52b1 : ((rd t333 x19_4) != t341) = true := bne_iff_ne.mpr c52; exact absurd (H.trans (congrArg some HRT.out)) (by simp)
              rw [if_neg c50] at H; exact absurd H (by simp)
             rw [if_neg c49] at H; exact absurd H (by simp)
            rw [if_neg c41] at H; have c41b0 : decide (x19_4 < a3) = false := dF c41; clear c41; obtain rfl := Option.some.inj H; go_wp2
            repeat (go_quiet (fail); try go_wp2)
            go_ret; exact ⟨by first | rfl | (simp [errW_none, errW_some] <;> rfl) | (simp [*, errW_none, errW_some] <;> rfl), by repeat (first | (with_reducible first | exact HB.out | apply wA | apply wN | apply wD) | exact HB.out)⟩
         rw [if_neg c39] at H; have c39b0 : ((t333.length : Int) == a3) = false := beq_eq_false_iff_ne.mpr c39; have c39b1 : ((t333.length : Int) != a3) = true := bne_iff_ne.mpr c39; exact absurd (H.trans (congrArg some HRT.out)) (by simp)
      rw [if_neg c30] at H; have c30b0 : (t332 == x15_20) = false := beq_eq_false_iff_ne.mpr c30; have c30b1 : (t332 != x15_20) = true := bne_iff_ne.mpr c30; exact absurd (H.trans (congrArg some HRT.out)) (by simp)
   replace c17 := Bool.eq_false_iff.mpr c17; subst c17; have H1 : (some false) = some r := by rw [if_neg (show ¬ (false = true) by decide)] at H; exact H
   clear H; have H := H1; clear H1; exact absurd (H.trans (congrArg some HRT.out)) (by simp)
end Go.Proofs.Ytoaacdjcjicemaa.PPlanLeads
