-- written by a program of this session (the print, turned)
import Derived.Test.YtoaacdjcjicemaaPRevAppliesx0
import Derived.Test.YtoaacdjcjicemaaPRevAppliesx9
import Derived.Test.YtoaacdjcjicemaaWAl
namespace Go.Proofs.Ytoaacdjcjicemaa.PRevApplies
open Go.RowKit Go.Proofs.YtoaacdjcjicemaaW.PrintWords Go.Proofs.YtoaacdjcjicemaaW.PrintLast Go.Proofs.YtoaacdjcjicemaaW.PrintMore
attribute [local go_sem] cell_self cell_there leq_str geq_str gtr_str max2_str max2_int min2_int max_two min_two max_three min_three max_four min_four   -- for this text's walks alone
set_option linter.unusedVariables false
set_option linter.unusedSimpArgs false
abbrev q10_0 : Array Bool := #[false, false, false, false, false, false, false, false, false, false, false, false, false, false, false, false, false, false, false, false]
abbrev q10_1 : Array Bool := #[true, false, false, false, false, false, false, false, false, false, false, false, false, false, false, false, false, false, false, false]
abbrev q10_2 : Array Bool := #[true, true, false, false, false, false, false, false, false, false, false, false, false, false, false, false, false, false, false, false]
abbrev q10_3 : Array Bool := #[true, true, true, false, false, false, false, false, false, false, false, false, false, false, false, false, false, false, false, false]
abbrev q10_4 : Array Bool := #[true, true, true, true, false, false, false, false, false, false, false, false, false, false, false, false, false, false, false, false]
abbrev q10_5 : Array Bool := #[true, true, true, true, true, false, false, false, false, false, false, false, false, false, false, false, false, false, false, false]
abbrev q10_6 : Array Bool := #[true, true, true, true, true, false, true, false, false, false, false, false, false, false, false, false, false, false, false, false]
abbrev q10_7 : Array Bool := #[true, true, true, true, true, false, true, true, false, false, false, false, false, false, false, false, false, false, false, false]
abbrev q10_8 : Array Bool := #[true, true, true, true, true, false, true, true, true, false, false, false, false, false, false, false, false, false, false, false]
abbrev q10_9 : Array Bool := #[true, true, true, true, true, false, true, true, true, true, false, false, false, false, false, false, false, false, false, false]
abbrev q10_10 : Array Bool := #[true, true, true, true, true, false, true, true, true, true, false, true, false, false, false, false, false, false, false, false]
abbrev q10_11 : Array Bool := #[true, true, true, true, true, false, true, true, true, true, false, true, true, false, false, false, false, false, false, false]
abbrev q10_12 : Array Bool := #[true, true, true, true, true, false, true, true, true, true, false, true, true, true, false, false, false, false, false, false]
abbrev q10_13 : Array Bool := #[true, true, true, true, true, false, true, true, true, true, false, true, true, true, true, false, false, false, false, false]
abbrev q10_14 : Array Bool := #[true, true, true, true, true, true, true, true, true, true, false, true, true, true, true, false, false, false, false, false]
abbrev q10_15 : Array Bool := #[true, true, true, true, true, true, true, true, true, true, true, true, true, true, true, false, false, false, false, false]
abbrev q10_16 : Array Bool := #[true, true, true, true, true, true, true, true, true, true, true, true, true, true, true, true, false, false, false, false]
abbrev q10_17 : Array Bool := #[true, true, true, true, true, true, true, true, true, true, true, true, true, true, true, true, true, false, false, false]
abbrev q10_18 : Array Bool := #[true, true, true, true, true, true, true, true, true, true, true, true, true, true, true, true, true, true, false, false]
abbrev q10_19 : Array Bool := #[true, true, true, true, true, true, true, true, true, true, true, true, true, true, true, true, true, true, true, false]
abbrev q10_20 : Array Bool := #[true, true, true, true, true, true, true, true, true, true, true, true, true, true, true, true, true, true, true, true]
/-! ### rundlelaw08_made: function 15 -/
/-! ### rundlelaw04_Of: function 17 -/
def rundlelaw04_Of.f (a0_0 : ByteArray) (a0_1 : ByteArray) (a0_2 : Bool) : Option (ByteArray × ByteArray × Bool) := some (a0_0, a0_1, a0_2)
set_option maxHeartbeats 8000000 in
set_option maxRecDepth 100000 in
theorem rundlelaw04_Of.calls (a0_0 : ByteArray) (a0_1 : ByteArray) (a0_2 : Bool) (r1 : ByteArray) (r2 : ByteArray) (r3 : Bool) (w : World) (h : rundlelaw04_Of.f a0_0 a0_1 a0_2 = some (r1, r2, r3)) :
  Calls Try.prog 17 #[.agg #[.string a0_0, .string a0_1, .bool a0_2]] w fun e w' => e = .returned (.agg #[.string r1, .string r2, .bool r3]) ∧ Below w.heap.size w w' := by
 have hu23 := Try.underlying23
 have hu32 := Try.underlying32
 have HB := K0 (Below.refl w.heap.size w)
 have H : (some (a0_0, a0_1, a0_2)) = some (r1, r2, r3) := h
 clear h
 simp only [Option.some.injEq, Prod.mk.injEq] at H
 obtain ⟨rfl, rfl, rfl⟩ := H
 go_enter Try.func17, Try.ntmps17
 go_wp2_with (first | ((with_reducible refine gate_dst (N := 1) rfl ?_); refine box_event ?hg (N := 1) ?hd (cs := #[.string a0_0, .string a0_1, .bool a0_2]) (t := 23) ?hr ?_; (case hd => rfl); (case hg => rfl); (case hr => first | (go_simp; done) | (go_simp; rfl)); intro gb305 hg w2 hbox hb; have n0_ := K0 (below_step (by repeat (first | (with_reducible first | exact HB.out | apply wA | apply wN | apply wD) | exact HB.out)) hb); have n1_ := K0 (hbox); have n2_ := K0 ((by rw [hg]; exact (below_size (by repeat (first | (with_reducible first | exact HB.out | apply wA | apply wN | apply wD) | exact HB.out))) : w.heap.size ≤ gb305)); have n3_ := K0 ((by rw [hg]; exact (below_size (by repeat (first | (with_reducible first | exact HB.out | apply wA | apply wN | apply wD) | exact HB.out))) : w.heap.size ≤ gb305)); clear HB; have HB := n0_; have BK305 := n1_; have GW305 := n2_; have GE305 := n3_; clear n0_ n1_ n2_ n3_; clear hb hbox hg) | ((with_reducible refine gate_dst (N := 2) rfl ?_); refine box_event ?hg (N := 2) ?hd (cs := #[.string (⟨#[]⟩ : ByteArray), .string (⟨#[]⟩ : ByteArray), .bool false]) (t := 32) ?hr ?_; (case hd => rfl); (case hg => rfl); (case hr => first | (go_simp; done) | (go_simp; rfl)); intro gb306 hg w3 hbox hb; have n0_ := K0 (bB (g := gb305) (o := .cells #[.string a0_0, .string a0_1, .bool a0_2] 23 (0, 0)) (by (with_reducible repeat (first | refine bN ?_ _ | refine bD ?_ | refine bA ?_ _)); exact BK305.out) hb); have n1_ := K0 (below_step (by repeat (first | (with_reducible first | exact HB.out | apply wA | apply wN | apply wD | refine wS ?_ GE305.out) | exact HB.out)) hb); have n2_ := K0 (hbox); have n3_ := K0 ((by rw [hg]; exact (below_size (by repeat (first | (with_reducible first | exact HB.out | apply wA | apply wN | apply wD | refine wS ?_ GE305.out) | exact HB.out))) : w.heap.size ≤ gb306)); have n4_ := K0 ((by rw [hg]; exact (below_size (by repeat (first | (with_reducible first | exact HB.out | apply wA | apply wN | apply wD | refine wS ?_ GE305.out) | exact HB.out))) : w.heap.size ≤ gb306)); have n5_ := K0 ((by rw [hg]; exact Nat.ne_of_lt (blk_lt (g := gb305) (o := .cells #[.string a0_0, .string a0_1, .bool a0_2] 23 (0, 0)) (by (with_reducible repeat (first | refine bN ?_ _ | refine bD ?_ | refine bA ?_ _)); exact BK305.out)) : gb305 ≠ gb306)); have n6_ := K0 ((by rw [hg]; exact Nat.ne_of_gt (blk_lt (g := gb305) (o := .cells #[.string a0_0, .string a0_1, .bool a0_2] 23 (0, 0)) (by (with_reducible repeat (first | refine bN ?_ _ | refine bD ?_ | refine bA ?_ _)); exact BK305.out)) : gb306 ≠ gb305)); clear BK305; clear HB; have BK305 := n0_; have HB := n1_; have BK306 := n2_; have GW306 := n3_; have GE306 := n4_; have NB305_306 := n5_; have NB306_305 := n6_; clear n0_ n1_ n2_ n3_ n4_ n5_ n6_; clear hb hbox hg; have hnb4 := NB305_306.out; have hnc4 := NB306_305.out; have hcz5_0 : w3.cell? ⟨gb305, 0, none⟩ = some (.string a0_0) := (bC BK305.out 0).trans rfl; have hcz5_1 : w3.cell? ⟨gb305, 1, none⟩ = some (.string a0_1) := (bC BK305.out 1).trans rfl; have hcz5_2 : w3.cell? ⟨gb305, 2, none⟩ = some (.bool a0_2) := (bC BK305.out 2).trans rfl; have hfz5_0 := bF BK305.out 0; have hfz5_1 := bF BK305.out 1; have hfz5_2 := bF BK305.out 2; have hcz6_0 : w3.cell? ⟨gb306, 0, none⟩ = some (.string (⟨#[]⟩ : ByteArray)) := (bC BK306.out 0).trans rfl; have hcz6_1 : w3.cell? ⟨gb306, 1, none⟩ = some (.string (⟨#[]⟩ : ByteArray)) := (bC BK306.out 1).trans rfl; have hcz6_2 : w3.cell? ⟨gb306, 2, none⟩ = some (.bool false) := (bC BK306.out 2).trans rfl; have hfz6_0 := bF BK306.out 0; have hfz6_1 := bF BK306.out 1; have hfz6_2 := bF BK306.out 2))
 refine bodyPost_ret (results_cell_row rfl _ _ gb306 32 #[.string a0_0, .string a0_1, .bool a0_2] (0, 0) _ rfl (by (with_reducible repeat (first | refine bN ?_ _ | refine bD ?_ | refine bA ?_ _)); refine blk_put (cs := #[.string a0_0, .string a0_1, .bool false]) ?_ 2 _ rfl; (with_reducible repeat (first | refine bN ?_ _ | refine bD ?_ | refine bA ?_ _)); refine blk_put (cs := #[.string a0_0, .string (⟨#[]⟩ : ByteArray), .bool false]) ?_ 1 _ rfl; (with_reducible repeat (first | refine bN ?_ _ | refine bD ?_ | refine bA ?_ _)); refine blk_put (cs := #[.string (⟨#[]⟩ : ByteArray), .string (⟨#[]⟩ : ByteArray), .bool false]) ?_ 0 _ rfl; (with_reducible repeat (first | refine bN ?_ _ | refine bD ?_ | refine bA ?_ _)); exact BK306.out) Try.underlying32 rfl (by kernel_rfl)) rfl ?_
 exact ⟨by first | rfl | (simp [errW_none, errW_some] <;> rfl) | (simp [*, errW_none, errW_some] <;> rfl), by repeat (first | (with_reducible first | exact HB.out | apply wA | apply wN | apply wD | refine wS ?_ GE305.out | refine wS ?_ GE306.out) | exact HB.out)⟩
/-! ### rundlelaw08_Of: function 18 -/
def rundlelaw08_Of.l0 : Nat → List (S62) → List (S114) → Int → Option ((List (S114)))
 | 0, _, _, _ => none
 | k + 1, x0, x3, x4 => if x4 < (x0.length : Int) then (if 0 ≤ x4 then (if x3.length < 3518437208883 then (rundlelaw08_Of.l0 k x0 (x3 ++ [(⟨(rd_T62 x0 x4).f0, (rd_T62 x0 x4).f1, (rd_T62 x0 x4).f2⟩ : S114)]) (wrap64 (x4 + 1))) else (none)) else (none)) else (some x3)
def rundlelaw08_Of.f (k : Nat) (l0 : List (S62)) : Option ((List (S114))) := rundlelaw08_Of.l0 k l0 ([] : List (S114)) 0
def rundlelaw08_Of.T5 : Bool × List (List Nat × List Nat) := (true, [([], []), ([], []), ([], []), ([1, 2], [1, 2]), ([3], [3]), ([4], [4]), ([], []), ([], []), ([6, 7], [6, 7]), ([8], [8]), ([9], [9]), ([], []), ([], []), ([11, 12], [11, 12]), ([13], [13]), ([14], [14]), ([5, 10, 15], [5, 10, 15]), ([16], [16]), ([0, 17], [0, 17]), ([18, 18, 0, 1, 2, 3, 4, 5, 6, 7, 8, 9, 10, 11, 12, 13, 14, 15, 16, 17, 18], [0, 18])])
def rundlelaw08_Of.B5 : List Nat := [0, 0, 0, 6, 14, 30, 0, 0, 192, 448, 960, 0, 0, 6144, 14336, 30720, 65534, 131070, 262143, 524287]
theorem rundlelaw08_Of.tab5 : rtab .any (opsOf Try.f18 5) = rundlelaw08_Of.T5 := by kernel_rfl
theorem rundlelaw08_Of.bits5 : waitsOk rundlelaw08_Of.T5.2 rundlelaw08_Of.B5 = true := by kernel_rfl
set_option maxHeartbeats 8000000 in
set_option maxRecDepth 100000 in
theorem rundlelaw08_Of.calls (k : Nat) (A0 : Option Addr) (c0 : Nat) (l0 : List (S62)) (r : List (S114)) (w : World) (hr0 : Kd.C k62 w A0 l0.length l0) (hc0 : l0.length ≤ c0) (h : rundlelaw08_Of.f k l0 = some r) :
  Calls Try.prog 18 #[.slice A0 l0.length c0] w fun e w' => ∃ v0_ : Value, e = .returned (v0_) ∧ Kd.R k114 114 w' w.heap.size (fun _ => True) v0_ r ∧ Below w.heap.size w w' := by
 have hu114 := Try.underlying114
 have HR0 := K0 hr0
 have HC0 := K0 hc0
 clear hr0 hc0
 have HB := K0 (Below.refl w.heap.size w)
 have H : (rundlelaw08_Of.l0 k l0 ([] : List (S114)) 0) = some r := h
 clear h
 have H' := K0 H
 clear H
 go_enter Try.func18, Try.ntmps18
 go_wp2
 go_loopg [3, 4] k (fun kq v3 v4 w' => ∃ (x3_1 : List (S114)) (x4_1 : Int), v4 = .int .i64 x4_1 ∧ Aside0 (rundlelaw08_Of.l0 kq l0 x3_1 x4_1 = some r) ∧ Aside0 (kq ≤ k) ∧ Aside0 (Kd.R k114 114 w' w.heap.size (fun _ => True) v3 x3_1) ∧ Aside0 (Below w.heap.size w w'))
 case atStart => exact ⟨(([] : List (S114))), (0), (by first | rfl | (simp; done) | (simp [*]; done)), H', ⟨Nat.le_refl _⟩, ⟨by first | exact Kd.R_nil _ _ _ _ _ | exact Kd.N_nil _ _ _ _ _ | exact Kd.V_nil _ _ _ _ _ | exact Kd.Q_nil _ _ _ _ _ | exact Kd.S_nil _ _ _ _ _⟩, ⟨by repeat (first | (with_reducible first | exact HB.out | apply wA | apply wN | apply wD) | exact HB.out)⟩⟩
 case round =>
  clear H'
  try clear c1
  obtain ⟨x3_1, x4_1, rfl, HA, HK1, HO_3, HB⟩ := hrel
  cases gk with
  | zero => exact absurd HA.out (by simp [rundlelaw08_Of.l0])
  | succ k1 =>
   have H := HA.out; clear HA; simp only [rundlelaw08_Of.l0] at H; by_cases c2 : x4_1 < (l0.length : Int)
   ·
    rw [if_pos c2] at H; have c2b0 : decide (x4_1 < (l0.length : Int)) = true := dT c2; clear c2; by_cases c3 : 0 ≤ x4_1
    ·
     rw [if_pos c3] at H; have c3b0 : decide (0 ≤ x4_1) = true := dT c3; clear c3; by_cases c4 : x3_1.length < 3518437208883
     ·
      rw [if_pos c4] at H; have LMc4 := K0 c4; clear c4; obtain ⟨y310, hy310⟩ : ∃ y_ : List (S114), y_ = (x3_1 ++ [(⟨(rd_T62 l0 x4_1).f0, (rd_T62 l0 x4_1).f1, (rd_T62 l0 x4_1).f2⟩ : S114)]) := ⟨_, rfl⟩; replace H : (rundlelaw08_Of.l0 k1 l0 y310 (wrap64 (x4_1 + 1))) = some r := by first | (rw [hy310]; with_reducible exact H) | (have H2_ := (Option.bind_some _ _).symm.trans H; rw [hy310]; with_reducible exact H2_) | (have H2_ := (Option.bind_some _ _).symm.trans H; with_reducible exact H2_) | with_reducible exact H | (rw [hy310]; exact H) | exact H
      have Ny310 := K0 hy310; clear hy310; have H' := K0 H; clear H; try go_wp2
      have n0_ := K0 (rD HO_3.out); have n1_ := K0 (wD HB.out); clear HO_3 HB; have HO_3 := n0_; have HB := n1_; clear n0_ n1_; have p307 : 0 ≤ (x4_1 : Int) := oT (by first | (with_reducible assumption) | assumption); have q307 : x4_1 < (l0.length : Int) := oT (by first | (with_reducible assumption) | assumption); obtain ⟨ad307, e307, hx307_0, hx307_1, hx307_2⟩ := at_T62 HR0.out x4_1 p307 q307; have hw307_2 := hx307_2; have hw307_1 := hx307_1; have hw307_0 := hx307_0
      cases e307; replace hx307_0 := (HB.out.cell (bL w _ hx307_0)).trans hx307_0; replace hx307_1 := (HB.out.cell (bL w _ hx307_1)).trans hx307_1; replace hx307_2 := (HB.out.cell (bL w _ hx307_2)).trans hx307_2; replace p307 := eq_true p307; replace q307 := eq_true q307; have p308 : 0 ≤ (x4_1 : Int) := oT (by first | (with_reducible assumption) | assumption); have q308 : x4_1 < (l0.length : Int) := oT (by first | (with_reducible assumption) | assumption); obtain ⟨ad308, e308, hx308_0, hx308_1, hx308_2⟩ := at_T62 HR0.out x4_1 p308 q308; have hw308_2 := hx308_2; have hw308_1 := hx308_1; have hw308_0 := hx308_0; obtain rfl : ad307 = ad308 := (by injection e308); replace hx308_0 := (HB.out.cell (bL w _ hx308_0)).trans hx308_0; replace hx308_1 := (HB.out.cell (bL w _ hx308_1)).trans hx308_1; replace hx308_2 := (HB.out.cell (bL w _ hx308_2)).trans hx308_2; replace p308 := eq_true p308; replace q308 := eq_true q308; have p309 : 0 ≤ (x4_1 : Int) := oT (by first | (with_reducible assumption) | assumption); have q309 : x4_1 < (l0.length : Int) := oT (by first | (with_reducible assumption) | assumption); obtain ⟨ad309, e309, hx309_0, hx309_1, hx309_2⟩ := at_T62 HR0.out x4_1 p309 q309; have hw309_2 := hx309_2; have hw309_1 := hx309_1; have hw309_0 := hx309_0; obtain rfl : ad307 = ad309 := (by injection e309); replace hx309_0 := (HB.out.cell (bL w _ hx309_0)).trans hx309_0; replace hx309_1 := (HB.out.cell (bL w _ hx309_1)).trans hx309_1; replace hx309_2 := (HB.out.cell (bL w _ hx309_2)).trans hx309_2; replace p309 := eq_true p309; replace q309 := eq_true q309; refine start_ (n := 20) (S := fun w' => w'.cell? (ad307.add ((x4_1).toNat * 3)) = some (.string ((rd_T62 l0 x4_1).f0)) ∧ w'.cell? ⟨(ad307.add ((x4_1).toNat * 3)).block, (ad307.add ((x4_1).toNat * 3)).off + 1, none⟩ = some (.string ((rd_T62 l0 x4_1).f1)) ∧ w'.cell? ⟨(ad307.add ((x4_1).toNat * 3)).block, (ad307.add ((x4_1).toNat * 3)).off + 2, none⟩ = some (.bool ((rd_T62 l0 x4_1).f2)) ∧ w'.cell? (ad307.add ((x4_1).toNat * 3)) = some (.string ((rd_T62 l0 x4_1).f0)) ∧ w'.cell? ⟨(ad307.add ((x4_1).toNat * 3)).block, (ad307.add ((x4_1).toNat * 3)).off + 1, none⟩ = some (.string ((rd_T62 l0 x4_1).f1)) ∧ w'.cell? ⟨(ad307.add ((x4_1).toNat * 3)).block, (ad307.add ((x4_1).toNat * 3)).off + 2, none⟩ = some (.bool ((rd_T62 l0 x4_1).f2)) ∧ w'.cell? (ad307.add ((x4_1).toNat * 3)) = some (.string ((rd_T62 l0 x4_1).f0)) ∧ w'.cell? ⟨(ad307.add ((x4_1).toNat * 3)).block, (ad307.add ((x4_1).toNat * 3)).off + 1, none⟩ = some (.string ((rd_T62 l0 x4_1).f1)) ∧ w'.cell? ⟨(ad307.add ((x4_1).toNat * 3)).block, (ad307.add ((x4_1).toNat * 3)).off + 2, none⟩ = some (.bool ((rd_T62 l0 x4_1).f2))) (ds := []) q10_0 (by kernel_rfl) rfl rfl ⟨((HB.out.cell (bL w _ hw307_0)).trans hw307_0), ((HB.out.cell (bL w _ hw307_1)).trans hw307_1), ((HB.out.cell (bL w _ hw307_2)).trans hw307_2), ((HB.out.cell (bL w _ hw308_0)).trans hw308_0), ((HB.out.cell (bL w _ hw308_1)).trans hw308_1), ((HB.out.cell (bL w _ hw308_2)).trans hw308_2), ((HB.out.cell (bL w _ hw309_0)).trans hw309_0), ((HB.out.cell (bL w _ hw309_1)).trans hw309_1), ((HB.out.cell (bL w _ hw309_2)).trans hw309_2)⟩ (fun hHeld => ?_); refine with_tabW rundlelaw08_Of.tab5 rundlelaw08_Of.bits5 (fun HT_ HW_ => ?_)
      generalize wr.drew = w5 at HO_3 HB hx307_0 hx307_1 hx307_2 hx308_0 hx308_1 hx308_2 hx309_0 hx309_1 hx309_2 hHeld ⊢; refine pure_ (i := 0) (N := some 11) (v := ?_) (a' := ?_) q10_1 rfl rfl (any_of HT_.out (by kernel_rfl)) (fun _ _ _ h => h) (Or.inl ⟨by rfl, ?_⟩) ?_ ?_; rotate_left
      · intro w'; go_simp; with_reducible rfl
      rotate_left
      · simp only [Act.put, s1, s2, s3, i64_w, i32_w]; rfl
      refine pure_ (i := 1) (N := some 12) (v := ?_) (a' := ?_) q10_2 rfl rfl (any_of HT_.out (by kernel_rfl)) (fun _ _ _ h => h) (Or.inl ⟨by rfl, ?_⟩) ?_ ?_; rotate_left
      · intro w'; go_simp; with_reducible rfl
      rotate_left
      · simp only [Act.put, s1, s2, s3, i64_w, i32_w]; rfl
      refine pure_ (i := 2) (N := some 13) (v := ?_) (a' := ?_) q10_3 rfl rfl (any_of HT_.out (by kernel_rfl)) (fun _ _ _ h => h) (Or.inl ⟨by rfl, ?_⟩) ?_ ?_; rotate_left
      · intro w'; go_simp; with_reducible rfl
      rotate_left
      · simp only [Act.put, s1, s2, s3, i64_w, i32_w]; rfl
      refine pure_ (i := 3) (N := some 14) (v := ?_) (a' := ?_) q10_4 rfl rfl (any_of HT_.out (by kernel_rfl)) (fun _ _ _ h => h) (Or.inl ⟨by rfl, ?_⟩) ?_ ?_; rotate_left
      · intro w'; go_simp; with_reducible rfl
      rotate_left
      · simp only [Act.put, s1, s2, s3, i64_w, i32_w]; rfl
      refine pure_ (i := 4) (N := some 15) (v := ?_) (a' := ?_) q10_5 rfl rfl (any_of HT_.out (by kernel_rfl)) (fun _ _ _ h => h) (Or.inl ⟨by rfl, ?_⟩) ?_ ?_; rotate_left
      · intro w'; go_simp; with_reducible rfl
      rotate_left
      · simp only [Act.put, s1, s2, s3, i64_w, i32_w]; rfl
      refine pure_ (i := 6) (N := some 17) (v := ?_) (a' := ?_) q10_6 rfl rfl (any_of HT_.out (by kernel_rfl)) (fun _ _ _ h => h) (Or.inl ⟨by rfl, ?_⟩) ?_ ?_; rotate_left
      · intro w'; go_simp; with_reducible rfl
      rotate_left
      · simp only [Act.put, s1, s2, s3, i64_w, i32_w]; rfl
      refine pure_ (i := 7) (N := some 18) (v := ?_) (a' := ?_) q10_7 rfl rfl (any_of HT_.out (by kernel_rfl)) (fun _ _ _ h => h) (Or.inl ⟨by rfl, ?_⟩) ?_ ?_; rotate_left
      · intro w'; go_simp; with_reducible rfl
      rotate_left
      · simp only [Act.put, s1, s2, s3, i64_w, i32_w]; rfl
      refine pure_ (i := 8) (N := some 19) (v := ?_) (a' := ?_) q10_8 rfl rfl (any_of HT_.out (by kernel_rfl)) (fun _ _ _ h => h) (Or.inl ⟨by rfl, ?_⟩) ?_ ?_; rotate_left
      · intro w'; go_simp; with_reducible rfl
      rotate_left
      · simp only [Act.put, s1, s2, s3, i64_w, i32_w]; rfl
      refine pure_ (i := 9) (N := some 20) (v := ?_) (a' := ?_) q10_9 rfl rfl (any_of HT_.out (by kernel_rfl)) (fun _ _ _ h => h) (Or.inl ⟨by rfl, ?_⟩) ?_ ?_; rotate_left
      · intro w'; go_simp; with_reducible rfl
      rotate_left
      · simp only [Act.put, s1, s2, s3, i64_w, i32_w]; rfl
      refine pure_ (i := 11) (N := some 22) (v := ?_) (a' := ?_) q10_10 rfl rfl (any_of HT_.out (by kernel_rfl)) (fun _ _ _ h => h) (Or.inl ⟨by rfl, ?_⟩) ?_ ?_; rotate_left
      · intro w'; go_simp; with_reducible rfl
      rotate_left
      · simp only [Act.put, s1, s2, s3, i64_w, i32_w]; rfl
      refine pure_ (i := 12) (N := some 23) (v := ?_) (a' := ?_) q10_11 rfl rfl (any_of HT_.out (by kernel_rfl)) (fun _ _ _ h => h) (Or.inl ⟨by rfl, ?_⟩) ?_ ?_; rotate_left
      · intro w'; go_simp; with_reducible rfl
      rotate_left
      · simp only [Act.put, s1, s2, s3, i64_w, i32_w]; rfl
      refine pure_ (i := 13) (N := some 24) (v := ?_) (a' := ?_) q10_12 rfl rfl (any_of HT_.out (by kernel_rfl)) (fun _ _ _ h => h) (Or.inl ⟨by rfl, ?_⟩) ?_ ?_; rotate_left
      · intro w'; go_simp; with_reducible rfl
      rotate_left
      · simp only [Act.put, s1, s2, s3, i64_w, i32_w]; rfl
      refine pure_ (i := 14) (N := some 25) (v := ?_) (a' := ?_) q10_13 rfl rfl (any_of HT_.out (by kernel_rfl)) (fun _ _ _ h => h) (Or.inl ⟨by rfl, ?_⟩) ?_ ?_; rotate_left
      · intro w'; go_simp; with_reducible rfl
      rotate_left
      · simp only [Act.put, s1, s2, s3, i64_w, i32_w]; rfl
      refine take_ (i := 5) (N := some 16) (v := ?_) (a' := ?_) q10_14 rfl rfl (take_ofW HT_.out HW_.out (by kernel_rfl)) (fun _ _ _ h => h) (Or.inl ⟨by rfl, ?_⟩) hHeld ?_ ?_; rotate_left
      · rintro w' ⟨s0, s1, s2, s3, s4, s5, s6, s7, s8⟩; go_simp; with_reducible rfl
      rotate_left
      · simp only [Act.put, s1, s2, s3, i64_w, i32_w]; rfl
      refine take_ (i := 10) (N := some 21) (v := ?_) (a' := ?_) q10_15 rfl rfl (take_ofW HT_.out HW_.out (by kernel_rfl)) (fun _ _ _ h => h) (Or.inl ⟨by rfl, ?_⟩) hHeld ?_ ?_; rotate_left
      · rintro w' ⟨s0, s1, s2, s3, s4, s5, s6, s7, s8⟩; go_simp; with_reducible rfl
      rotate_left
      · simp only [Act.put, s1, s2, s3, i64_w, i32_w]; rfl
      refine take_ (i := 15) (N := some 26) (v := ?_) (a' := ?_) q10_16 rfl rfl (take_ofW HT_.out HW_.out (by kernel_rfl)) (fun _ _ _ h => h) (Or.inl ⟨by rfl, ?_⟩) hHeld ?_ ?_; rotate_left
      · rintro w' ⟨s0, s1, s2, s3, s4, s5, s6, s7, s8⟩; go_simp; with_reducible rfl
      rotate_left
      · simp only [Act.put, s1, s2, s3, i64_w, i32_w]; rfl
      refine pure_ (i := 16) (N := some 27) (v := ?_) (a' := ?_) q10_17 rfl rfl (any_of HT_.out (by kernel_rfl)) (fun _ _ _ h => h) (Or.inl ⟨by rfl, ?_⟩) ?_ ?_; rotate_left
      · intro w'; go_simp; with_reducible rfl
      rotate_left
      · simp only [Act.put, s1, s2, s3, i64_w, i32_w]; rfl
      refine one_ (i := 17) (N := some 28) q10_18 rfl rfl (one_of HT_.out (by kernel_rfl)) (by decide) (fun K hK => ?_); refine value_ (w1 := ?_) (v := ?_) (by rfl) rfl ?_ ?_; rotate_left 2
      ·
       go_simp; constructor
       · rfl
       rfl
      refine hK.out _ _ ⟨(World.cell?_alloc_lt _ _ _ (bL _ _ (((HB.out.cell (bL w _ hw307_0)).trans hw307_0)))).trans (((HB.out.cell (bL w _ hw307_0)).trans hw307_0)), (World.cell?_alloc_lt _ _ _ (bL _ _ (((HB.out.cell (bL w _ hw307_1)).trans hw307_1)))).trans (((HB.out.cell (bL w _ hw307_1)).trans hw307_1)), (World.cell?_alloc_lt _ _ _ (bL _ _ (((HB.out.cell (bL w _ hw307_2)).trans hw307_2)))).trans (((HB.out.cell (bL w _ hw307_2)).trans hw307_2)), (World.cell?_alloc_lt _ _ _ (bL _ _ (((HB.out.cell (bL w _ hw308_0)).trans hw308_0)))).trans (((HB.out.cell (bL w _ hw308_0)).trans hw308_0)), (World.cell?_alloc_lt _ _ _ (bL _ _ (((HB.out.cell (bL w _ hw308_1)).trans hw308_1)))).trans (((HB.out.cell (bL w _ hw308_1)).trans hw308_1)), (World.cell?_alloc_lt _ _ _ (bL _ _ (((HB.out.cell (bL w _ hw308_2)).trans hw308_2)))).trans (((HB.out.cell (bL w _ hw308_2)).trans hw308_2)), (World.cell?_alloc_lt _ _ _ (bL _ _ (((HB.out.cell (bL w _ hw309_0)).trans hw309_0)))).trans (((HB.out.cell (bL w _ hw309_0)).trans hw309_0)), (World.cell?_alloc_lt _ _ _ (bL _ _ (((HB.out.cell (bL w _ hw309_1)).trans hw309_1)))).trans (((HB.out.cell (bL w _ hw309_1)).trans hw309_1)), (World.cell?_alloc_lt _ _ _ (bL _ _ (((HB.out.cell (bL w _ hw309_2)).trans hw309_2)))).trans (((HB.out.cell (bL w _ hw309_2)).trans hw309_2))⟩ (fun hHeld => ?_); clear hK K; refine norm_ (a' := ?_) ?_ ?_; rotate_left
      · show Act.put _ (some 28) _ = _; simp only [Act.put, s1, s2, s3, i64_w, i32_w]; rfl
      refine one_ (i := 18) (N := some 29) q10_19 rfl rfl (one_of HT_.out (by kernel_rfl)) (by decide) (fun K hK => ?_); refine Kd.R_append_step k114 (w0 := w) w.heap.size (by rfl) (.tmp 11) (.tmp 28) 42 114 (.agg #[(.string ⟨#[]⟩), (.string ⟨#[]⟩), (.bool false)]) 40 rfl Try.underlying42 info114 rfl (by decide) (by omega) u3 x3_1 (⟨(rd_T62 l0 x4_1).f0, (rd_T62 l0 x4_1).f1, (rd_T62 l0 x4_1).f2⟩ : S114) [.string ((rd_T62 l0 x4_1).f0), .string ((rd_T62 l0 x4_1).f1), .bool ((rd_T62 l0 x4_1).f2)] (fun _ => True) (fun _ => False) rfl rfl ?aP (fun _ hk => hk.elim) ?aF ?aO ?aB ?aS ?aL ?_; (case aP => exact k114_mkM _ _ _ (⟨(rd_T62 l0 x4_1).f0, (rd_T62 l0 x4_1).f1, (rd_T62 l0 x4_1).f2⟩ : S114))
      (case aB => exact (by repeat (first | (with_reducible first | exact HB.out | apply wA | apply wN | apply wD) | exact HB.out)))
      (case aF => exact (fun _ _ => trivial))
      (case aO => exact (by (with_reducible repeat (first | apply rA | apply rN | apply rD)); exact HO_3.out))
      (case aS => exact (below_size (by repeat (first | (with_reducible first | exact HB.out | apply wA | apply wN | apply wD) | exact HB.out))))
      (case aL => have := LMc4.out; omega)
      intro v311 w6 ho hb hg hat; rw [← Ny310.out] at ho; have n0_ := K0 (hb); have n1_ := K0 (ho); clear HB HO_3; have HB := n0_; have HO312 := n1_; clear n0_ n1_ ho hb hg hat; refine hK.out _ _ ⟨((HB.out.cell (bL w _ hw307_0)).trans hw307_0), ((HB.out.cell (bL w _ hw307_1)).trans hw307_1), ((HB.out.cell (bL w _ hw307_2)).trans hw307_2), ((HB.out.cell (bL w _ hw308_0)).trans hw308_0), ((HB.out.cell (bL w _ hw308_1)).trans hw308_1), ((HB.out.cell (bL w _ hw308_2)).trans hw308_2), ((HB.out.cell (bL w _ hw309_0)).trans hw309_0), ((HB.out.cell (bL w _ hw309_1)).trans hw309_1), ((HB.out.cell (bL w _ hw309_2)).trans hw309_2)⟩ (fun hHeld => ?_); clear hK K; refine norm_ (a' := ?_) ?_ ?_; rotate_left
      · show Act.put _ (some 29) _ = _; simp only [Act.put, s1, s2, s3, i64_w, i32_w]; rfl
      refine pure_ (i := 19) (N := some 3) (v := ?_) (a' := ?_) q10_20 rfl rfl (any_of HT_.out (by kernel_rfl)) (fun _ _ _ h => h) (Or.inl ⟨by rfl, ?_⟩) ?_ ?_; rotate_left
      · intro w'; go_simp; with_reducible rfl
      rotate_left
      · simp only [Act.put, s1, s2, s3, i64_w, i32_w]; rfl
      refine done_ (done_of HT_.out (by kernel_rfl)) ?_; try go_wp2
      go_roundg k1
      case measure => have := HK1.out; omega
      case rel => exact ⟨(y310), (wrap64 (x4_1 + 1)), (by first | rfl | (simp; done) | (simp [*]; done)), H', ⟨by have := HK1.out; omega⟩, ⟨by (with_reducible repeat (first | apply rA | apply rN | apply rD)); exact HO312.out⟩, ⟨by repeat (first | (with_reducible first | exact HB.out | apply wA | apply wN | apply wD) | exact HB.out)⟩⟩
     rw [if_neg c4] at H; exact absurd H (by simp)
    rw [if_neg c3] at H; exact absurd H (by simp)
   rw [if_neg c2] at H; have c2b0 : decide (x4_1 < (l0.length : Int)) = false := dF c2; clear c2; obtain rfl := Option.some.inj H; go_wp2
   go_ret; exact ⟨_, by first | rfl | (simp [errW_none, errW_some] <;> rfl) | (simp [*, errW_none, errW_some] <;> rfl), by (with_reducible repeat (first | apply rA | apply rN | apply rD)); exact HO_3.out, by repeat (first | (with_reducible first | exact HB.out | apply wA | apply wN | apply wD) | exact HB.out)⟩
/-! ### rundlelaw04_Plain: function 60 -/
def rundlelaw04_Plain.f (a0_0 : ByteArray) (a0_1 : ByteArray) (a0_2 : Bool) : Option (ByteArray × ByteArray × Bool) := some (a0_0, a0_1, a0_2)
set_option maxHeartbeats 8000000 in
set_option maxRecDepth 100000 in
theorem rundlelaw04_Plain.calls (a0_0 : ByteArray) (a0_1 : ByteArray) (a0_2 : Bool) (r1 : ByteArray) (r2 : ByteArray) (r3 : Bool) (w : World) (h : rundlelaw04_Plain.f a0_0 a0_1 a0_2 = some (r1, r2, r3)) :
  Calls Try.prog 60 #[.agg #[.string a0_0, .string a0_1, .bool a0_2]] w fun e w' => e = .returned (.agg #[.string r1, .string r2, .bool r3]) ∧ Below w.heap.size w w' := by
 have hu32 := Try.underlying32
 have hu23 := Try.underlying23
 have HB := K0 (Below.refl w.heap.size w)
 have H : (some (a0_0, a0_1, a0_2)) = some (r1, r2, r3) := h
 clear h
 simp only [Option.some.injEq, Prod.mk.injEq] at H
 obtain ⟨rfl, rfl, rfl⟩ := H
 go_enter Try.func60, Try.ntmps60
 go_wp2_with (first | ((with_reducible refine gate_dst (N := 1) rfl ?_); refine box_event ?hg (N := 1) ?hd (cs := #[.string a0_0, .string a0_1, .bool a0_2]) (t := 32) ?hr ?_; (case hd => rfl); (case hg => rfl); (case hr => first | (go_simp; done) | (go_simp; rfl)); intro gb313 hg w2 hbox hb; have n0_ := K0 (below_step (by repeat (first | (with_reducible first | exact HB.out | apply wA | apply wN | apply wD) | exact HB.out)) hb); have n1_ := K0 (hbox); have n2_ := K0 ((by rw [hg]; exact (below_size (by repeat (first | (with_reducible first | exact HB.out | apply wA | apply wN | apply wD) | exact HB.out))) : w.heap.size ≤ gb313)); have n3_ := K0 ((by rw [hg]; exact (below_size (by repeat (first | (with_reducible first | exact HB.out | apply wA | apply wN | apply wD) | exact HB.out))) : w.heap.size ≤ gb313)); clear HB; have HB := n0_; have BK313 := n1_; have GW313 := n2_; have GE313 := n3_; clear n0_ n1_ n2_ n3_; clear hb hbox hg) | ((with_reducible refine gate_dst (N := 2) rfl ?_); refine box_event ?hg (N := 2) ?hd (cs := #[.string (⟨#[]⟩ : ByteArray), .string (⟨#[]⟩ : ByteArray), .bool false]) (t := 23) ?hr ?_; (case hd => rfl); (case hg => rfl); (case hr => first | (go_simp; done) | (go_simp; rfl)); intro gb314 hg w3 hbox hb; have n0_ := K0 (bB (g := gb313) (o := .cells #[.string a0_0, .string a0_1, .bool a0_2] 32 (0, 0)) (by (with_reducible repeat (first | refine bN ?_ _ | refine bD ?_ | refine bA ?_ _)); exact BK313.out) hb); have n1_ := K0 (below_step (by repeat (first | (with_reducible first | exact HB.out | apply wA | apply wN | apply wD | refine wS ?_ GE313.out) | exact HB.out)) hb); have n2_ := K0 (hbox); have n3_ := K0 ((by rw [hg]; exact (below_size (by repeat (first | (with_reducible first | exact HB.out | apply wA | apply wN | apply wD | refine wS ?_ GE313.out) | exact HB.out))) : w.heap.size ≤ gb314)); have n4_ := K0 ((by rw [hg]; exact (below_size (by repeat (first | (with_reducible first | exact HB.out | apply wA | apply wN | apply wD | refine wS ?_ GE313.out) | exact HB.out))) : w.heap.size ≤ gb314)); have n5_ := K0 ((by rw [hg]; exact Nat.ne_of_lt (blk_lt (g := gb313) (o := .cells #[.string a0_0, .string a0_1, .bool a0_2] 32 (0, 0)) (by (with_reducible repeat (first | refine bN ?_ _ | refine bD ?_ | refine bA ?_ _)); exact BK313.out)) : gb313 ≠ gb314)); have n6_ := K0 ((by rw [hg]; exact Nat.ne_of_gt (blk_lt (g := gb313) (o := .cells #[.string a0_0, .string a0_1, .bool a0_2] 32 (0, 0)) (by (with_reducible repeat (first | refine bN ?_ _ | refine bD ?_ | refine bA ?_ _)); exact BK313.out)) : gb314 ≠ gb313)); clear BK313; clear HB; have BK313 := n0_; have HB := n1_; have BK314 := n2_; have GW314 := n3_; have GE314 := n4_; have NB313_314 := n5_; have NB314_313 := n6_; clear n0_ n1_ n2_ n3_ n4_ n5_ n6_; clear hb hbox hg; have hnb4 := NB313_314.out; have hnc4 := NB314_313.out; have hcz5_0 : w3.cell? ⟨gb313, 0, none⟩ = some (.string a0_0) := (bC BK313.out 0).trans rfl; have hcz5_1 : w3.cell? ⟨gb313, 1, none⟩ = some (.string a0_1) := (bC BK313.out 1).trans rfl; have hcz5_2 : w3.cell? ⟨gb313, 2, none⟩ = some (.bool a0_2) := (bC BK313.out 2).trans rfl; have hfz5_0 := bF BK313.out 0; have hfz5_1 := bF BK313.out 1; have hfz5_2 := bF BK313.out 2; have hcz6_0 : w3.cell? ⟨gb314, 0, none⟩ = some (.string (⟨#[]⟩ : ByteArray)) := (bC BK314.out 0).trans rfl; have hcz6_1 : w3.cell? ⟨gb314, 1, none⟩ = some (.string (⟨#[]⟩ : ByteArray)) := (bC BK314.out 1).trans rfl; have hcz6_2 : w3.cell? ⟨gb314, 2, none⟩ = some (.bool false) := (bC BK314.out 2).trans rfl; have hfz6_0 := bF BK314.out 0; have hfz6_1 := bF BK314.out 1; have hfz6_2 := bF BK314.out 2))
 refine bodyPost_ret (results_cell_row rfl _ _ gb314 23 #[.string a0_0, .string a0_1, .bool a0_2] (0, 0) _ rfl (by (with_reducible repeat (first | refine bN ?_ _ | refine bD ?_ | refine bA ?_ _)); refine blk_put (cs := #[.string a0_0, .string a0_1, .bool false]) ?_ 2 _ rfl; (with_reducible repeat (first | refine bN ?_ _ | refine bD ?_ | refine bA ?_ _)); refine blk_put (cs := #[.string a0_0, .string (⟨#[]⟩ : ByteArray), .bool false]) ?_ 1 _ rfl; (with_reducible repeat (first | refine bN ?_ _ | refine bD ?_ | refine bA ?_ _)); refine blk_put (cs := #[.string (⟨#[]⟩ : ByteArray), .string (⟨#[]⟩ : ByteArray), .bool false]) ?_ 0 _ rfl; (with_reducible repeat (first | refine bN ?_ _ | refine bD ?_ | refine bA ?_ _)); exact BK314.out) Try.underlying23 rfl (by kernel_rfl)) rfl ?_
 exact ⟨by first | rfl | (simp [errW_none, errW_some] <;> rfl) | (simp [*, errW_none, errW_some] <;> rfl), by repeat (first | (with_reducible first | exact HB.out | apply wA | apply wN | apply wD | refine wS ?_ GE313.out | refine wS ?_ GE314.out) | exact HB.out)⟩
/-! ### rundlelaw06_Numbers: function 61 -/
def rundlelaw06_Numbers.l0 : Nat → List Int → List Int → Int → Option (Int)
 | 0, _, _, _ => none
 | k + 1, x0, x1, x5 => if x5 < (x0.length : Int) then (if 0 ≤ x5 then (if x5 < (x1.length : Int) then (if (rd x0 x5) = (rd x1 x5) then (rundlelaw06_Numbers.l0 k x0 x1 (wrap64 (x5 + 1))) else (some 0)) else (none)) else (none)) else (some 1)
def rundlelaw06_Numbers.f (k : Nat) (l0 : List Int) (l1 : List Int) : Option (Int) := if (l0.length : Int) = (l1.length : Int) then (rundlelaw06_Numbers.l0 k l0 l1 0) else (some 0)
set_option maxHeartbeats 8000000 in
set_option maxRecDepth 100000 in
theorem rundlelaw06_Numbers.calls (k : Nat) (A0 : Option Addr) (c0 : Nat) (l0 : List Int) (A1 : Option Addr) (c1 : Nat) (l1 : List Int) (r : Int) (w : World) (hr0 : Kd.C (Kd.int .i64) w A0 l0.length l0) (hc0 : l0.length ≤ c0) (hr1 : Kd.C (Kd.int .i64) w A1 l1.length l1) (hc1 : l1.length ≤ c1) (h : rundlelaw06_Numbers.f k l0 l1 = some r) :
  Calls Try.prog 61 #[.slice A0 l0.length c0, .slice A1 l1.length c1] w fun e w' => e = .returned (.int .i64 r) ∧ Drawn0 w w' := by
 have HR0 := K0 hr0
 have HC0 := K0 hc0
 clear hr0 hc0
 have HR1 := K0 hr1
 have HC1 := K0 hc1
 clear hr1 hc1
 have H : (if (l0.length : Int) = (l1.length : Int) then (rundlelaw06_Numbers.l0 k l0 l1 0) else (some 0)) = some r := h
 clear h
 by_cases c3 : (l0.length : Int) = (l1.length : Int)
 ·
  rw [if_pos c3] at H
  have c3b0 : ((l0.length : Int) == (l1.length : Int)) = true := beq_iff_eq.mpr c3
  have c3b1 : ((l0.length : Int) != (l1.length : Int)) = false := bne_eq_false_iff_eq.mpr c3
  have c3b2 : (l0.length == l1.length) = true := by first | simpa using c3 | (simp at c3 ⊢; omega)
  clear c3
  have H' := K0 H
  clear H
  go_enter Try.func61, Try.ntmps61
  go_wp2
  repeat (go_quiet (fail); try go_wp2)
  go_loopg [5] k (fun kq v5 w' => ∃ (x5_1 : Int), v5 = .int .i64 x5_1 ∧ Aside0 (rundlelaw06_Numbers.l0 kq l0 l1 x5_1 = some r) ∧ Aside0 (kq ≤ k) ∧ Drawn0 w w')
  case atStart => exact ⟨(0), (by first | rfl | (simp; done) | (simp [*]; done)), H', ⟨Nat.le_refl _⟩, by repeat (first | exact Drawn0.refl _ | apply Drawn0.step)⟩
  case round =>
   clear H'; try clear c1
   try clear p2
   try clear c3
   try clear c3b0
   try clear c3b1
   try clear c3b2
   obtain ⟨x5_1, rfl, HA, HK1, ⟨m1, rfl⟩⟩ := hrel
   cases gk with
   | zero => exact absurd HA.out (by simp [rundlelaw06_Numbers.l0])
   | succ k1 =>
    have H := HA.out; clear HA; simp only [rundlelaw06_Numbers.l0] at H; by_cases c4 : x5_1 < (l0.length : Int)
    ·
     rw [if_pos c4] at H; have c4b0 : decide (x5_1 < (l0.length : Int)) = true := dT c4; clear c4; by_cases c5 : 0 ≤ x5_1
     ·
      rw [if_pos c5] at H; have c5b0 : decide (0 ≤ x5_1) = true := dT c5; clear c5; by_cases c6 : x5_1 < (l1.length : Int)
      ·
       rw [if_pos c6] at H; have c6b0 : decide (x5_1 < (l1.length : Int)) = true := dT c6; clear c6; by_cases c7 : (rd l0 x5_1) = (rd l1 x5_1)
       ·
        rw [if_pos c7] at H; have c7b0 : ((rd l0 x5_1) == (rd l1 x5_1)) = true := beq_iff_eq.mpr c7; have c7b1 : ((rd l0 x5_1) != (rd l1 x5_1)) = false := bne_eq_false_iff_eq.mpr c7; clear c7; have H' := K0 H; clear H; have p315 : 0 ≤ (x5_1 : Int) := oT (by first | (with_reducible assumption) | assumption); have q315 : x5_1 < (l0.length : Int) := oT (by first | (with_reducible assumption) | assumption); obtain ⟨ad315, e315, hx315_0⟩ := Kd.at_int HR0.out x5_1 p315 q315
        cases e315; replace p315 := eq_true p315; replace q315 := eq_true q315; have p316 : 0 ≤ (x5_1 : Int) := oT (by first | (with_reducible assumption) | assumption); have q316 : x5_1 < (l1.length : Int) := oT (by first | (with_reducible assumption) | assumption); obtain ⟨ad316, e316, hx316_0⟩ := Kd.at_int HR1.out x5_1 p316 q316
        cases e316; replace p316 := eq_true p316; replace q316 := eq_true q316; go_wp2
        repeat (go_quiet (fail); try go_wp2)
        go_roundg k1
        case measure => have := HK1.out; omega
        case rel => exact ⟨(wrap64 (x5_1 + 1)), (by first | rfl | (simp; done) | (simp [*]; done)), H', ⟨by have := HK1.out; omega⟩, by repeat (first | exact Drawn0.refl _ | apply Drawn0.step)⟩
       rw [if_neg c7] at H; have c7b0 : ((rd l0 x5_1) == (rd l1 x5_1)) = false := beq_eq_false_iff_ne.mpr c7; have c7b1 : ((rd l0 x5_1) != (rd l1 x5_1)) = true := bne_iff_ne.mpr c7; obtain rfl := Option.some.inj H; have p315 : 0 ≤ (x5_1 : Int) := oT (by first | (with_reducible assumption) | assumption); have q315 : x5_1 < (l0.length : Int) := oT (by first | (with_reducible assumption) | assumption); obtain ⟨ad315, e315, hx315_0⟩ := Kd.at_int HR0.out x5_1 p315 q315
       cases e315; replace p315 := eq_true p315; replace q315 := eq_true q315; have p316 : 0 ≤ (x5_1 : Int) := oT (by first | (with_reducible assumption) | assumption); have q316 : x5_1 < (l1.length : Int) := oT (by first | (with_reducible assumption) | assumption); obtain ⟨ad316, e316, hx316_0⟩ := Kd.at_int HR1.out x5_1 p316 q316
       cases e316; replace p316 := eq_true p316; replace q316 := eq_true q316; go_wp2
       repeat (go_quiet (fail); try go_wp2)
       go_ret; exact ⟨by first | rfl | (simp; done) | (simp [*]; done), by repeat (first | exact Drawn0.refl _ | apply Drawn0.step)⟩
      rw [if_neg c6] at H; exact absurd H (by simp)
     rw [if_neg c5] at H; exact absurd H (by simp)
    rw [if_neg c4] at H; have c4b0 : decide (x5_1 < (l0.length : Int)) = false := dF c4; clear c4; obtain rfl := Option.some.inj H; go_wp2
    repeat (go_quiet (fail); try go_wp2)
    go_ret; exact ⟨by first | rfl | (simp; done) | (simp [*]; done), by repeat (first | exact Drawn0.refl _ | apply Drawn0.step)⟩
 rw [if_neg c3] at H
 have c3b0 : ((l0.length : Int) == (l1.length : Int)) = false := beq_eq_false_iff_ne.mpr c3
 have c3b1 : ((l0.length : Int) != (l1.length : Int)) = true := bne_iff_ne.mpr c3
 have c3b2 : (l0.length == l1.length) = false := by first | simpa using c3 | (simp at c3 ⊢; omega)
 obtain rfl := Option.some.inj H
 go_enter Try.func61, Try.ntmps61
 go_wp2
 repeat (go_quiet (fail); try go_wp2)
 go_ret
 exact ⟨by first | rfl | (simp; done) | (simp [*]; done), by repeat (first | exact Drawn0.refl _ | apply Drawn0.step)⟩
/-! ### rundleref06_Size: function 88 -/
def rundleref06_Size.l0 : Nat → Int → Int → Option (Int)
 | 0, _, _ => none
 | k + 1, x0, x3 => if x3 < (wrap64 (2 * x0)) then (rundleref06_Size.l0 k x0 (wrap64 (x3 * 2))) else (some x3)
def rundleref06_Size.f (k : Nat) (a0 : Int) : Option (Int) := rundleref06_Size.l0 k a0 2
set_option maxHeartbeats 8000000 in
set_option maxRecDepth 100000 in
theorem rundleref06_Size.calls (k : Nat) (a0 : Int) (r : Int) (w : World) (h : rundleref06_Size.f k a0 = some r) :
  Calls Try.prog 88 #[.int .i64 a0] w fun e w' => e = .returned (.int .i64 r) ∧ Drawn0 w w' := by
 have H : (rundleref06_Size.l0 k a0 2) = some r := h
 clear h
 have H' := K0 H
 clear H
 go_enter Try.func88, Try.ntmps88
 go_wp2
 go_loopg [3] k (fun kq v3 w' => ∃ (x3_1 : Int), v3 = .int .i64 x3_1 ∧ Aside0 (rundleref06_Size.l0 kq a0 x3_1 = some r) ∧ Aside0 (kq ≤ k) ∧ Drawn0 w w')
 case atStart => exact ⟨(2), (by first | rfl | (simp; done) | (simp [*]; done)), H', ⟨Nat.le_refl _⟩, by repeat (first | exact Drawn0.refl _ | apply Drawn0.step)⟩
 case round =>
  clear H'
  obtain ⟨x3_1, rfl, HA, HK1, ⟨m1, rfl⟩⟩ := hrel
  cases gk with
  | zero => exact absurd HA.out (by simp [rundleref06_Size.l0])
  | succ k1 =>
   have H := HA.out; clear HA; simp only [rundleref06_Size.l0] at H; by_cases c2 : x3_1 < (wrap64 (2 * a0))
   ·
    rw [if_pos c2] at H; have c2b0 : decide (x3_1 < (wrap64 (2 * a0))) = true := dT c2; clear c2; have H' := K0 H; clear H; go_wp2
    go_roundg k1
    case measure => have := HK1.out; omega
    case rel => exact ⟨(wrap64 (x3_1 * 2)), (by first | rfl | (simp; done) | (simp [*]; done)), H', ⟨by have := HK1.out; omega⟩, by repeat (first | exact Drawn0.refl _ | apply Drawn0.step)⟩
   rw [if_neg c2] at H; have c2b0 : decide (x3_1 < (wrap64 (2 * a0))) = false := dF c2; clear c2; obtain rfl := Option.some.inj H; go_wp2
   go_ret; exact ⟨by first | rfl | (simp; done) | (simp [*]; done), by repeat (first | exact Drawn0.refl _ | apply Drawn0.step)⟩
/-! ### rundleref05_turn: function 104 -/
def rundleref05_turn.f (a0 : Int) (a1 : Int) : Option (Int) := if a1 = 0 then (none) else (some (Go.bits .xor .u64 a0 (IntKind.u64.wrap (Int.tdiv a0 a1))))
set_option maxHeartbeats 8000000 in
set_option maxRecDepth 100000 in
theorem rundleref05_turn.calls (a0 : Int) (a1 : Int) (r : Int) (w : World) (h : rundleref05_turn.f a0 a1 = some r) :
  Calls Try.prog 104 #[.int .u64 a0, .int .u64 a1] w fun e w' => e = .returned (.int .u64 r) ∧ Drawn0 w w' := by
 have H : (if a1 = 0 then (none) else (some (Go.bits .xor .u64 a0 (IntKind.u64.wrap (Int.tdiv a0 a1))))) = some r := h
 clear h
 by_cases c3 : a1 = 0
 ·
  rw [if_pos c3] at H
  exact absurd H (by simp)
 rw [if_neg c3] at H
 have c3b0 : (a1 == 0) = false := beq_eq_false_iff_ne.mpr c3
 have c3b1 : (a1 != 0) = true := bne_iff_ne.mpr c3
 obtain rfl := Option.some.inj H
 go_enter Try.func104, Try.ntmps104
 go_wp2
 go_ret
 exact ⟨by first | rfl | (simp; done) | (simp [*]; done), by repeat (first | exact Drawn0.refl _ | apply Drawn0.step)⟩
/-! ### rundleref05_End: function 100 -/
def rundleref05_End.f (a0 : Int) : Option (Int) := (rundleref05_turn.f (Int.tmod (IntKind.u64.wrap ((IntKind.u64.wrap (a0)) * 9)) 4294967296) 2048).bind fun t317 => (some ((Int.tmod (IntKind.u64.wrap (t317 * 32769)) 4294967296) % 4294967296))
set_option maxHeartbeats 8000000 in
set_option maxRecDepth 100000 in
theorem rundleref05_End.calls (a0 : Int) (r : Int) (w : World) (h : rundleref05_End.f a0 = some r) :
  Calls Try.prog 100 #[.int .u32 a0] w fun e w' => e = .returned (.int .u32 r) ∧ Drawn0 w w' := by
 have H : ((rundleref05_turn.f (Int.tmod (IntKind.u64.wrap ((IntKind.u64.wrap (a0)) * 9)) 4294967296) 2048).bind fun t317 => (some ((Int.tmod (IntKind.u64.wrap (t317 * 32769)) 4294967296) % 4294967296))) = some r := h
 clear h
 replace H := Option.bind_eq_some_iff.mp H
 obtain ⟨t317, A20, H⟩ := H
 replace H : (some ((Int.tmod (IntKind.u64.wrap (t317 * 32769)) 4294967296) % 4294967296)) = some r := H
 have A2 := K0 A20
 clear A20
 obtain rfl := Option.some.inj H
 go_enter Try.func100, Try.ntmps100
 go_wp2_with (first | ((with_reducible refine gate_callee (f := 104) rfl ?_); refine goesL_ (some 9) rfl rfl Try.func104 (by kernel_rfl) rfl #[.int .u64 (Int.tmod (IntKind.u64.wrap ((IntKind.u64.wrap (a0)) * 9)) 4294967296), .int .u64 2048] rfl (by (try simp only [List.map_toArray, List.map_cons, List.map_nil]); first | done | rfl | (simp only [lD, lT]; rfl)) ?_; (with_reducible refine (rundleref05_turn.calls (Int.tmod (IntKind.u64.wrap ((IntKind.u64.wrap (a0)) * 9)) 4294967296) 2048 t317 _ A2.out).mono ?_); rintro e w' ⟨rfl, ⟨nd, rfl⟩⟩; refine ⟨_, rfl, ?_⟩))
 go_ret
 exact ⟨by first | rfl | (simp; done) | (simp [*]; done), by repeat (first | exact Drawn0.refl _ | apply Drawn0.step)⟩
/-! ### rundleref05_Add: function 101 -/
def rundleref05_Add.l0 : Nat → ByteArray → Int → Int → Option (Int)
 | 0, _, _, _ => none
 | k + 1, x1, x5, x6 => if x6 < (x1.size : Int) then (if 0 ≤ x6 then ((rundleref05_turn.f (Int.tmod (IntKind.u64.wrap ((Int.tmod (IntKind.u64.wrap (x5 + (IntKind.u64.wrap (bt x1 x6)))) 4294967296) * 1025)) 4294967296) 64).bind fun t318 => (rundleref05_Add.l0 k x1 t318 (wrap64 (x6 + 1)))) else (none)) else (some ((x5) % 4294967296))
def rundleref05_Add.f (k : Nat) (a0 : Int) (a1 : ByteArray) : Option (Int) := rundleref05_Add.l0 k a1 (IntKind.u64.wrap (a0)) 0
set_option maxHeartbeats 8000000 in
set_option maxRecDepth 100000 in
theorem rundleref05_Add.calls (k : Nat) (a0 : Int) (a1 : ByteArray) (r : Int) (w : World) (h : rundleref05_Add.f k a0 a1 = some r) :
  Calls Try.prog 101 #[.int .u32 a0, .string a1] w fun e w' => e = .returned (.int .u32 r) ∧ Drawn0 w w' := by
 have H : (rundleref05_Add.l0 k a1 (IntKind.u64.wrap (a0)) 0) = some r := h
 clear h
 have H' := K0 H
 clear H
 go_enter Try.func101, Try.ntmps101
 go_wp2
 go_loopg [5, 6] k (fun kq v5 v6 w' => ∃ (x5_1 : Int) (x6_1 : Int), v5 = .int .u64 x5_1 ∧ v6 = .int .i64 x6_1 ∧ Aside0 (rundleref05_Add.l0 kq a1 x5_1 x6_1 = some r) ∧ Aside0 (kq ≤ k) ∧ Drawn0 w w')
 case atStart => exact ⟨(IntKind.u64.wrap (a0)), (0), (by first | rfl | (simp; done) | (simp [*]; done)), (by first | rfl | (simp; done) | (simp [*]; done)), H', ⟨Nat.le_refl _⟩, by repeat (first | exact Drawn0.refl _ | apply Drawn0.step)⟩
 case round =>
  clear H'
  try clear c1
  try clear p2
  obtain ⟨x5_1, x6_1, rfl, rfl, HA, HK1, ⟨m1, rfl⟩⟩ := hrel
  cases gk with
  | zero => exact absurd HA.out (by simp [rundleref05_Add.l0])
  | succ k1 =>
   have H := HA.out; clear HA; simp only [rundleref05_Add.l0] at H; by_cases c3 : x6_1 < (a1.size : Int)
   ·
    rw [if_pos c3] at H; have c3b0 : decide (x6_1 < (a1.size : Int)) = true := dT c3; clear c3; by_cases c4 : 0 ≤ x6_1
    ·
     rw [if_pos c4] at H; have c4b0 : decide (0 ≤ x6_1) = true := dT c4; clear c4; replace H := Option.bind_eq_some_iff.mp H; obtain ⟨t318, A60, H⟩ := H; replace H : (rundleref05_Add.l0 k1 a1 t318 (wrap64 (x6_1 + 1))) = some r := H; have A6 := K0 A60; clear A60; have H' := K0 H; clear H; have p5 : 0 ≤ (x6_1 : Int) := oT (by first | (with_reducible assumption) | assumption); have q5 : x6_1 < (a1.size : Int) := oT (by first | (with_reducible assumption) | assumption); have hx5 := bt_at a1 x6_1; replace p5 := eq_true p5; replace q5 := eq_true q5; go_wp2_with (first | ((with_reducible refine gate_callee (f := 104) rfl ?_); refine goesL_ (some 26) rfl rfl Try.func104 (by kernel_rfl) rfl #[.int .u64 (Int.tmod (IntKind.u64.wrap ((Int.tmod (IntKind.u64.wrap (x5_1 + (IntKind.u64.wrap (bt a1 x6_1)))) 4294967296) * 1025)) 4294967296), .int .u64 64] rfl (by (try simp only [List.map_toArray, List.map_cons, List.map_nil]); first | done | rfl | (simp only [lD, lT]; rfl)) ?_; (with_reducible refine (rundleref05_turn.calls (Int.tmod (IntKind.u64.wrap ((Int.tmod (IntKind.u64.wrap (x5_1 + (IntKind.u64.wrap (bt a1 x6_1)))) 4294967296) * 1025)) 4294967296) 64 t318 _ A6.out).mono ?_); rintro e w' ⟨rfl, ⟨nd, rfl⟩⟩; refine ⟨_, rfl, ?_⟩))
     go_roundg k1
     case measure => have := HK1.out; omega
     case rel => exact ⟨(t318), (wrap64 (x6_1 + 1)), (by first | rfl | (simp; done) | (simp [*]; done)), (by first | rfl | (simp; done) | (simp [*]; done)), H', ⟨by have := HK1.out; omega⟩, by repeat (first | exact Drawn0.refl _ | apply Drawn0.step)⟩
    rw [if_neg c4] at H; exact absurd H (by simp)
   rw [if_neg c3] at H; have c3b0 : decide (x6_1 < (a1.size : Int)) = false := dF c3; clear c3; obtain rfl := Option.some.inj H; go_wp2
   go_ret; exact ⟨by first | rfl | (simp; done) | (simp [*]; done), by repeat (first | exact Drawn0.refl _ | apply Drawn0.step)⟩
/-! ### rundleref06_Slot: function 89 -/
def rundleref06_Slot.f (k : Nat) (a0 : Int) (a1 : ByteArray) (a2 : Int) : Option (Int) := (rundleref05_Add.f k 0 a1).bind fun t319 => ((rundleref05_End.f t319).bind fun t320 => (if a0 = 0 then (none) else (some (Int.tmod (wrap64 ((Int.tmod (wrap64 (t320)) a0) + a2)) a0))))
set_option maxHeartbeats 8000000 in
set_option maxRecDepth 100000 in
theorem rundleref06_Slot.calls (k : Nat) (a0 : Int) (a1 : ByteArray) (a2 : Int) (r : Int) (w : World) (h : rundleref06_Slot.f k a0 a1 a2 = some r) :
  Calls Try.prog 89 #[.int .i64 a0, .string a1, .int .i64 a2] w fun e w' => e = .returned (.int .i64 r) ∧ Drawn0 w w' := by
 have H : ((rundleref05_Add.f k 0 a1).bind fun t319 => ((rundleref05_End.f t319).bind fun t320 => (if a0 = 0 then (none) else (some (Int.tmod (wrap64 ((Int.tmod (wrap64 (t320)) a0) + a2)) a0))))) = some r := h
 clear h
 replace H := Option.bind_eq_some_iff.mp H
 obtain ⟨t319, A40, H⟩ := H
 replace H : ((rundleref05_End.f t319).bind fun t320 => (if a0 = 0 then (none) else (some (Int.tmod (wrap64 ((Int.tmod (wrap64 (t320)) a0) + a2)) a0)))) = some r := H
 have A4 := K0 A40
 clear A40
 replace H := Option.bind_eq_some_iff.mp H
 obtain ⟨t320, A50, H⟩ := H
 replace H : (if a0 = 0 then (none) else (some (Int.tmod (wrap64 ((Int.tmod (wrap64 (t320)) a0) + a2)) a0))) = some r := H
 have A5 := K0 A50
 clear A50
 by_cases c6 : a0 = 0
 ·
  rw [if_pos c6] at H
  exact absurd H (by simp)
 rw [if_neg c6] at H
 have c6b0 : (a0 == 0) = false := beq_eq_false_iff_ne.mpr c6
 have c6b1 : (a0 != 0) = true := bne_iff_ne.mpr c6
 obtain rfl := Option.some.inj H
 go_enter Try.func89, Try.ntmps89
 go_wp2_with (first | ((with_reducible refine gate_callee (f := 101) rfl ?_); refine goesL_ (some 9) rfl rfl Try.func101 (by kernel_rfl) rfl #[.int .u32 0, .string a1] rfl (by (try simp only [List.map_toArray, List.map_cons, List.map_nil]); first | done | rfl | (simp only [lD, lT]; rfl)) ?_; (with_reducible refine (rundleref05_Add.calls k 0 a1 t319 _ A4.out).mono ?_); rintro e w' ⟨rfl, ⟨nd, rfl⟩⟩; refine ⟨_, rfl, ?_⟩) | ((with_reducible refine gate_callee (f := 100) rfl ?_); refine goesL_ (some 10) rfl rfl Try.func100 (by kernel_rfl) rfl #[.int .u32 t319] rfl (by (try simp only [List.map_toArray, List.map_cons, List.map_nil]); first | done | rfl | (simp only [lD, lT]; rfl)) ?_; (with_reducible refine (rundleref05_End.calls t319 t320 _ A5.out).mono ?_); rintro e w' ⟨rfl, ⟨nd, rfl⟩⟩; refine ⟨_, rfl, ?_⟩))
 go_ret
 exact ⟨by first | rfl | (simp; done) | (simp [*]; done), by repeat (first | exact Drawn0.refl _ | apply Drawn0.step)⟩
end Go.Proofs.Ytoaacdjcjicemaa.PRevApplies
