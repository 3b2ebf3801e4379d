-- written by a program of this session (the print, turned)
import Derived.Test.YtoaacdjcjicemaaPPlanRelinksx0
import Derived.Test.YtoaacdjcjicemaaWAl
namespace Go.Proofs.Ytoaacdjcjicemaa.PPlanRelinks
open Go.RowKit Go.Proofs.YtoaacdjcjicemaaW.PrintWords Go.Proofs.YtoaacdjcjicemaaW.PrintLast Go.Proofs.YtoaacdjcjicemaaW.PrintMore
attribute [local go_sem] cell_self cell_there leq_str geq_str gtr_str max2_str max2_int min2_int max_two min_two max_three min_three max_four min_four   -- for this text's walks alone
set_option linter.unusedVariables false
set_option linter.unusedSimpArgs false
/-! ### tower_To: function 94 -/
mutual
def tower_To.j0 : Nat → List (S83) → Int → Int → Bool → Option (Int)
 | 0, _, _, _, _ => none
 | k + 1, x0, x1, x2, x14 => if x14 = true then (some 0) else (if 0 ≤ (wrap64 ((mn x1 (wrap64 ((x0.length : Int) - 1))) + 1)) then (if (wrap64 ((mn x1 (wrap64 ((x0.length : Int) - 1))) + 1)) ≤ (x0.length : Int) then ((some (x0.drop ((wrap64 ((mn x1 (wrap64 ((x0.length : Int) - 1))) + 1)) : Int).toNat : List (S83))).bind fun y183 => (tower_To.l0 k x2 y183 (y183.length : Int) 0)) else (none)) else (none))
def tower_To.l0 : Nat → Int → List (S83) → Int → Int → Option (Int)
 | 0, _, _, _, _ => none
 | k + 1, x2, x22, x23, x24 => if x24 < x23 then (if 0 ≤ x24 then (if x24 < (x22.length : Int) then (if (((rd_T83 x22 x24).f2).length : Int) > x2 then (some ((rd_T83 x22 x24).f0)) else (tower_To.l0 k x2 x22 x23 (wrap64 (x24 + 1)))) else (none)) else (none)) else (some 0)
end
def tower_To.f (k : Nat) (l0 : List (S83)) (a1 : Int) (a2 : Int) : Option (Int) := if a1 < 0 then (tower_To.j0 k l0 a1 a2 true) else (tower_To.j0 k l0 a1 a2 (decide (a2 < 0)))
set_option maxHeartbeats 8000000 in
set_option maxRecDepth 100000 in
theorem tower_To.calls (k : Nat) (A0 : Option Addr) (c0 : Nat) (l0 : List (S83)) (a1 : Int) (a2 : Int) (r : Int) (w : World) (hr0 : Kd.C k83 w A0 l0.length l0) (hc0 : l0.length ≤ c0) (h : tower_To.f k l0 a1 a2 = some r) :
  Calls Try.prog 94 #[.slice A0 l0.length c0, .int .i64 a1, .int .i64 a2] w fun e w' => e = .returned (.int .i64 r) ∧ Below w.heap.size w w' := by
 have hu83 := Try.underlying83
 have HR0 := K0 hr0
 have HC0 := K0 hc0
 clear hr0 hc0
 have HB := K0 (Below.refl w.heap.size w)
 have H : (if a1 < 0 then (tower_To.j0 k l0 a1 a2 true) else (tower_To.j0 k l0 a1 a2 (decide (a2 < 0)))) = some r := h
 clear h
 have HC4 := K0 H
 clear H
 go_enter Try.func94, Try.ntmps94
 go_upto_region 1 with (fail)
 go_cut [14] (fun v14 wc => ∃ (kq : Nat) (x14_3 : Bool), v14 = .bool x14_3 ∧ Aside0 (tower_To.j0 kq l0 a1 a2 x14_3 = some r) ∧ Aside0 (kq ≤ k) ∧ Aside0 (Below w.heap.size w wc))
 case first =>
  have H := HC4.out
  clear HC4
  by_cases c5 : a1 < 0
  ·
   rw [if_pos c5] at H; have c5b0 : decide (a1 < 0) = true := dT c5; clear c5; (first | rw [c5b0] | (simp only [i64_w, i32_w]; rw [c5b0]) | skip)
   have H' := K0 H; clear H; go_wp2
   go_meet
   case rel => exact ⟨_, (true), (by first | rfl | (simp; done) | (simp [*]; done)), H', ⟨by first | omega | exact Nat.le_refl _⟩, ⟨by repeat (first | (with_reducible first | exact HB.out | apply wA | apply wN | apply wD) | exact HB.out)⟩⟩
  rw [if_neg c5] at H
  have c5b0 : decide (a1 < 0) = false := dF c5
  clear c5
  (first | rw [c5b0] | (simp only [i64_w, i32_w]; rw [c5b0]) | skip)
  have H' := K0 H
  clear H
  go_wp2
  go_meet
  case rel => exact ⟨_, (decide (a2 < 0)), (by first | rfl | (simp; done) | (simp [*]; done)), H', ⟨by first | omega | exact Nat.le_refl _⟩, ⟨by repeat (first | (with_reducible first | exact HB.out | apply wA | apply wN | apply wD) | exact HB.out)⟩⟩
 case rest =>
  clear HC4
  try clear p2
  try clear c5
  try clear c5b0
  obtain ⟨kq, x14_3, rfl, HA, HJ3, HB⟩ := hcut
  cases kq with
  | zero => exact absurd HA.out (by simp [tower_To.j0])
  | succ kj3 =>
   have H := HA.out; clear HA; simp only [tower_To.j0] at H; by_cases c6 : x14_3 = true
   ·
    subst c6; have H1 : (some 0) = some r := by rw [if_pos rfl] at H; exact H
    clear H; have H := H1; clear H1; obtain rfl := Option.some.inj H; go_wp2
    go_ret; exact ⟨by first | rfl | (simp [errW_none, errW_some] <;> rfl) | (simp [*, errW_none, errW_some] <;> rfl), by repeat (first | (with_reducible first | exact HB.out | apply wA | apply wN | apply wD) | exact HB.out)⟩
   replace c6 := Bool.eq_false_iff.mpr c6; subst c6; have H1 : (if 0 ≤ (wrap64 ((mn a1 (wrap64 ((l0.length : Int) - 1))) + 1)) then (if (wrap64 ((mn a1 (wrap64 ((l0.length : Int) - 1))) + 1)) ≤ (l0.length : Int) then ((some (l0.drop ((wrap64 ((mn a1 (wrap64 ((l0.length : Int) - 1))) + 1)) : Int).toNat : List (S83))).bind fun y183 => (tower_To.l0 kj3 a2 y183 (y183.length : Int) 0)) else (none)) else (none)) = some r := by rw [if_neg (show ¬ (false = true) by decide)] at H; exact H
   clear H; have H := H1; clear H1; obtain ⟨ji7, hji7⟩ : ∃ j_ : Int, (mn a1 (wrap64 ((l0.length : Int) - 1))) = j_ := ⟨_, rfl⟩; replace H : (if 0 ≤ (wrap64 ((ji7) + 1)) then (if (wrap64 ((ji7) + 1)) ≤ (l0.length : Int) then ((some (l0.drop ((wrap64 ((ji7) + 1)) : Int).toNat : List (S83))).bind fun y183 => (tower_To.l0 kj3 a2 y183 (y183.length : Int) 0)) else (none)) else (none)) = some r := by first | (rw [hji7] at H; exact H) | (simp only [hji7] at H ⊢; exact H)
   have hji7_ : (if (wrap64 ((l0.length : Int) - 1)) < a1 then (wrap64 ((l0.length : Int) - 1)) else a1) = ji7 := hji7; obtain ⟨ji8, hji8⟩ : ∃ j_ : Int, (wrap64 ((ji7) + 1)) = j_ := ⟨_, rfl⟩; replace H : (if 0 ≤ (ji8) then (if (ji8) ≤ (l0.length : Int) then ((some (l0.drop ((ji8) : Int).toNat : List (S83))).bind fun y183 => (tower_To.l0 kj3 a2 y183 (y183.length : Int) 0)) else (none)) else (none)) = some r := by first | (rw [hji8] at H; exact H) | (simp only [hji8] at H ⊢; exact H)
   have hji8w : (IntKind.i64.wrap ((ji7) + 1)) = ji8 := (i64_w _).trans hji8; by_cases c9 : 0 ≤ (ji8)
   ·
    rw [if_pos c9] at H; have c9b0 := eq_true c9; have c9b1 : decide (0 ≤ (ji8)) = true := dT c9; clear c9; by_cases c10 : (ji8) ≤ (l0.length : Int)
    ·
     rw [if_pos c10] at H; have c10b0 := eq_true c10; have c10b1 : decide ((ji8) ≤ (l0.length : Int)) = true := dT c10; clear c10; obtain ⟨y183, hy183⟩ : ∃ y_ : List (S83), y_ = (l0.drop ((ji8) : Int).toNat) := ⟨_, rfl⟩; replace H : (tower_To.l0 kj3 a2 y183 (y183.length : Int) 0) = some r := by first | (rw [hy183]; with_reducible exact H) | (have H2_ := (Option.bind_some _ _).symm.trans H; rw [hy183]; with_reducible exact H2_) | (have H2_ := (Option.bind_some _ _).symm.trans H; with_reducible exact H2_) | with_reducible exact H | (rw [hy183]; exact H) | exact H
     have Ny183 := K0 hy183; clear hy183; have H' := K0 H; clear H; have q11 : ((ji8) : Int) ≤ ((l0.length : Int) : Int) := oT (by first | (with_reducible assumption) | assumption); obtain ⟨i011, hi011, _, hsz11, _⟩ := info_parts info83; have hroom11 : l0.length ≤ c0 := HC0.out; have hC11 : Kd.C k83 _ A0 l0.length l0 := HR0.out; have q011 : (0 : Int) ≤ ((ji8) : Int) := oT (by first | (with_reducible assumption) | assumption); have hcut11 := cut_from (P := Try.prog) 67 83 .i64 Try.underlying67 hi011 16 hsz11 A0 l0.length c0 (ji8) q011 q11; have hr11 := Kd.C_drop (m := ((ji8) : Int).toNat) (c := c0) hC11 (by omega) hroom11; obtain ⟨A11, hA11⟩ : ∃ A1, A1 = (if c0 = ((ji8) : Int).toNat then A0 else (A0 : Option Addr).map (·.add (((ji8) : Int).toNat * 16))) := ⟨_, rfl⟩; obtain ⟨c11, hc11⟩ : ∃ c1, c1 = c0 - ((ji8) : Int).toNat := ⟨_, rfl⟩; have hy11 : y183.length = l0.length - ((ji8) : Int).toNat := (by rw [Ny183.out, lD] <;> omega); rw [show (l0).drop ((ji8) : Int).toNat = y183 from Ny183.out.symm] at hr11; replace hr11 : Kd.C k83 _ A11 y183.length y183 := (by rw [hA11]; exact hr11); rw [← hy11, ← hA11, ← hc11] at hcut11; have HR186 := K0 hr11; have HC186 := K0 (show y183.length ≤ c11 from by rw [hy11, hc11]; exact Nat.sub_le_sub_right hroom11 _); clear hr11 hC11 hroom11 hi011 hsz11 hc11; have KY11 := K0 hy11; have KA11 := K0 hA11; clear hy11 hA11; replace q11 := eq_true q11; go_wp2
     go_loopg [24] kj3 (fun kq v24 w' => ∃ (x24_2 : Int), v24 = .int .i64 x24_2 ∧ Aside0 (tower_To.l0 kq a2 y183 (y183.length : Int) x24_2 = some r) ∧ Aside0 (kq ≤ kj3) ∧ Aside0 (Below w.heap.size w w'))
     case atStart => exact ⟨(0), (by first | rfl | (simp; done) | (simp [*]; done)), H', ⟨Nat.le_refl _⟩, ⟨by repeat (first | (with_reducible first | exact HB.out | apply wA | apply wN | apply wD) | exact HB.out)⟩⟩
     case round =>
      clear H'; try clear c1
      try clear q1
      try clear p2
      try clear c5
      try clear c5b0
      try clear c6
      try clear p6
      try clear c9
      try clear c9b0
      try clear c9b1
      try clear c10
      try clear c10b0
      try clear c10b1
      try clear c11
      try clear q11
      try clear p2
      try clear q011
      try clear q11
      obtain ⟨x24_2, rfl, HA, HK2, HB⟩ := hrel
      cases gk with
      | zero => exact absurd HA.out (by simp [tower_To.l0])
      | succ k2 =>
       have H := HA.out; clear HA; simp only [tower_To.l0] at H; by_cases c12 : x24_2 < (y183.length : Int)
       ·
        rw [if_pos c12] at H; have c12b0 : decide (x24_2 < (y183.length : Int)) = true := dT c12; clear c12; by_cases c13 : 0 ≤ x24_2
        ·
         rw [if_pos c13] at H; have c13b0 : decide (0 ≤ x24_2) = true := dT c13; clear c13; by_cases c14 : x24_2 < (y183.length : Int)
         ·
          rw [if_pos c14] at H; have c14b0 : decide (x24_2 < (y183.length : Int)) = true := dT c14; clear c14; by_cases c15 : (((rd_T83 y183 x24_2).f2).length : Int) > a2
          ·
           rw [if_pos c15] at H; have c15b0 : decide (a2 < (((rd_T83 y183 x24_2).f2).length : Int)) = true := dT c15; clear c15; obtain rfl := Option.some.inj H; have p187 : 0 ≤ (x24_2 : Int) := oT (by first | (with_reducible assumption) | assumption); have q187 : x24_2 < (y183.length : Int) := oT (by first | (with_reducible assumption) | assumption); obtain ⟨ad187, A187_3, c187_3, A187_4, c187_4, A187_12, c187_12, A187_13, c187_13, A187_14, c187_14, A187_15, c187_15, e187, hx187_0, hx187_1, hx187_2, hx187_3, hx187_4, hx187_5, hx187_6, hx187_7, hx187_8, hx187_9, hx187_10, hx187_11, hx187_12, hx187_13, hx187_14, hx187_15, hl187_3, hi187_3, hl187_4, hi187_4, hl187_12, hi187_12, hl187_13, hi187_13, hl187_14, hi187_14, hl187_15, hi187_15⟩ := at_T83b HR186.out HB.out x24_2 p187 q187
           cases e187; have HR187_3 := K0 hi187_3; have HC187_3 := K0 hl187_3; clear hi187_3 hl187_3; have HR187_4 := K0 hi187_4; have HC187_4 := K0 hl187_4; clear hi187_4 hl187_4; have HR187_12 := K0 hi187_12; have HC187_12 := K0 hl187_12; clear hi187_12 hl187_12; have HR187_13 := K0 hi187_13; have HC187_13 := K0 hl187_13; clear hi187_13 hl187_13; have HR187_14 := K0 hi187_14; have HC187_14 := K0 hl187_14; clear hi187_14 hl187_14; have HR187_15 := K0 hi187_15; have HC187_15 := K0 hl187_15; clear hi187_15 hl187_15; replace p187 := eq_true p187; replace q187 := eq_true q187; go_wp2_with (first | ((with_reducible refine gate_dst (N := 8) rfl ?_); refine box_event ?hg (N := 8) ?hd (cs := #[.int .i64 0, .string (⟨#[]⟩ : ByteArray), .int .i64 0, .slice none 0 0, .slice none 0 0, .int .i64 0, .int .i64 0, .int .i64 0, .string (⟨#[]⟩ : ByteArray), .string (⟨#[]⟩ : ByteArray), .bool false, .bool false, .slice none 0 0, .slice none 0 0, .slice none 0 0, .slice none 0 0]) (t := 83) ?hr ?_; (case hd => rfl); (case hg => rfl); (case hr => first | (go_simp; done) | (go_simp; rfl)); intro gb188 hg w16 hbox hb; have n0_ := K0 (below_step (by repeat (first | (with_reducible first | exact HB.out | apply wA | apply wN | apply wD) | exact HB.out)) hb); have n1_ := K0 (hbox); have n2_ := K0 ((by rw [hg]; exact (below_size (by repeat (first | (with_reducible first | exact HB.out | apply wA | apply wN | apply wD) | exact HB.out))) : w.heap.size ≤ gb188)); have n3_ := K0 ((by rw [hg]; exact (below_size (by repeat (first | (with_reducible first | exact HB.out | apply wA | apply wN | apply wD) | exact HB.out))) : w.heap.size ≤ gb188)); clear HB; have HB := n0_; have BK188 := n1_; have GW188 := n2_; have GE188 := n3_; clear n0_ n1_ n2_ n3_; clear hb hbox hg; obtain ⟨hcz17_0, hcz17_1, hcz17_2, hcz17_3, hcz17_4, hcz17_5, hcz17_6, hcz17_7, hcz17_8, hcz17_9, hcz17_10, hcz17_11, hcz17_12, hcz17_13, hcz17_14, hcz17_15⟩ := cellS16 BK188.out; obtain ⟨hfz17_0, hfz17_1, hfz17_2, hfz17_3, hfz17_4, hfz17_5, hfz17_6, hfz17_7, hfz17_8, hfz17_9, hfz17_10, hfz17_11, hfz17_12, hfz17_13, hfz17_14, hfz17_15⟩ := frozS16 BK188.out))
           go_ret; exact ⟨by first | rfl | (simp [errW_none, errW_some] <;> rfl) | (simp only [← hji7, ← hji8]; first | rfl | (simp [errW_none, errW_some] <;> rfl)) | (simp [*, errW_none, errW_some] <;> rfl), by repeat (first | (with_reducible first | exact HB.out | apply wA | apply wN | apply wD | refine wS ?_ GE188.out) | exact HB.out)⟩
          rw [if_neg c15] at H; have c15b0 : decide (a2 < (((rd_T83 y183 x24_2).f2).length : Int)) = false := dF c15; clear c15; have H' := K0 H; clear H; have p187 : 0 ≤ (x24_2 : Int) := oT (by first | (with_reducible assumption) | assumption); have q187 : x24_2 < (y183.length : Int) := oT (by first | (with_reducible assumption) | assumption); obtain ⟨ad187, A187_3, c187_3, A187_4, c187_4, A187_12, c187_12, A187_13, c187_13, A187_14, c187_14, A187_15, c187_15, e187, hx187_0, hx187_1, hx187_2, hx187_3, hx187_4, hx187_5, hx187_6, hx187_7, hx187_8, hx187_9, hx187_10, hx187_11, hx187_12, hx187_13, hx187_14, hx187_15, hl187_3, hi187_3, hl187_4, hi187_4, hl187_12, hi187_12, hl187_13, hi187_13, hl187_14, hi187_14, hl187_15, hi187_15⟩ := at_T83b HR186.out HB.out x24_2 p187 q187
          cases e187; have HR187_3 := K0 hi187_3; have HC187_3 := K0 hl187_3; clear hi187_3 hl187_3; have HR187_4 := K0 hi187_4; have HC187_4 := K0 hl187_4; clear hi187_4 hl187_4; have HR187_12 := K0 hi187_12; have HC187_12 := K0 hl187_12; clear hi187_12 hl187_12; have HR187_13 := K0 hi187_13; have HC187_13 := K0 hl187_13; clear hi187_13 hl187_13; have HR187_14 := K0 hi187_14; have HC187_14 := K0 hl187_14; clear hi187_14 hl187_14; have HR187_15 := K0 hi187_15; have HC187_15 := K0 hl187_15; clear hi187_15 hl187_15; replace p187 := eq_true p187; replace q187 := eq_true q187; go_wp2_with (first | ((with_reducible refine gate_dst (N := 8) rfl ?_); refine box_event ?hg (N := 8) ?hd (cs := #[.int .i64 0, .string (⟨#[]⟩ : ByteArray), .int .i64 0, .slice none 0 0, .slice none 0 0, .int .i64 0, .int .i64 0, .int .i64 0, .string (⟨#[]⟩ : ByteArray), .string (⟨#[]⟩ : ByteArray), .bool false, .bool false, .slice none 0 0, .slice none 0 0, .slice none 0 0, .slice none 0 0]) (t := 83) ?hr ?_; (case hd => rfl); (case hg => rfl); (case hr => first | (go_simp; done) | (go_simp; rfl)); intro gb188 hg w18 hbox hb; have n0_ := K0 (below_step (by repeat (first | (with_reducible first | exact HB.out | apply wA | apply wN | apply wD) | exact HB.out)) hb); have n1_ := K0 (hbox); have n2_ := K0 ((by rw [hg]; exact (below_size (by repeat (first | (with_reducible first | exact HB.out | apply wA | apply wN | apply wD) | exact HB.out))) : w.heap.size ≤ gb188)); have n3_ := K0 ((by rw [hg]; exact (below_size (by repeat (first | (with_reducible first | exact HB.out | apply wA | apply wN | apply wD) | exact HB.out))) : w.heap.size ≤ gb188)); clear HB; have HB := n0_; have BK188 := n1_; have GW188 := n2_; have GE188 := n3_; clear n0_ n1_ n2_ n3_; clear hb hbox hg; obtain ⟨hcz19_0, hcz19_1, hcz19_2, hcz19_3, hcz19_4, hcz19_5, hcz19_6, hcz19_7, hcz19_8, hcz19_9, hcz19_10, hcz19_11, hcz19_12, hcz19_13, hcz19_14, hcz19_15⟩ := cellS16 BK188.out; obtain ⟨hfz19_0, hfz19_1, hfz19_2, hfz19_3, hfz19_4, hfz19_5, hfz19_6, hfz19_7, hfz19_8, hfz19_9, hfz19_10, hfz19_11, hfz19_12, hfz19_13, hfz19_14, hfz19_15⟩ := frozS16 BK188.out))
          go_roundg k2
          case measure => have := HJ3.out; have := HK2.out; omega
          case rel => exact ⟨(wrap64 (x24_2 + 1)), (by first | rfl | (simp; done) | (simp [*]; done)), H', ⟨by have := HJ3.out; have := HK2.out; omega⟩, ⟨by repeat (first | (with_reducible first | exact HB.out | apply wA | apply wN | apply wD | refine wS ?_ GE188.out) | exact HB.out)⟩⟩
         rw [if_neg c14] at H; exact absurd H (by simp)
        rw [if_neg c13] at H; exact absurd H (by simp)
       rw [if_neg c12] at H; have c12b0 : decide (x24_2 < (y183.length : Int)) = false := dF c12; clear c12; obtain rfl := Option.some.inj H; go_wp2
       go_ret; exact ⟨by first | rfl | (simp [errW_none, errW_some] <;> rfl) | (simp only [← hji7, ← hji8]; first | rfl | (simp [errW_none, errW_some] <;> rfl)) | (simp [*, errW_none, errW_some] <;> rfl), by repeat (first | (with_reducible first | exact HB.out | apply wA | apply wN | apply wD) | exact HB.out)⟩
    rw [if_neg c10] at H; exact absurd H (by simp)
   rw [if_neg c9] at H; exact absurd H (by simp)
end Go.Proofs.Ytoaacdjcjicemaa.PPlanRelinks
