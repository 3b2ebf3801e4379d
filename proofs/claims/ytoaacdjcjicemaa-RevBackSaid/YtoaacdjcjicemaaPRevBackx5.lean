-- written by a program of this session (the print, turned)
import Derived.Test.YtoaacdjcjicemaaPRevBackx0
import Derived.Test.YtoaacdjcjicemaaWAl
namespace Go.Proofs.Ytoaacdjcjicemaa.PRevBack
open Go.RowKit Go.Proofs.YtoaacdjcjicemaaW.PrintWords Go.Proofs.YtoaacdjcjicemaaW.PrintLast Go.Proofs.YtoaacdjcjicemaaW.PrintMore
attribute [local go_sem] cell_self cell_there leq_str geq_str gtr_str max2_str max2_int min2_int max_two min_two max_three min_three max_four min_four   -- for this text's walks alone
set_option linter.unusedVariables false
set_option linter.unusedSimpArgs false
abbrev q5_0 : Array Bool := #[false, false, false, false, false, false, false, false, false, false, false, false, false, false, false, false]
abbrev q5_1 : Array Bool := #[true, false, false, false, false, false, false, false, false, false, false, false, false, false, false, false]
abbrev q5_2 : Array Bool := #[true, true, false, false, false, false, false, false, false, false, false, false, false, false, false, false]
abbrev q5_3 : Array Bool := #[true, true, true, false, false, false, false, false, false, false, false, false, false, false, false, false]
abbrev q5_4 : Array Bool := #[true, true, true, false, true, false, false, false, false, false, false, false, false, false, false, false]
abbrev q5_5 : Array Bool := #[true, true, true, false, true, false, false, true, false, false, false, false, false, false, false, false]
abbrev q5_6 : Array Bool := #[true, true, true, false, true, false, false, true, false, true, false, false, false, false, false, false]
abbrev q5_7 : Array Bool := #[true, true, true, true, true, false, false, true, false, true, false, false, false, false, false, false]
abbrev q5_8 : Array Bool := #[true, true, true, true, true, true, false, true, false, true, false, false, false, false, false, false]
abbrev q5_9 : Array Bool := #[true, true, true, true, true, true, true, true, false, true, false, false, false, false, false, false]
abbrev q5_10 : Array Bool := #[true, true, true, true, true, true, true, true, true, true, false, false, false, false, false, false]
abbrev q5_11 : Array Bool := #[true, true, true, true, true, true, true, true, true, true, true, false, false, false, false, false]
abbrev q5_12 : Array Bool := #[true, true, true, true, true, true, true, true, true, true, true, true, false, false, false, false]
abbrev q5_13 : Array Bool := #[true, true, true, true, true, true, true, true, true, true, true, true, true, false, false, false]
abbrev q5_14 : Array Bool := #[true, true, true, true, true, true, true, true, true, true, true, true, true, true, false, false]
abbrev q5_15 : Array Bool := #[true, true, true, true, true, true, true, true, true, true, true, true, true, true, true, false]
abbrev q5_16 : Array Bool := #[true, true, true, true, true, true, true, true, true, true, true, true, true, true, true, true]
/-! ### rev_Entries: function 53 -/
def rev_Entries.l0 : Nat → List (S114) → List ByteArray → Int → Int → Int → Int → ByteArray → ByteArray → Bool → Bool → List ByteArray → List ByteArray → List Bool → List Int → Option ((List (S114)))
 | 0, _, _, _, _, _, _, _, _, _, _, _, _, _, _ => none
 | k + 1, x3, x7, x8, x9, x154000, x154001, x154002, x154003, x154004, x154005, x154006, x154007, x154008, x154009 => if x9 < x8 then (if 0 ≤ x9 then (if x9 < (x7.length : Int) then (if x9 < (x154007.length : Int) then (if x9 < (x154008.length : Int) then (if x3.length < 3518437208883 then (rev_Entries.l0 k (x3 ++ [(⟨rdOf ByteArray.empty x7 x9, rdOf ByteArray.empty x154007 x9, rdOf false x154008 x9⟩ : S114)]) x7 x8 (wrap64 (x9 + 1)) x154000 x154001 x154002 x154003 x154004 x154005 x154006 x154007 x154008 x154009) else (none)) else (none)) else (none)) else (none)) else (none)) else (some x3)
def rev_Entries.f (k : Nat) (a0_0 : Int) (a0_1 : Int) (a0_2 : ByteArray) (a0_3 : ByteArray) (a0_4 : Bool) (a0_5 : Bool) (l0_6 : List ByteArray) (l0_7 : List ByteArray) (l0_8 : List Bool) (l0_9 : List Int) : Option ((List (S114))) := rev_Entries.l0 k ([] : List (S114)) l0_6 (l0_6.length : Int) 0 a0_0 a0_1 a0_2 a0_3 a0_4 a0_5 l0_6 l0_7 l0_8 l0_9
def rev_Entries.T5 : Bool × List (List Nat × List Nat) := (true, [([], []), ([], []), ([], []), ([2], [2]), ([], []), ([3, 4], [3, 4]), ([5], [5]), ([], []), ([7], [7]), ([], []), ([8, 9], [8, 9]), ([10], [10]), ([1, 6, 11], [1, 6, 11]), ([12], [12]), ([0, 13], [0, 13]), ([14, 14, 0, 1, 2, 3, 4, 5, 6, 7, 8, 9, 10, 11, 12, 13, 14], [0, 14])])
def rev_Entries.B5 : List Nat := [0, 0, 0, 4, 0, 28, 60, 0, 128, 0, 896, 1920, 4094, 8190, 16383, 32767]
theorem rev_Entries.tab5 : rtab .any (opsOf Try.f53 5) = rev_Entries.T5 := by kernel_rfl
theorem rev_Entries.bits5 : waitsOk rev_Entries.T5.2 rev_Entries.B5 = true := by kernel_rfl
set_option maxHeartbeats 8000000 in
set_option maxRecDepth 100000 in
theorem rev_Entries.calls (k : Nat) (a0_0 : Int) (a0_1 : Int) (a0_2 : ByteArray) (a0_3 : ByteArray) (a0_4 : Bool) (a0_5 : Bool) (A0_6 : Option Addr) (c0_6 : Nat) (l0_6 : List ByteArray) (A0_7 : Option Addr) (c0_7 : Nat) (l0_7 : List ByteArray) (A0_8 : Option Addr) (c0_8 : Nat) (l0_8 : List Bool) (A0_9 : Option Addr) (c0_9 : Nat) (l0_9 : List Int) (r : List (S114)) (w : World) (hr0_6 : Kd.C Kd.string w A0_6 l0_6.length l0_6) (hc0_6 : l0_6.length ≤ c0_6) (hr0_7 : Kd.C Kd.string w A0_7 l0_7.length l0_7) (hc0_7 : l0_7.length ≤ c0_7) (hr0_8 : Kd.C Kd.bool w A0_8 l0_8.length l0_8) (hc0_8 : l0_8.length ≤ c0_8) (hr0_9 : Kd.C (Kd.int .i64) w A0_9 l0_9.length l0_9) (hc0_9 : l0_9.length ≤ c0_9) (h : rev_Entries.f k a0_0 a0_1 a0_2 a0_3 a0_4 a0_5 l0_6 l0_7 l0_8 l0_9 = some r) :
  Calls Try.prog 53 #[.agg #[.int .i64 a0_0, .int .i64 a0_1, .string a0_2, .string a0_3, .bool a0_4, .bool a0_5, .slice A0_6 l0_6.length c0_6, .slice A0_7 l0_7.length c0_7, .slice A0_8 l0_8.length c0_8, .slice A0_9 l0_9.length c0_9]] w fun e w' => ∃ v0_ : Value, e = .returned (v0_) ∧ Kd.R k114 114 w' w.heap.size (fun _ => True) v0_ r ∧ Below w.heap.size w w' := by
 have hu37 := Try.underlying37
 have hu114 := Try.underlying114
 have HR0_6 := K0 hr0_6
 have HC0_6 := K0 hc0_6
 clear hr0_6 hc0_6
 have HR0_7 := K0 hr0_7
 have HC0_7 := K0 hc0_7
 clear hr0_7 hc0_7
 have HR0_8 := K0 hr0_8
 have HC0_8 := K0 hc0_8
 clear hr0_8 hc0_8
 have HR0_9 := K0 hr0_9
 have HC0_9 := K0 hc0_9
 clear hr0_9 hc0_9
 have HB := K0 (Below.refl w.heap.size w)
 have H : (rev_Entries.l0 k ([] : List (S114)) l0_6 (l0_6.length : Int) 0 a0_0 a0_1 a0_2 a0_3 a0_4 a0_5 l0_6 l0_7 l0_8 l0_9) = some r := h
 clear h
 have H' := K0 H
 clear H
 go_enter Try.func53, Try.ntmps53
 go_wp2_with (first | ((with_reducible refine gate_dst (N := 1) rfl ?_); refine box_event ?hg (N := 1) ?hd (cs := #[.int .i64 a0_0, .int .i64 a0_1, .string a0_2, .string a0_3, .bool a0_4, .bool a0_5, .slice A0_6 l0_6.length c0_6, .slice A0_7 l0_7.length c0_7, .slice A0_8 l0_8.length c0_8, .slice A0_9 l0_9.length c0_9]) (t := 37) ?hr ?_; (case hd => rfl); (case hg => rfl); (case hr => first | (go_simp; done) | (go_simp; rfl)); intro gb153 hg w2 hbox hb; have n0_ := K0 (below_step (by repeat (first | (with_reducible first | exact HB.out | apply wA | apply wN | apply wD) | exact HB.out)) hb); have n1_ := K0 (hbox); have n2_ := K0 ((by rw [hg]; exact (below_size (by repeat (first | (with_reducible first | exact HB.out | apply wA | apply wN | apply wD) | exact HB.out))) : w.heap.size ≤ gb153)); have n3_ := K0 ((by rw [hg]; exact (below_size (by repeat (first | (with_reducible first | exact HB.out | apply wA | apply wN | apply wD) | exact HB.out))) : w.heap.size ≤ gb153)); clear HB; have HB := n0_; have BK153 := n1_; have GW153 := n2_; have GE153 := n3_; clear n0_ n1_ n2_ n3_; clear hb hbox hg; obtain ⟨hcz3_0, hcz3_1, hcz3_2, hcz3_3, hcz3_4, hcz3_5, hcz3_6, hcz3_7, hcz3_8, hcz3_9⟩ := cellS10 BK153.out; obtain ⟨hfz3_0, hfz3_1, hfz3_2, hfz3_3, hfz3_4, hfz3_5, hfz3_6, hfz3_7, hfz3_8, hfz3_9⟩ := frozS10 BK153.out))
 go_loopg [3, 9] k (fun kq v3 v9 w' => ∃ (x3_1 : List (S114)) (x9_1 : Int), v9 = .int .i64 x9_1 ∧ Aside0 (rev_Entries.l0 kq x3_1 l0_6 (l0_6.length : Int) x9_1 a0_0 a0_1 a0_2 a0_3 a0_4 a0_5 l0_6 l0_7 l0_8 l0_9 = some r) ∧ Aside0 (kq ≤ k) ∧ Aside0 (Kd.R k114 114 w' w.heap.size (fun _ => True) v3 x3_1) ∧ Aside0 (w'.heap[gb153]? = some (.cells #[.int .i64 a0_0, .int .i64 a0_1, .string a0_2, .string a0_3, .bool a0_4, .bool a0_5, (.slice A0_6 l0_6.length c0_6), (.slice A0_7 l0_7.length c0_7), (.slice A0_8 l0_8.length c0_8), (.slice A0_9 l0_9.length c0_9)] 37 (0, 0))) ∧ Aside0 (Below w.heap.size w w'))
 case atStart => exact ⟨(([] : List (S114))), (0), (by first | rfl | (simp; done) | (simp [*]; done)), H', ⟨Nat.le_refl _⟩, ⟨by first | exact Kd.R_nil _ _ _ _ _ | exact Kd.N_nil _ _ _ _ _ | exact Kd.V_nil _ _ _ _ _ | exact Kd.Q_nil _ _ _ _ _ | exact Kd.S_nil _ _ _ _ _⟩, ⟨by (with_reducible repeat (first | refine bN ?_ _ | refine bD ?_ | refine bA ?_ _)); exact BK153.out⟩, ⟨by repeat (first | (with_reducible first | exact HB.out | apply wA | apply wN | apply wD | refine wS ?_ GE153.out) | exact HB.out)⟩⟩
 case round =>
  clear H'
  try clear p2
  try clear hcz3_0
  try clear hcz3_1
  try clear hcz3_2
  try clear hcz3_3
  try clear hcz3_4
  try clear hcz3_5
  try clear hcz3_6
  try clear hcz3_7
  try clear hcz3_8
  try clear hcz3_9
  try clear hfz3_0
  try clear hfz3_1
  try clear hfz3_2
  try clear hfz3_3
  try clear hfz3_4
  try clear hfz3_5
  try clear hfz3_6
  try clear hfz3_7
  try clear hfz3_8
  try clear hfz3_9
  obtain ⟨x3_1, x9_1, rfl, HA, HK1, HO_3, BK153, HB⟩ := hrel
  cases gk with
  | zero => exact absurd HA.out (by simp [rev_Entries.l0])
  | succ k1 =>
   have H := HA.out; clear HA; simp only [rev_Entries.l0] at H; by_cases c4 : x9_1 < (l0_6.length : Int)
   ·
    rw [if_pos c4] at H; have c4b0 : decide (x9_1 < (l0_6.length : Int)) = true := dT c4; clear c4; by_cases c5 : 0 ≤ x9_1
    ·
     rw [if_pos c5] at H; have c5b0 : decide (0 ≤ x9_1) = true := dT c5; clear c5; by_cases c6 : x9_1 < (l0_6.length : Int)
     ·
      rw [if_pos c6] at H; have c6b0 : decide (x9_1 < (l0_6.length : Int)) = true := dT c6; clear c6; by_cases c7 : x9_1 < (l0_7.length : Int)
      ·
       rw [if_pos c7] at H; have c7b0 : decide (x9_1 < (l0_7.length : Int)) = true := dT c7; clear c7; by_cases c8 : x9_1 < (l0_8.length : Int)
       ·
        rw [if_pos c8] at H; have c8b0 : decide (x9_1 < (l0_8.length : Int)) = true := dT c8; clear c8; by_cases c9 : x3_1.length < 3518437208883
        ·
         rw [if_pos c9] at H; have LMc9 := K0 c9; clear c9; obtain ⟨y157, hy157⟩ : ∃ y_ : List (S114), y_ = (x3_1 ++ [(⟨rdOf ByteArray.empty l0_6 x9_1, rdOf ByteArray.empty l0_7 x9_1, rdOf false l0_8 x9_1⟩ : S114)]) := ⟨_, rfl⟩; replace H : (rev_Entries.l0 k1 y157 l0_6 (l0_6.length : Int) (wrap64 (x9_1 + 1)) a0_0 a0_1 a0_2 a0_3 a0_4 a0_5 l0_6 l0_7 l0_8 l0_9) = some r := by first | (rw [hy157]; with_reducible exact H) | (have H2_ := (Option.bind_some _ _).symm.trans H; rw [hy157]; with_reducible exact H2_) | (have H2_ := (Option.bind_some _ _).symm.trans H; with_reducible exact H2_) | with_reducible exact H | (rw [hy157]; exact H) | exact H
         have Ny157 := K0 hy157; clear hy157; have H' := K0 H; clear H; have p154 : 0 ≤ (x9_1 : Int) := oT (by first | (with_reducible assumption) | assumption); have q154 : x9_1 < (l0_6.length : Int) := oT (by first | (with_reducible assumption) | assumption); obtain ⟨ad154, e154, hx154_0⟩ := Kd.at_string HR0_6.out x9_1 p154 q154
         cases e154; replace hx154_0 := (HB.out.cell (bL w _ hx154_0)).trans hx154_0; replace p154 := eq_true p154; replace q154 := eq_true q154; try go_wp2
         have n0_ := K0 (rD HO_3.out); have n1_ := K0 (bD BK153.out); have n2_ := K0 (wD HB.out); clear HO_3 BK153 HB; have HO_3 := n0_; have BK153 := n1_; have HB := n2_; clear n0_ n1_ n2_; have p155 : 0 ≤ (x9_1 : Int) := oT (by first | (with_reducible assumption) | assumption); have q155 : x9_1 < (l0_7.length : Int) := oT (by first | (with_reducible assumption) | assumption); obtain ⟨ad155, e155, hx155_0⟩ := Kd.at_string HR0_7.out x9_1 p155 q155; have hw155_0 := hx155_0
         cases e155; replace hx155_0 := (HB.out.cell (bL w _ hx155_0)).trans hx155_0; replace p155 := eq_true p155; replace q155 := eq_true q155; have p156 : 0 ≤ (x9_1 : Int) := oT (by first | (with_reducible assumption) | assumption); have q156 : x9_1 < (l0_8.length : Int) := oT (by first | (with_reducible assumption) | assumption); obtain ⟨ad156, e156, hx156_0⟩ := Kd.at_bool HR0_8.out x9_1 p156 q156; have hw156_0 := hx156_0
         cases e156; replace hx156_0 := (HB.out.cell (bL w _ hx156_0)).trans hx156_0; replace p156 := eq_true p156; replace q156 := eq_true q156; refine start_ (n := 16) (S := fun w' => w'.cell? ⟨gb153, 0, none⟩ = some (.int .i64 a0_0) ∧ w'.cell? ⟨gb153, 1, none⟩ = some (.int .i64 a0_1) ∧ w'.cell? ⟨gb153, 2, none⟩ = some (.string a0_2) ∧ w'.cell? ⟨gb153, 3, none⟩ = some (.string a0_3) ∧ w'.cell? ⟨gb153, 4, none⟩ = some (.bool a0_4) ∧ w'.cell? ⟨gb153, 5, none⟩ = some (.bool a0_5) ∧ w'.cell? ⟨gb153, 6, none⟩ = some (.slice (some ad154) l0_6.length c0_6) ∧ w'.cell? ⟨gb153, 7, none⟩ = some (.slice (some ad155) l0_7.length c0_7) ∧ w'.cell? ⟨gb153, 8, none⟩ = some (.slice (some ad156) l0_8.length c0_8) ∧ w'.cell? ⟨gb153, 9, none⟩ = some (.slice A0_9 l0_9.length c0_9) ∧ w'.cell? (ad155.add (x9_1).toNat) = some (.string (rdOf ByteArray.empty l0_7 x9_1)) ∧ w'.cell? (ad156.add (x9_1).toNat) = some (.bool (rdOf false l0_8 x9_1))) (ds := []) q5_0 (by kernel_rfl) rfl rfl ⟨(bC BK153.out 0).trans rfl, (bC BK153.out 1).trans rfl, (bC BK153.out 2).trans rfl, (bC BK153.out 3).trans rfl, (bC BK153.out 4).trans rfl, (bC BK153.out 5).trans rfl, (bC BK153.out 6).trans rfl, (bC BK153.out 7).trans rfl, (bC BK153.out 8).trans rfl, (bC BK153.out 9).trans rfl, ((HB.out.cell (bL w _ hw155_0)).trans hw155_0), ((HB.out.cell (bL w _ hw156_0)).trans hw156_0)⟩ (fun hHeld => ?_); refine with_tabW rev_Entries.tab5 rev_Entries.bits5 (fun HT_ HW_ => ?_)
         generalize wr.drew = w10 at HO_3 BK153 HB hx155_0 hx156_0 hHeld ⊢; refine pure_ (i := 0) (N := some 14) (v := ?_) (a' := ?_) q5_1 rfl rfl (any_of HT_.out (by kernel_rfl)) (fun _ _ _ h => h) (Or.inl ⟨by rfl, ?_⟩) ?_ ?_; rotate_left
         · intro w'; go_simp; with_reducible rfl
         rotate_left
         · simp only [Act.put, s1, s2, s3, i64_w, i32_w]; rfl
         refine pure_ (i := 1) (N := some 15) (v := ?_) (a' := ?_) q5_2 rfl rfl (any_of HT_.out (by kernel_rfl)) (fun _ _ _ h => h) (Or.inl ⟨by rfl, ?_⟩) ?_ ?_; rotate_left
         · intro w'; go_simp; with_reducible rfl
         rotate_left
         · simp only [Act.put, s1, s2, s3, i64_w, i32_w]; rfl
         refine pure_ (i := 2) (N := some 16) (v := ?_) (a' := ?_) q5_3 rfl rfl (any_of HT_.out (by kernel_rfl)) (fun _ _ _ h => h) (Or.inl ⟨by rfl, ?_⟩) ?_ ?_; rotate_left
         · intro w'; go_simp; with_reducible rfl
         rotate_left
         · simp only [Act.put, s1, s2, s3, i64_w, i32_w]; rfl
         refine pure_ (i := 4) (N := some 18) (v := ?_) (a' := ?_) q5_4 rfl rfl (any_of HT_.out (by kernel_rfl)) (fun _ _ _ h => h) (Or.inl ⟨by rfl, ?_⟩) ?_ ?_; rotate_left
         · intro w'; go_simp; with_reducible rfl
         rotate_left
         · simp only [Act.put, s1, s2, s3, i64_w, i32_w]; rfl
         refine pure_ (i := 7) (N := some 21) (v := ?_) (a' := ?_) q5_5 rfl rfl (any_of HT_.out (by kernel_rfl)) (fun _ _ _ h => h) (Or.inl ⟨by rfl, ?_⟩) ?_ ?_; rotate_left
         · intro w'; go_simp; with_reducible rfl
         rotate_left
         · simp only [Act.put, s1, s2, s3, i64_w, i32_w]; rfl
         refine pure_ (i := 9) (N := some 23) (v := ?_) (a' := ?_) q5_6 rfl rfl (any_of HT_.out (by kernel_rfl)) (fun _ _ _ h => h) (Or.inl ⟨by rfl, ?_⟩) ?_ ?_; rotate_left
         · intro w'; go_simp; with_reducible rfl
         rotate_left
         · simp only [Act.put, s1, s2, s3, i64_w, i32_w]; rfl
         refine take_ (i := 3) (N := some 17) (v := ?_) (a' := ?_) q5_7 rfl rfl (take_ofW HT_.out HW_.out (by kernel_rfl)) (fun _ _ _ h => h) (Or.inl ⟨by rfl, ?_⟩) hHeld ?_ ?_; rotate_left
         · rintro w' ⟨s0, s1, s2, s3, s4, s5, s6, s7, s8, s9, s10, s11⟩; go_simp; with_reducible rfl
         rotate_left
         · simp only [Act.put, s1, s2, s3, i64_w, i32_w]; rfl
         refine pure_ (i := 5) (N := some 19) (v := ?_) (a' := ?_) q5_8 rfl rfl (any_of HT_.out (by kernel_rfl)) (fun _ _ _ h => h) (Or.inl ⟨by rfl, ?_⟩) ?_ ?_; rotate_left
         · intro w'; go_simp; with_reducible rfl
         rotate_left
         · simp only [Act.put, s1, s2, s3, i64_w, i32_w]; rfl
         refine take_ (i := 6) (N := some 20) (v := ?_) (a' := ?_) q5_9 rfl rfl (take_ofW HT_.out HW_.out (by kernel_rfl)) (fun _ _ _ h => h) (Or.inl ⟨by rfl, ?_⟩) hHeld ?_ ?_; rotate_left
         · rintro w' ⟨s0, s1, s2, s3, s4, s5, s6, s7, s8, s9, s10, s11⟩; go_simp; with_reducible rfl
         rotate_left
         · simp only [Act.put, s1, s2, s3, i64_w, i32_w]; rfl
         refine take_ (i := 8) (N := some 22) (v := ?_) (a' := ?_) q5_10 rfl rfl (take_ofW HT_.out HW_.out (by kernel_rfl)) (fun _ _ _ h => h) (Or.inl ⟨by rfl, ?_⟩) hHeld ?_ ?_; rotate_left
         · rintro w' ⟨s0, s1, s2, s3, s4, s5, s6, s7, s8, s9, s10, s11⟩; go_simp; with_reducible rfl
         rotate_left
         · simp only [Act.put, s1, s2, s3, i64_w, i32_w]; rfl
         refine pure_ (i := 10) (N := some 24) (v := ?_) (a' := ?_) q5_11 rfl rfl (any_of HT_.out (by kernel_rfl)) (fun _ _ _ h => h) (Or.inl ⟨by rfl, ?_⟩) ?_ ?_; rotate_left
         · intro w'; go_simp; with_reducible rfl
         rotate_left
         · simp only [Act.put, s1, s2, s3, i64_w, i32_w]; rfl
         refine take_ (i := 11) (N := some 25) (v := ?_) (a' := ?_) q5_12 rfl rfl (take_ofW HT_.out HW_.out (by kernel_rfl)) (fun _ _ _ h => h) (Or.inl ⟨by rfl, ?_⟩) hHeld ?_ ?_; rotate_left
         · rintro w' ⟨s0, s1, s2, s3, s4, s5, s6, s7, s8, s9, s10, s11⟩; go_simp; with_reducible rfl
         rotate_left
         · simp only [Act.put, s1, s2, s3, i64_w, i32_w]; rfl
         refine pure_ (i := 12) (N := some 26) (v := ?_) (a' := ?_) q5_13 rfl rfl (any_of HT_.out (by kernel_rfl)) (fun _ _ _ h => h) (Or.inl ⟨by rfl, ?_⟩) ?_ ?_; rotate_left
         · intro w'; go_simp; with_reducible rfl
         rotate_left
         · simp only [Act.put, s1, s2, s3, i64_w, i32_w]; rfl
         refine one_ (i := 13) (N := some 27) q5_14 rfl rfl (one_of HT_.out (by kernel_rfl)) (by decide) (fun K hK => ?_); refine value_ (w1 := ?_) (v := ?_) (by rfl) rfl ?_ ?_; rotate_left 2
         ·
          go_simp; constructor
          · rfl
          rfl
         refine hK.out _ _ ⟨(bC (bA BK153.out _) 0).trans rfl, (bC (bA BK153.out _) 1).trans rfl, (bC (bA BK153.out _) 2).trans rfl, (bC (bA BK153.out _) 3).trans rfl, (bC (bA BK153.out _) 4).trans rfl, (bC (bA BK153.out _) 5).trans rfl, (bC (bA BK153.out _) 6).trans rfl, (bC (bA BK153.out _) 7).trans rfl, (bC (bA BK153.out _) 8).trans rfl, (bC (bA BK153.out _) 9).trans rfl, (World.cell?_alloc_lt _ _ _ (bL _ _ (((HB.out.cell (bL w _ hw155_0)).trans hw155_0)))).trans (((HB.out.cell (bL w _ hw155_0)).trans hw155_0)), (World.cell?_alloc_lt _ _ _ (bL _ _ (((HB.out.cell (bL w _ hw156_0)).trans hw156_0)))).trans (((HB.out.cell (bL w _ hw156_0)).trans hw156_0))⟩ (fun hHeld => ?_); clear hK K; refine norm_ (a' := ?_) ?_ ?_; rotate_left
         · show Act.put _ (some 27) _ = _; simp only [Act.put, s1, s2, s3, i64_w, i32_w]; rfl
         refine one_ (i := 14) (N := some 28) q5_15 rfl rfl (one_of HT_.out (by kernel_rfl)) (by decide) (fun K hK => ?_); refine Kd.R_append_step k114 (w0 := w) w.heap.size (by rfl) (.tmp 14) (.tmp 27) 42 114 (.agg #[(.string ⟨#[]⟩), (.string ⟨#[]⟩), (.bool false)]) 40 rfl Try.underlying42 info114 rfl (by decide) (by omega) u3 x3_1 (⟨rdOf ByteArray.empty l0_6 x9_1, rdOf ByteArray.empty l0_7 x9_1, rdOf false l0_8 x9_1⟩ : S114) [.string (rdOf ByteArray.empty l0_6 x9_1), .string (rdOf ByteArray.empty l0_7 x9_1), .bool (rdOf false l0_8 x9_1)] (fun _ => True) (fun _ => False) rfl rfl ?aP (fun _ hk => hk.elim) ?aF ?aO ?aB ?aS ?aL ?_; (case aP => exact k114_mkM _ _ _ (⟨rdOf ByteArray.empty l0_6 x9_1, rdOf ByteArray.empty l0_7 x9_1, rdOf false l0_8 x9_1⟩ : S114))
         (case aB => exact (by repeat (first | (with_reducible first | exact HB.out | apply wA | apply wN | apply wD | refine wS ?_ GE153.out) | exact HB.out)))
         (case aF => exact (fun _ _ => trivial))
         (case aO => exact (by (with_reducible repeat (first | apply rA | apply rN | apply rD)); exact HO_3.out))
         (case aS => exact (below_size (by repeat (first | (with_reducible first | exact HB.out | apply wA | apply wN | apply wD | refine wS ?_ GE153.out) | exact HB.out))))
         (case aL => have := LMc9.out; omega)
         intro v158 w11 ho hb hg hat; rw [← Ny157.out] at ho; have n0_ := K0 (blk_grown (g := gb153) (o := .cells #[.int .i64 a0_0, .int .i64 a0_1, .string a0_2, .string a0_3, .bool a0_4, .bool a0_5, .slice (some ad154) l0_6.length c0_6, .slice (some ad155) l0_7.length c0_7, .slice (some ad156) l0_8.length c0_8, .slice A0_9 l0_9.length c0_9] 37 (0, 0)) (by (with_reducible repeat (first | refine bN ?_ _ | refine bD ?_ | refine bA ?_ _)); exact BK153.out) hg (Kd.R_ne HO_3.out BK153.out (by decide))); have n1_ := K0 (hb); have n2_ := K0 (ho); clear BK153 HB HO_3; have BK153 := n0_; have HB := n1_; have HO159 := n2_; clear n0_ n1_ n2_ ho hb hg hat; refine hK.out _ _ ⟨(bC BK153.out 0).trans rfl, (bC BK153.out 1).trans rfl, (bC BK153.out 2).trans rfl, (bC BK153.out 3).trans rfl, (bC BK153.out 4).trans rfl, (bC BK153.out 5).trans rfl, (bC BK153.out 6).trans rfl, (bC BK153.out 7).trans rfl, (bC BK153.out 8).trans rfl, (bC BK153.out 9).trans rfl, ((HB.out.cell (bL w _ hw155_0)).trans hw155_0), ((HB.out.cell (bL w _ hw156_0)).trans hw156_0)⟩ (fun hHeld => ?_); clear hK K; refine norm_ (a' := ?_) ?_ ?_; rotate_left
         · show Act.put _ (some 28) _ = _; simp only [Act.put, s1, s2, s3, i64_w, i32_w]; rfl
         refine pure_ (i := 15) (N := some 3) (v := ?_) (a' := ?_) q5_16 rfl rfl (any_of HT_.out (by kernel_rfl)) (fun _ _ _ h => h) (Or.inl ⟨by rfl, ?_⟩) ?_ ?_; rotate_left
         · intro w'; go_simp; with_reducible rfl
         rotate_left
         · simp only [Act.put, s1, s2, s3, i64_w, i32_w]; rfl
         refine done_ (done_of HT_.out (by kernel_rfl)) ?_; try go_wp2
         go_roundg k1
         case measure => have := HK1.out; omega
         case rel => exact ⟨(y157), (wrap64 (x9_1 + 1)), (by first | rfl | (simp; done) | (simp [*]; done)), H', ⟨by have := HK1.out; omega⟩, ⟨by (with_reducible repeat (first | apply rA | apply rN | apply rD)); exact HO159.out⟩, ⟨by (with_reducible repeat (first | refine bN ?_ _ | refine bD ?_ | refine bA ?_ _)); exact BK153.out⟩, ⟨by repeat (first | (with_reducible first | exact HB.out | apply wA | apply wN | apply wD | refine wS ?_ GE153.out) | exact HB.out)⟩⟩
        rw [if_neg c9] at H; exact absurd H (by simp)
       rw [if_neg c8] at H; exact absurd H (by simp)
      rw [if_neg c7] at H; exact absurd H (by simp)
     rw [if_neg c6] at H; exact absurd H (by simp)
    rw [if_neg c5] at H; exact absurd H (by simp)
   rw [if_neg c4] at H; have c4b0 : decide (x9_1 < (l0_6.length : Int)) = false := dF c4; clear c4; obtain rfl := Option.some.inj H; go_wp2
   go_ret; exact ⟨_, by first | rfl | (simp [errW_none, errW_some] <;> rfl) | (simp [*, errW_none, errW_some] <;> rfl), by (with_reducible repeat (first | apply rA | apply rN | apply rD)); exact HO_3.out, by repeat (first | (with_reducible first | exact HB.out | apply wA | apply wN | apply wD | refine wS ?_ GE153.out) | exact HB.out)⟩
/-! ### pace_between: function 86 -/
def pace_between.f (a0 : Int) (a1 : Int) (a2 : Int) : Option (Int) := some (mn (mx a0 a1) a2)
set_option maxHeartbeats 8000000 in
set_option maxRecDepth 100000 in
theorem pace_between.calls (a0 : Int) (a1 : Int) (a2 : Int) (r : Int) (w : World) (h : pace_between.f a0 a1 a2 = some r) :
  Calls Try.prog 86 #[.int .i64 a0, .int .i64 a1, .int .i64 a2] w fun e w' => e = .returned (.int .i64 r) ∧ Below w.heap.size w w' := by
 have HB := K0 (Below.refl w.heap.size w)
 have H : (some (mn (mx a0 a1) a2)) = some r := h
 clear h
 obtain ⟨ji4, hji4⟩ : ∃ j_ : Int, (mx a0 a1) = j_ := ⟨_, rfl⟩
 replace H : (some (mn (ji4) a2)) = some r := by first | (rw [hji4] at H; exact H) | (simp only [hji4] at H ⊢; exact H)
 have hji4_ : (if a0 < a1 then a1 else a0) = ji4 := hji4
 obtain ⟨ji5, hji5⟩ : ∃ j_ : Int, (mn (ji4) a2) = j_ := ⟨_, rfl⟩
 replace H : (some ji5) = some r := by first | (rw [hji5] at H; exact H) | (simp only [hji5] at H ⊢; exact H)
 have hji5_ : (if a2 < (ji4) then a2 else (ji4)) = ji5 := hji5
 obtain rfl := Option.some.inj H
 go_enter Try.func86, Try.ntmps86
 go_wp2
 go_ret
 exact ⟨by first | rfl | (simp [errW_none, errW_some] <;> rfl) | (simp only [← hji4, ← hji5]; first | rfl | (simp [errW_none, errW_some] <;> rfl)) | (simp [*, errW_none, errW_some] <;> rfl), by repeat (first | (with_reducible first | exact HB.out | apply wA | apply wN | apply wD) | exact HB.out)⟩
/-! ### pace_Rate: function 56 -/
def pace_Rate.f (a0 : Int) (a1 : Int) : Option (Int) := (pace_between.f a0 0 4080).bind fun t160 => ((pace_between.f a1 0 255).bind fun t161 => (some (wrap64 (t160 + (wrap64 (Int.tdiv (wrap64 ((wrap64 (16 * t161)) - t160)) 4))))))
set_option maxHeartbeats 8000000 in
set_option maxRecDepth 100000 in
theorem pace_Rate.calls (a0 : Int) (a1 : Int) (r : Int) (w : World) (h : pace_Rate.f a0 a1 = some r) :
  Calls Try.prog 56 #[.int .i64 a0, .int .i64 a1] w fun e w' => e = .returned (.int .i64 r) ∧ Below w.heap.size w w' := by
 have HB := K0 (Below.refl w.heap.size w)
 have H : ((pace_between.f a0 0 4080).bind fun t160 => ((pace_between.f a1 0 255).bind fun t161 => (some (wrap64 (t160 + (wrap64 (Int.tdiv (wrap64 ((wrap64 (16 * t161)) - t160)) 4))))))) = some r := h
 clear h
 replace H := Option.bind_eq_some_iff.mp H
 obtain ⟨t160, A30, H⟩ := H
 replace H : ((pace_between.f a1 0 255).bind fun t161 => (some (wrap64 (t160 + (wrap64 (Int.tdiv (wrap64 ((wrap64 (16 * t161)) - t160)) 4)))))) = some r := H
 have A3 := K0 A30
 clear A30
 replace H := Option.bind_eq_some_iff.mp H
 obtain ⟨t161, A40, H⟩ := H
 replace H : (some (wrap64 (t160 + (wrap64 (Int.tdiv (wrap64 ((wrap64 (16 * t161)) - t160)) 4))))) = some r := H
 have A4 := K0 A40
 clear A40
 obtain rfl := Option.some.inj H
 go_enter Try.func56, Try.ntmps56
 go_wp2_with (first | ((with_reducible refine gate_callee (f := 86) rfl ?_); refine goesL_ (some 6) rfl rfl Try.func86 (by kernel_rfl) rfl #[.int .i64 a0, .int .i64 0, .int .i64 4080] rfl (by (try simp only [List.map_toArray, List.map_cons, List.map_nil]); first | done | rfl | (simp only [lD, lT]; rfl)) ?_; (with_reducible refine (pace_between.calls a0 0 4080 t160 _ A3.out).mono ?_); rintro e w5 ⟨rfl, hb⟩; refine ⟨_, rfl, ?_⟩; have n0_ := K0 (below_step (by repeat (first | (with_reducible first | exact HB.out | apply wA | apply wN | apply wD) | exact HB.out)) hb); clear HB; have HB := n0_; clear n0_; (try clear hb); (try clear hb2); (try clear hk); (try clear hi)) | ((with_reducible refine gate_callee (f := 86) rfl ?_); refine goesL_ (some 9) rfl rfl Try.func86 (by kernel_rfl) rfl #[.int .i64 a1, .int .i64 0, .int .i64 255] rfl (by (try simp only [List.map_toArray, List.map_cons, List.map_nil]); first | done | rfl | (simp only [lD, lT]; rfl)) ?_; (with_reducible refine (pace_between.calls a1 0 255 t161 _ A4.out).mono ?_); rintro e w6 ⟨rfl, hb⟩; refine ⟨_, rfl, ?_⟩; have n0_ := K0 (below_step (by repeat (first | (with_reducible first | exact HB.out | apply wA | apply wN | apply wD) | exact HB.out)) hb); clear HB; have HB := n0_; clear n0_; (try clear hb); (try clear hb2); (try clear hk); (try clear hi)))
 go_ret
 exact ⟨by first | rfl | (simp [errW_none, errW_some] <;> rfl) | (simp [*, errW_none, errW_some] <;> rfl), by repeat (first | (with_reducible first | exact HB.out | apply wA | apply wN | apply wD) | exact HB.out)⟩
/-! ### cmp_isNaN_string: function 99 -/
def cmp_isNaN_string.f (a0 : ByteArray) : Option (Bool) := some (a0.toList != a0.toList)
set_option maxHeartbeats 8000000 in
set_option maxRecDepth 100000 in
theorem cmp_isNaN_string.calls (a0 : ByteArray) (r : Bool) (w : World) (h : cmp_isNaN_string.f a0 = some r) :
  Calls Try.prog 99 #[.string a0] w fun e w' => e = .returned (.bool r) ∧ Drawn0 w w' := by
 have H : (some (a0.toList != a0.toList)) = some r := h
 clear h
 obtain rfl := Option.some.inj H
 go_enter Try.func99, Try.ntmps99
 go_wp2
 go_ret
 exact ⟨by first | rfl | (simp; done) | (simp [*]; done), by repeat (first | exact Drawn0.refl _ | apply Drawn0.step)⟩
/-! ### cmp_Compare_string: function 87 -/
def cmp_Compare_string.f (a0 : ByteArray) (a1 : ByteArray) : Option (Int) := (cmp_isNaN_string.f a0).bind fun t162 => ((cmp_isNaN_string.f a1).bind fun t163 => (if t162 = true then (if t163 = true then (some 0) else (some (-1))) else (if t163 = true then (some 1) else (if (Op.bytesLess a0.toList a1.toList) = true then (some (-1)) else (if (Op.bytesLess a1.toList a0.toList) = true then (some 1) else (some 0))))))
set_option maxHeartbeats 8000000 in
set_option maxRecDepth 100000 in
theorem cmp_Compare_string.calls (a0 : ByteArray) (a1 : ByteArray) (r : Int) (w : World) (h : cmp_Compare_string.f a0 a1 = some r) :
  Calls Try.prog 87 #[.string a0, .string a1] w fun e w' => e = .returned (.int .i64 r) ∧ Drawn0 w w' := by
 have H : ((cmp_isNaN_string.f a0).bind fun t162 => ((cmp_isNaN_string.f a1).bind fun t163 => (if t162 = true then (if t163 = true then (some 0) else (some (-1))) else (if t163 = true then (some 1) else (if (Op.bytesLess a0.toList a1.toList) = true then (some (-1)) else (if (Op.bytesLess a1.toList a0.toList) = true then (some 1) else (some 0))))))) = some r := h
 clear h
 replace H := Option.bind_eq_some_iff.mp H
 obtain ⟨t162, A30, H⟩ := H
 replace H : ((cmp_isNaN_string.f a1).bind fun t163 => (if t162 = true then (if t163 = true then (some 0) else (some (-1))) else (if t163 = true then (some 1) else (if (Op.bytesLess a0.toList a1.toList) = true then (some (-1)) else (if (Op.bytesLess a1.toList a0.toList) = true then (some 1) else (some 0)))))) = some r := H
 have A3 := K0 A30
 clear A30
 replace H := Option.bind_eq_some_iff.mp H
 obtain ⟨t163, A40, H⟩ := H
 replace H : (if t162 = true then (if t163 = true then (some 0) else (some (-1))) else (if t163 = true then (some 1) else (if (Op.bytesLess a0.toList a1.toList) = true then (some (-1)) else (if (Op.bytesLess a1.toList a0.toList) = true then (some 1) else (some 0))))) = some r := H
 have A4 := K0 A40
 clear A40
 by_cases c5 : t162 = true
 ·
  subst c5
  have H1 : (if t163 = true then (some 0) else (some (-1))) = some r := by rw [if_pos rfl] at H; exact H
  clear H
  have H := H1
  clear H1
  by_cases c6 : t163 = true
  ·
   subst c6; have H1 : (some 0) = some r := by rw [if_pos rfl] at H; exact H
   clear H; have H := H1; clear H1; obtain rfl := Option.some.inj H; go_enter Try.func87, Try.ntmps87
   go_wp2_with (first | ((with_reducible refine gate_callee (f := 99) rfl ?_); refine goesL_ (some 8) rfl rfl Try.func99 (by kernel_rfl) rfl #[.string a0] rfl (by (try simp only [List.map_toArray, List.map_cons, List.map_nil]); first | done | rfl | (simp only [lD, lT]; rfl)) ?_; (with_reducible refine (cmp_isNaN_string.calls a0 true _ A3.out).mono ?_); rintro e w' ⟨rfl, ⟨nd, rfl⟩⟩; refine ⟨_, rfl, ?_⟩) | ((with_reducible refine gate_callee (f := 99) rfl ?_); refine goesL_ (some 10) rfl rfl Try.func99 (by kernel_rfl) rfl #[.string a1] rfl (by (try simp only [List.map_toArray, List.map_cons, List.map_nil]); first | done | rfl | (simp only [lD, lT]; rfl)) ?_; (with_reducible refine (cmp_isNaN_string.calls a1 true _ A4.out).mono ?_); rintro e w' ⟨rfl, ⟨nd, rfl⟩⟩; refine ⟨_, rfl, ?_⟩))
   go_ret; exact ⟨by first | rfl | (simp; done) | (simp [*]; done), by repeat (first | exact Drawn0.refl _ | apply Drawn0.step)⟩
  replace c6 := Bool.eq_false_iff.mpr c6
  subst c6
  have H1 : (some (-1)) = some r := by rw [if_neg (show ¬ (false = true) by decide)] at H; exact H
  clear H
  have H := H1
  clear H1
  obtain rfl := Option.some.inj H
  go_enter Try.func87, Try.ntmps87
  go_wp2_with (first | ((with_reducible refine gate_callee (f := 99) rfl ?_); refine goesL_ (some 8) rfl rfl Try.func99 (by kernel_rfl) rfl #[.string a0] rfl (by (try simp only [List.map_toArray, List.map_cons, List.map_nil]); first | done | rfl | (simp only [lD, lT]; rfl)) ?_; (with_reducible refine (cmp_isNaN_string.calls a0 true _ A3.out).mono ?_); rintro e w' ⟨rfl, ⟨nd, rfl⟩⟩; refine ⟨_, rfl, ?_⟩) | ((with_reducible refine gate_callee (f := 99) rfl ?_); refine goesL_ (some 10) rfl rfl Try.func99 (by kernel_rfl) rfl #[.string a1] rfl (by (try simp only [List.map_toArray, List.map_cons, List.map_nil]); first | done | rfl | (simp only [lD, lT]; rfl)) ?_; (with_reducible refine (cmp_isNaN_string.calls a1 false _ A4.out).mono ?_); rintro e w' ⟨rfl, ⟨nd, rfl⟩⟩; refine ⟨_, rfl, ?_⟩))
  go_ret
  exact ⟨by first | rfl | (simp; done) | (simp [*]; done), by repeat (first | exact Drawn0.refl _ | apply Drawn0.step)⟩
 replace c5 := Bool.eq_false_iff.mpr c5
 subst c5
 have H1 : (if t163 = true then (some 1) else (if (Op.bytesLess a0.toList a1.toList) = true then (some (-1)) else (if (Op.bytesLess a1.toList a0.toList) = true then (some 1) else (some 0)))) = some r := by rw [if_neg (show ¬ (false = true) by decide)] at H; exact H
 clear H
 have H := H1
 clear H1
 by_cases c7 : t163 = true
 ·
  subst c7
  have H1 : (some 1) = some r := by rw [if_pos rfl] at H; exact H
  clear H
  have H := H1
  clear H1
  obtain rfl := Option.some.inj H
  go_enter Try.func87, Try.ntmps87
  go_wp2_with (first | ((with_reducible refine gate_callee (f := 99) rfl ?_); refine goesL_ (some 8) rfl rfl Try.func99 (by kernel_rfl) rfl #[.string a0] rfl (by (try simp only [List.map_toArray, List.map_cons, List.map_nil]); first | done | rfl | (simp only [lD, lT]; rfl)) ?_; (with_reducible refine (cmp_isNaN_string.calls a0 false _ A3.out).mono ?_); rintro e w' ⟨rfl, ⟨nd, rfl⟩⟩; refine ⟨_, rfl, ?_⟩) | ((with_reducible refine gate_callee (f := 99) rfl ?_); refine goesL_ (some 10) rfl rfl Try.func99 (by kernel_rfl) rfl #[.string a1] rfl (by (try simp only [List.map_toArray, List.map_cons, List.map_nil]); first | done | rfl | (simp only [lD, lT]; rfl)) ?_; (with_reducible refine (cmp_isNaN_string.calls a1 true _ A4.out).mono ?_); rintro e w' ⟨rfl, ⟨nd, rfl⟩⟩; refine ⟨_, rfl, ?_⟩))
  go_ret
  exact ⟨by first | rfl | (simp; done) | (simp [*]; done), by repeat (first | exact Drawn0.refl _ | apply Drawn0.step)⟩
 replace c7 := Bool.eq_false_iff.mpr c7
 subst c7
 have H1 : (if (Op.bytesLess a0.toList a1.toList) = true then (some (-1)) else (if (Op.bytesLess a1.toList a0.toList) = true then (some 1) else (some 0))) = some r := by rw [if_neg (show ¬ (false = true) by decide)] at H; exact H
 clear H
 have H := H1
 clear H1
 by_cases c8 : (Op.bytesLess a0.toList a1.toList) = true
 ·
  rw [if_pos c8] at H
  have c8b0 : (Op.bytesLess a0.toList a1.toList) = true := c8
  clear c8
  obtain rfl := Option.some.inj H
  go_enter Try.func87, Try.ntmps87
  go_wp2_with (first | ((with_reducible refine gate_callee (f := 99) rfl ?_); refine goesL_ (some 8) rfl rfl Try.func99 (by kernel_rfl) rfl #[.string a0] rfl (by (try simp only [List.map_toArray, List.map_cons, List.map_nil]); first | done | rfl | (simp only [lD, lT]; rfl)) ?_; (with_reducible refine (cmp_isNaN_string.calls a0 false _ A3.out).mono ?_); rintro e w' ⟨rfl, ⟨nd, rfl⟩⟩; refine ⟨_, rfl, ?_⟩) | ((with_reducible refine gate_callee (f := 99) rfl ?_); refine goesL_ (some 10) rfl rfl Try.func99 (by kernel_rfl) rfl #[.string a1] rfl (by (try simp only [List.map_toArray, List.map_cons, List.map_nil]); first | done | rfl | (simp only [lD, lT]; rfl)) ?_; (with_reducible refine (cmp_isNaN_string.calls a1 false _ A4.out).mono ?_); rintro e w' ⟨rfl, ⟨nd, rfl⟩⟩; refine ⟨_, rfl, ?_⟩))
  go_ret
  exact ⟨by first | rfl | (simp; done) | (simp [*]; done), by repeat (first | exact Drawn0.refl _ | apply Drawn0.step)⟩
 rw [if_neg c8] at H
 have c8b0 : (Op.bytesLess a0.toList a1.toList) = false := by simpa using c8
 clear c8
 by_cases c9 : (Op.bytesLess a1.toList a0.toList) = true
 ·
  rw [if_pos c9] at H
  have c9b0 : (Op.bytesLess a1.toList a0.toList) = true := c9
  clear c9
  obtain rfl := Option.some.inj H
  go_enter Try.func87, Try.ntmps87
  go_wp2_with (first | ((with_reducible refine gate_callee (f := 99) rfl ?_); refine goesL_ (some 8) rfl rfl Try.func99 (by kernel_rfl) rfl #[.string a0] rfl (by (try simp only [List.map_toArray, List.map_cons, List.map_nil]); first | done | rfl | (simp only [lD, lT]; rfl)) ?_; (with_reducible refine (cmp_isNaN_string.calls a0 false _ A3.out).mono ?_); rintro e w' ⟨rfl, ⟨nd, rfl⟩⟩; refine ⟨_, rfl, ?_⟩) | ((with_reducible refine gate_callee (f := 99) rfl ?_); refine goesL_ (some 10) rfl rfl Try.func99 (by kernel_rfl) rfl #[.string a1] rfl (by (try simp only [List.map_toArray, List.map_cons, List.map_nil]); first | done | rfl | (simp only [lD, lT]; rfl)) ?_; (with_reducible refine (cmp_isNaN_string.calls a1 false _ A4.out).mono ?_); rintro e w' ⟨rfl, ⟨nd, rfl⟩⟩; refine ⟨_, rfl, ?_⟩))
  go_ret
  exact ⟨by first | rfl | (simp; done) | (simp [*]; done), by repeat (first | exact Drawn0.refl _ | apply Drawn0.step)⟩
 rw [if_neg c9] at H
 have c9b0 : (Op.bytesLess a1.toList a0.toList) = false := by simpa using c9
 clear c9
 obtain rfl := Option.some.inj H
 go_enter Try.func87, Try.ntmps87
 go_wp2_with (first | ((with_reducible refine gate_callee (f := 99) rfl ?_); refine goesL_ (some 8) rfl rfl Try.func99 (by kernel_rfl) rfl #[.string a0] rfl (by (try simp only [List.map_toArray, List.map_cons, List.map_nil]); first | done | rfl | (simp only [lD, lT]; rfl)) ?_; (with_reducible refine (cmp_isNaN_string.calls a0 false _ A3.out).mono ?_); rintro e w' ⟨rfl, ⟨nd, rfl⟩⟩; refine ⟨_, rfl, ?_⟩) | ((with_reducible refine gate_callee (f := 99) rfl ?_); refine goesL_ (some 10) rfl rfl Try.func99 (by kernel_rfl) rfl #[.string a1] rfl (by (try simp only [List.map_toArray, List.map_cons, List.map_nil]); first | done | rfl | (simp only [lD, lT]; rfl)) ?_; (with_reducible refine (cmp_isNaN_string.calls a1 false _ A4.out).mono ?_); rintro e w' ⟨rfl, ⟨nd, rfl⟩⟩; refine ⟨_, rfl, ?_⟩))
 go_ret
 exact ⟨by first | rfl | (simp; done) | (simp [*]; done), by repeat (first | exact Drawn0.refl _ | apply Drawn0.step)⟩
end Go.Proofs.Ytoaacdjcjicemaa.PRevBack
