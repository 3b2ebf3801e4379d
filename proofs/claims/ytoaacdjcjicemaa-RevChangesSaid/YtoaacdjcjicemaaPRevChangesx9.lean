-- written by a program of this session (the print, turned)
import Derived.Test.YtoaacdjcjicemaaPRevChangesx0
import Derived.Test.YtoaacdjcjicemaaPRevChangesx3
import Derived.Test.YtoaacdjcjicemaaPRevChangesx6
import Derived.Test.YtoaacdjcjicemaaPRevChangesx7a
import Derived.Test.YtoaacdjcjicemaaPRevChangesx7w
import Derived.Test.YtoaacdjcjicemaaPRevChangesx8
namespace Go.Proofs.Ytoaacdjcjicemaa.PRevChanges
open Go.RowKit Go.Proofs.YtoaacdjcjicemaaW.PrintWords Go.Proofs.YtoaacdjcjicemaaW.PrintLast Go.Proofs.YtoaacdjcjicemaaW.PrintMore
attribute [local go_sem] cell_self cell_there leq_str geq_str gtr_str max2_str max2_int min2_int max_two min_two max_three min_three max_four min_four   -- for this text's walks alone
set_option linter.unusedVariables false
set_option linter.unusedSimpArgs false

/-! ### rundlelaw08_RevChanges: function 5 -/
mutual
def rundlelaw08_RevChanges.j0 : Nat → List (S62) → List (S62) → ByteArray → Bool → ByteArray → ByteArray → Bool → Option (Bool)
  | 0, _, _, _, _, _, _, _ => none
  | k + 1, x1, x2, x3, x39, x311000, x311001, x311002 => if x39 = true then ((rundlelaw08_awake.f k).bind fun t315 => (some t315)) else ((rundlelaw04_Of.f x311000 x311001 x311002).bind fun bt316 => ((rundlelaw08_Of.f k x1).bind fun t319 => ((rev_New.f k 1 0 bt316.1 bt316.2.1 bt316.2.2 t319).bind fun bt322 => ((rundlelaw08_Of.f k x2).bind fun t342 => ((rev_Apply.f k bt322.1 bt322.2.1 bt322.2.2.1 bt322.2.2.2.1 bt322.2.2.2.2.1 bt322.2.2.2.2.2.1 bt322.2.2.2.2.2.2.1 bt322.2.2.2.2.2.2.2.1 bt322.2.2.2.2.2.2.2.2.1 bt322.2.2.2.2.2.2.2.2.2.1 2 t342).bind fun bt345 => (if bt322.2.2.2.2.2.2.2.2.2.2 = 0 then (rundlelaw08_RevChanges.j1 k x2 x3 bt322.2.2.2.2.2.2.2.2.2.2 bt345.2.2.2.2.2.2.2.2.2.2 (bt345.2.2.2.2.2.2.2.2.2.2 != 0) bt322.1 bt322.2.1 bt322.2.2.1 bt322.2.2.2.1 bt322.2.2.2.2.1 bt322.2.2.2.2.2.1 bt322.2.2.2.2.2.2.1 bt322.2.2.2.2.2.2.2.1 bt322.2.2.2.2.2.2.2.2.1 bt322.2.2.2.2.2.2.2.2.2.1 bt345.1 bt345.2.1 bt345.2.2.1 bt345.2.2.2.1 bt345.2.2.2.2.1 bt345.2.2.2.2.2.1 bt345.2.2.2.2.2.2.1 bt345.2.2.2.2.2.2.2.1 bt345.2.2.2.2.2.2.2.2.1 bt345.2.2.2.2.2.2.2.2.2.1) else (rundlelaw08_RevChanges.j1 k x2 x3 bt322.2.2.2.2.2.2.2.2.2.2 bt345.2.2.2.2.2.2.2.2.2.2 true bt322.1 bt322.2.1 bt322.2.2.1 bt322.2.2.2.1 bt322.2.2.2.2.1 bt322.2.2.2.2.2.1 bt322.2.2.2.2.2.2.1 bt322.2.2.2.2.2.2.2.1 bt322.2.2.2.2.2.2.2.2.1 bt322.2.2.2.2.2.2.2.2.2.1 bt345.1 bt345.2.1 bt345.2.2.1 bt345.2.2.2.1 bt345.2.2.2.2.1 bt345.2.2.2.2.2.1 bt345.2.2.2.2.2.2.1 bt345.2.2.2.2.2.2.2.1 bt345.2.2.2.2.2.2.2.2.1 bt345.2.2.2.2.2.2.2.2.2.1)))))))
def rundlelaw08_RevChanges.j1 : Nat → List (S62) → ByteArray → Int → Int → Bool → Int → Int → ByteArray → ByteArray → Bool → Bool → List ByteArray → List ByteArray → List Bool → List Int → Int → Int → ByteArray → ByteArray → Bool → Bool → List ByteArray → List ByteArray → List Bool → List Int → Option (Bool)
  | 0, _, _, _, _, _, _, _, _, _, _, _, _, _, _, _, _, _, _, _, _, _, _, _, _, _ => none
  | k + 1, x2, x3, x10, x12, x61, x342000, x342001, x342002, x342003, x342004, x342005, x342006, x342007, x342008, x342009, x365000, x365001, x365002, x365003, x365004, x365005, x365006, x365007, x365008, x365009 => if x61 = true then (if x10 = 1 then (some true) else (some (x12 == 1))) else ((rev_Get.f k x342000 x342001 x342002 x342003 x342004 x342005 x342006 x342007 x342008 x342009 x3).bind fun bt365 => (rundlelaw08_RevChanges.l0 k x2 x3 bt365.1 bt365.2 0 x365000 x365001 x365002 x365003 x365004 x365005 x365006 x365007 x365008 x365009))
def rundlelaw08_RevChanges.l0 : Nat → List (S62) → ByteArray → ByteArray → Bool → Int → Int → Int → ByteArray → ByteArray → Bool → Bool → List ByteArray → List ByteArray → List Bool → List Int → Option (Bool)
  | 0, _, _, _, _, _, _, _, _, _, _, _, _, _, _, _ => none
  | k + 1, x2, x3, x13, x14, x15, x365000, x365001, x365002, x365003, x365004, x365005, x365006, x365007, x365008, x365009 => if x15 < (x2.length : Int) then (if 0 ≤ x15 then (if ((rd_T62 x2 x15).f0).toList = x3.toList then (rundlelaw08_RevChanges.l0 k x2 x3 ((rd_T62 x2 x15).f1) (!((rd_T62 x2 x15).f2)) (wrap64 (x15 + 1)) x365000 x365001 x365002 x365003 x365004 x365005 x365006 x365007 x365008 x365009) else (rundlelaw08_RevChanges.l0 k x2 x3 x13 x14 (wrap64 (x15 + 1)) x365000 x365001 x365002 x365003 x365004 x365005 x365006 x365007 x365008 x365009)) else (none)) else ((rev_Get.f k x365000 x365001 x365002 x365003 x365004 x365005 x365006 x365007 x365008 x365009 x3).bind fun bt370 => (if x13.toList = bt370.1.toList then (if (x14 == bt370.2) = true then ((rev_Live.f k x365000 x365001 x365002 x365003 x365004 x365005 x365006 x365007 x365008 x365009).bind fun t372 => ((key_Whole.f).bind fun bt373 => ((rev_Pairs.f k x365000 x365001 x365002 x365003 x365004 x365005 x365006 x365007 x365008 x365009 bt373.1 bt373.2.1 bt373.2.2 1000).bind fun t376 => (some (t372 == (t376.length : Int)))))) else (some false)) else (some false)))
end
def rundlelaw08_RevChanges.f (k : Nat) (a0_0 : ByteArray) (a0_1 : ByteArray) (a0_2 : Bool) (l1 : List (S62)) (l2 : List (S62)) (a3 : ByteArray) : Option (Bool) := (rundlelaw08_awake.f k).bind fun t311 => (if t311 = true then ((rundlelaw08_Few.f k l1).bind fun t312 => (if t312 = 0 then (rundlelaw08_RevChanges.j0 k l1 l2 a3 true a0_0 a0_1 a0_2) else ((rundlelaw08_Few.f k l2).bind fun t313 => (if t313 = 0 then (rundlelaw08_RevChanges.j0 k l1 l2 a3 true a0_0 a0_1 a0_2) else ((rundlelaw08_short.f a0_0 a0_1 a0_2).bind fun t314 => (if t314 = true then (rundlelaw08_RevChanges.j0 k l1 l2 a3 (decide ((a3.size : Int) > 40)) a0_0 a0_1 a0_2) else (rundlelaw08_RevChanges.j0 k l1 l2 a3 true a0_0 a0_1 a0_2))))))) else (rundlelaw08_RevChanges.j0 k l1 l2 a3 true a0_0 a0_1 a0_2))
theorem rundlelaw08_RevChanges.mono_l : ∀ k, (∀ y0 y1 y2 y3 y4 y5 y6, LeO (rundlelaw08_RevChanges.j0 k y0 y1 y2 y3 y4 y5 y6) (rundlelaw08_RevChanges.j0 (k + 1) y0 y1 y2 y3 y4 y5 y6)) ∧ (∀ y0 y1 y2 y3 y4 y5 y6 y7 y8 y9 y10 y11 y12 y13 y14 y15 y16 y17 y18 y19 y20 y21 y22 y23 y24, LeO (rundlelaw08_RevChanges.j1 k y0 y1 y2 y3 y4 y5 y6 y7 y8 y9 y10 y11 y12 y13 y14 y15 y16 y17 y18 y19 y20 y21 y22 y23 y24) (rundlelaw08_RevChanges.j1 (k + 1) y0 y1 y2 y3 y4 y5 y6 y7 y8 y9 y10 y11 y12 y13 y14 y15 y16 y17 y18 y19 y20 y21 y22 y23 y24)) ∧ (∀ y0 y1 y2 y3 y4 y5 y6 y7 y8 y9 y10 y11 y12 y13 y14, LeO (rundlelaw08_RevChanges.l0 k y0 y1 y2 y3 y4 y5 y6 y7 y8 y9 y10 y11 y12 y13 y14) (rundlelaw08_RevChanges.l0 (k + 1) y0 y1 y2 y3 y4 y5 y6 y7 y8 y9 y10 y11 y12 y13 y14))
  | 0 => ⟨fun _ _ _ _ _ _ _ r h => by simp [rundlelaw08_RevChanges.j0] at h, fun _ _ _ _ _ _ _ _ _ _ _ _ _ _ _ _ _ _ _ _ _ _ _ _ _ r h => by simp [rundlelaw08_RevChanges.j1] at h, fun _ _ _ _ _ _ _ _ _ _ _ _ _ _ _ r h => by simp [rundlelaw08_RevChanges.l0] at h⟩
  | k + 1 => by
    obtain ⟨ih0, ih1, ih2⟩ := rundlelaw08_RevChanges.mono_l k
    refine ⟨?_, ?_, ?_⟩
    · intro y0 y1 y2 y3 y4 y5 y6
      unfold rundlelaw08_RevChanges.j0
      repeat' first
      | (with_reducible exact ih0 _ _ _ _ _ _ _)
      | (with_reducible exact ih1 _ _ _ _ _ _ _ _ _ _ _ _ _ _ _ _ _ _ _ _ _ _ _ _ _)
      | (with_reducible exact ih2 _ _ _ _ _ _ _ _ _ _ _ _ _ _ _)
      | (with_reducible exact rev_Apply.mono _ _ _ _ _ _ _ _ _ _ _ _ _)
      | (with_reducible exact rev_Get.mono _ _ _ _ _ _ _ _ _ _ _ _)
      | (with_reducible exact rev_Live.mono _ _ _ _ _ _ _ _ _ _ _)
      | (with_reducible exact rev_New.mono _ _ _ _ _ _ _)
      | (with_reducible exact rev_Pairs.mono _ _ _ _ _ _ _ _ _ _ _ _ _ _ _)
      | (with_reducible exact rundlelaw08_Few.mono _ _)
      | (with_reducible exact rundlelaw08_Of.mono _ _)
      | (with_reducible exact rundlelaw08_awake.mono _)
      | (with_reducible exact LeO.refl _)
      | (with_reducible exact LeO.none _)
      | (with_reducible refine LeO.ite ?_ ?_)
      | (with_reducible refine LeO.bind ?_ (fun _ => ?_))
      | exact ih0 _ _ _ _ _ _ _
      | exact ih1 _ _ _ _ _ _ _ _ _ _ _ _ _ _ _ _ _ _ _ _ _ _ _ _ _
      | exact ih2 _ _ _ _ _ _ _ _ _ _ _ _ _ _ _
      | exact rev_Apply.mono _ _ _ _ _ _ _ _ _ _ _ _ _
      | exact rev_Get.mono _ _ _ _ _ _ _ _ _ _ _ _
      | exact rev_Live.mono _ _ _ _ _ _ _ _ _ _ _
      | exact rev_New.mono _ _ _ _ _ _ _
      | exact rev_Pairs.mono _ _ _ _ _ _ _ _ _ _ _ _ _ _ _
      | exact rundlelaw08_Few.mono _ _
      | exact rundlelaw08_Of.mono _ _
      | exact rundlelaw08_awake.mono _
      | exact LeO.none _
      | refine LeO.ite ?_ ?_
      | refine LeO.bind ?_ (fun _ => ?_)
    · intro y0 y1 y2 y3 y4 y5 y6 y7 y8 y9 y10 y11 y12 y13 y14 y15 y16 y17 y18 y19 y20 y21 y22 y23 y24
      unfold rundlelaw08_RevChanges.j1
      repeat' first
      | (with_reducible exact ih0 _ _ _ _ _ _ _)
      | (with_reducible exact ih1 _ _ _ _ _ _ _ _ _ _ _ _ _ _ _ _ _ _ _ _ _ _ _ _ _)
      | (with_reducible exact ih2 _ _ _ _ _ _ _ _ _ _ _ _ _ _ _)
      | (with_reducible exact rev_Apply.mono _ _ _ _ _ _ _ _ _ _ _ _ _)
      | (with_reducible exact rev_Get.mono _ _ _ _ _ _ _ _ _ _ _ _)
      | (with_reducible exact rev_Live.mono _ _ _ _ _ _ _ _ _ _ _)
      | (with_reducible exact rev_New.mono _ _ _ _ _ _ _)
      | (with_reducible exact rev_Pairs.mono _ _ _ _ _ _ _ _ _ _ _ _ _ _ _)
      | (with_reducible exact rundlelaw08_Few.mono _ _)
      | (with_reducible exact rundlelaw08_Of.mono _ _)
      | (with_reducible exact rundlelaw08_awake.mono _)
      | (with_reducible exact LeO.refl _)
      | (with_reducible exact LeO.none _)
      | (with_reducible refine LeO.ite ?_ ?_)
      | (with_reducible refine LeO.bind ?_ (fun _ => ?_))
      | exact ih0 _ _ _ _ _ _ _
      | exact ih1 _ _ _ _ _ _ _ _ _ _ _ _ _ _ _ _ _ _ _ _ _ _ _ _ _
      | exact ih2 _ _ _ _ _ _ _ _ _ _ _ _ _ _ _
      | exact rev_Apply.mono _ _ _ _ _ _ _ _ _ _ _ _ _
      | exact rev_Get.mono _ _ _ _ _ _ _ _ _ _ _ _
      | exact rev_Live.mono _ _ _ _ _ _ _ _ _ _ _
      | exact rev_New.mono _ _ _ _ _ _ _
      | exact rev_Pairs.mono _ _ _ _ _ _ _ _ _ _ _ _ _ _ _
      | exact rundlelaw08_Few.mono _ _
      | exact rundlelaw08_Of.mono _ _
      | exact rundlelaw08_awake.mono _
      | exact LeO.none _
      | refine LeO.ite ?_ ?_
      | refine LeO.bind ?_ (fun _ => ?_)
    · intro y0 y1 y2 y3 y4 y5 y6 y7 y8 y9 y10 y11 y12 y13 y14
      unfold rundlelaw08_RevChanges.l0
      repeat' first
      | (with_reducible exact ih0 _ _ _ _ _ _ _)
      | (with_reducible exact ih1 _ _ _ _ _ _ _ _ _ _ _ _ _ _ _ _ _ _ _ _ _ _ _ _ _)
      | (with_reducible exact ih2 _ _ _ _ _ _ _ _ _ _ _ _ _ _ _)
      | (with_reducible exact rev_Apply.mono _ _ _ _ _ _ _ _ _ _ _ _ _)
      | (with_reducible exact rev_Get.mono _ _ _ _ _ _ _ _ _ _ _ _)
      | (with_reducible exact rev_Live.mono _ _ _ _ _ _ _ _ _ _ _)
      | (with_reducible exact rev_New.mono _ _ _ _ _ _ _)
      | (with_reducible exact rev_Pairs.mono _ _ _ _ _ _ _ _ _ _ _ _ _ _ _)
      | (with_reducible exact rundlelaw08_Few.mono _ _)
      | (with_reducible exact rundlelaw08_Of.mono _ _)
      | (with_reducible exact rundlelaw08_awake.mono _)
      | (with_reducible exact LeO.refl _)
      | (with_reducible exact LeO.none _)
      | (with_reducible refine LeO.ite ?_ ?_)
      | (with_reducible refine LeO.bind ?_ (fun _ => ?_))
      | exact ih0 _ _ _ _ _ _ _
      | exact ih1 _ _ _ _ _ _ _ _ _ _ _ _ _ _ _ _ _ _ _ _ _ _ _ _ _
      | exact ih2 _ _ _ _ _ _ _ _ _ _ _ _ _ _ _
      | exact rev_Apply.mono _ _ _ _ _ _ _ _ _ _ _ _ _
      | exact rev_Get.mono _ _ _ _ _ _ _ _ _ _ _ _
      | exact rev_Live.mono _ _ _ _ _ _ _ _ _ _ _
      | exact rev_New.mono _ _ _ _ _ _ _
      | exact rev_Pairs.mono _ _ _ _ _ _ _ _ _ _ _ _ _ _ _
      | exact rundlelaw08_Few.mono _ _
      | exact rundlelaw08_Of.mono _ _
      | exact rundlelaw08_awake.mono _
      | exact LeO.none _
      | refine LeO.ite ?_ ?_
      | refine LeO.bind ?_ (fun _ => ?_)
theorem rundlelaw08_RevChanges.mono : ∀ a0 a1 a2 a3 a4 a5 k, LeO (rundlelaw08_RevChanges.f k a0 a1 a2 a3 a4 a5) (rundlelaw08_RevChanges.f (k + 1) a0 a1 a2 a3 a4 a5) := by
  intro a0 a1 a2 a3 a4 a5 k
  obtain ⟨ih0, ih1, ih2⟩ := rundlelaw08_RevChanges.mono_l k
  unfold rundlelaw08_RevChanges.f
  repeat' first
      | (with_reducible exact ih0 _ _ _ _ _ _ _)
      | (with_reducible exact ih1 _ _ _ _ _ _ _ _ _ _ _ _ _ _ _ _ _ _ _ _ _ _ _ _ _)
      | (with_reducible exact ih2 _ _ _ _ _ _ _ _ _ _ _ _ _ _ _)
      | (with_reducible exact rev_Apply.mono _ _ _ _ _ _ _ _ _ _ _ _ _)
      | (with_reducible exact rev_Get.mono _ _ _ _ _ _ _ _ _ _ _ _)
      | (with_reducible exact rev_Live.mono _ _ _ _ _ _ _ _ _ _ _)
      | (with_reducible exact rev_New.mono _ _ _ _ _ _ _)
      | (with_reducible exact rev_Pairs.mono _ _ _ _ _ _ _ _ _ _ _ _ _ _ _)
      | (with_reducible exact rundlelaw08_Few.mono _ _)
      | (with_reducible exact rundlelaw08_Of.mono _ _)
      | (with_reducible exact rundlelaw08_awake.mono _)
      | (with_reducible exact LeO.refl _)
      | (with_reducible exact LeO.none _)
      | (with_reducible refine LeO.ite ?_ ?_)
      | (with_reducible refine LeO.bind ?_ (fun _ => ?_))
      | exact ih0 _ _ _ _ _ _ _
      | exact ih1 _ _ _ _ _ _ _ _ _ _ _ _ _ _ _ _ _ _ _ _ _ _ _ _ _
      | exact ih2 _ _ _ _ _ _ _ _ _ _ _ _ _ _ _
      | exact rev_Apply.mono _ _ _ _ _ _ _ _ _ _ _ _ _
      | exact rev_Get.mono _ _ _ _ _ _ _ _ _ _ _ _
      | exact rev_Live.mono _ _ _ _ _ _ _ _ _ _ _
      | exact rev_New.mono _ _ _ _ _ _ _
      | exact rev_Pairs.mono _ _ _ _ _ _ _ _ _ _ _ _ _ _ _
      | exact rundlelaw08_Few.mono _ _
      | exact rundlelaw08_Of.mono _ _
      | exact rundlelaw08_awake.mono _
      | exact LeO.none _
      | refine LeO.ite ?_ ?_
      | refine LeO.bind ?_ (fun _ => ?_)
def rundlelaw08_RevChanges.T4 : Bool × List (List Nat × List Nat) := (true, [([], []), ([], []), ([1], [1]), ([0, 2, 2], [0, 2]), ([3], [3]), ([4], [4]), ([4], [4]), ([], []), ([7, 5, 3, 0, 1, 2, 3, 4, 5, 7], [5, 7]), ([6, 8, 0, 1, 2, 3, 4, 5, 6, 7, 8], [6])])
def rundlelaw08_RevChanges.B4 : List Nat := [0, 0, 2, 7, 15, 31, 31, 0, 191, 511]
theorem rundlelaw08_RevChanges.tab4 : rtab .any (opsOf Try.f5 4) = rundlelaw08_RevChanges.T4 := by kernel_rfl
theorem rundlelaw08_RevChanges.bits4 : waitsOk rundlelaw08_RevChanges.T4.2 rundlelaw08_RevChanges.B4 = true := by kernel_rfl
def rundlelaw08_RevChanges.T12 : Bool × List (List Nat × List Nat) := (true, [([], []), ([], []), ([0, 1], [0, 1]), ([2], [2]), ([3], [3]), ([], []), ([], []), ([5, 6], [5, 6]), ([7], [7]), ([8], [8]), ([9], [9]), ([4, 0, 1, 2, 3, 4], [4]), ([10, 11, 0, 1, 2, 3, 4, 5, 6, 7, 8, 9, 10, 11], [10])])
def rundlelaw08_RevChanges.B12 : List Nat := [0, 0, 3, 7, 15, 0, 0, 96, 224, 480, 992, 31, 4095]
theorem rundlelaw08_RevChanges.tab12 : rtab .any (opsOf Try.f5 12) = rundlelaw08_RevChanges.T12 := by kernel_rfl
theorem rundlelaw08_RevChanges.bits12 : waitsOk rundlelaw08_RevChanges.T12.2 rundlelaw08_RevChanges.B12 = true := by kernel_rfl
def rundlelaw08_RevChanges.T14 : Bool × List (List Nat × List Nat) := (true, [([], []), ([], []), ([0, 1], [0, 1]), ([2], [2]), ([3], [3]), ([3], [3]), ([4, 5, 3], [3, 4, 5]), ([3, 6], [3, 6]), ([7, 3], [7]), ([8], [8]), ([9, 8, 8], [8, 9]), ([8], [8]), ([10, 8], [8]), ([11, 12, 12, 8], [8, 11, 12]), ([13, 8], [8, 13]), ([10, 14, 8], [8, 10, 14]), ([8, 15], [8, 15]), ([16, 13, 0, 1, 2, 3, 4, 5, 6, 7, 8, 9, 10, 11, 12, 13, 14, 15, 16], [16])])
def rundlelaw08_RevChanges.B14 : List Nat := [0, 0, 3, 7, 15, 15, 63, 127, 255, 511, 1023, 511, 2047, 8191, 16383, 32767, 65535, 131071]
theorem rundlelaw08_RevChanges.tab14 : rtab .any (opsOf Try.f5 14) = rundlelaw08_RevChanges.T14 := by kernel_rfl
theorem rundlelaw08_RevChanges.bits14 : waitsOk rundlelaw08_RevChanges.T14.2 rundlelaw08_RevChanges.B14 = true := by kernel_rfl
set_option maxHeartbeats 8000000 in
set_option maxRecDepth 100000 in
theorem rundlelaw08_RevChanges.calls (k : Nat) (a0_0 : ByteArray) (a0_1 : ByteArray) (a0_2 : Bool) (A1 : Option Addr) (c1 : Nat) (l1 : List (S62)) (A2 : Option Addr) (c2 : Nat) (l2 : List (S62)) (a3 : ByteArray) (r : Bool) (w : World) (hr1 : Kd.C k62 w A1 l1.length l1) (hc1 : l1.length ≤ c1) (hr2 : Kd.C k62 w A2 l2.length l2) (hc2 : l2.length ≤ c2) (h : rundlelaw08_RevChanges.f k a0_0 a0_1 a0_2 l1 l2 a3 = some r) (hrt : r = true) :
    Calls Try.prog 5 #[.agg #[.string a0_0, .string a0_1, .bool a0_2], .slice A1 l1.length c1, .slice A2 l2.length c2, .string a3] w fun e w' => e = .returned (.bool r) ∧ Below w.heap.size w w' := by
  have hu23 := Try.underlying23
  have hu37 := Try.underlying37
  have HR1 := Aside0.mk hr1
  have HC1 := Aside0.mk hc1
  clear hr1 hc1
  have HR2 := Aside0.mk hr2
  have HC2 := Aside0.mk hc2
  clear hr2 hc2
  have HB := Aside0.mk (Below.refl w.heap.size w)
  have H : ((rundlelaw08_awake.f k).bind fun t311 => (if t311 = true then ((rundlelaw08_Few.f k l1).bind fun t312 => (if t312 = 0 then (rundlelaw08_RevChanges.j0 k l1 l2 a3 true a0_0 a0_1 a0_2) else ((rundlelaw08_Few.f k l2).bind fun t313 => (if t313 = 0 then (rundlelaw08_RevChanges.j0 k l1 l2 a3 true a0_0 a0_1 a0_2) else ((rundlelaw08_short.f a0_0 a0_1 a0_2).bind fun t314 => (if t314 = true then (rundlelaw08_RevChanges.j0 k l1 l2 a3 (decide ((a3.size : Int) > 40)) a0_0 a0_1 a0_2) else (rundlelaw08_RevChanges.j0 k l1 l2 a3 true a0_0 a0_1 a0_2))))))) else (rundlelaw08_RevChanges.j0 k l1 l2 a3 true a0_0 a0_1 a0_2))) = some r := h
  clear h
  have HRT := Aside0.mk hrt
  clear hrt
  have HC5 := Aside0.mk H
  clear H
  go_enter Try.func5, Try.ntmps5
  go_upto_region 1 with (first | ((with_reducible refine gate_dst (N := 4) rfl ?_); (try (refine gate_guard (by rfl) ?_; dsimp only)); refine box_event ?hg (N := 4) ?hd (cs := #[.string a0_0, .string a0_1, .bool a0_2]) (t := 23) ?hr ?_; (case hd => rfl); (case hg => rfl); (case hr => first | (go_simp; done) | (go_simp; rfl)); intro gb310 hg w6 hbox hb; have n0_ := Aside0.mk (below_step (by repeat (first | (with_reducible first | exact HB.out | apply below_alloc | apply pw_below_drewN | apply below_drew1) | exact HB.out)) hb); have n1_ := Aside0.mk (hbox); have n2_ := Aside0.mk ((by rw [hg]; exact (below_size (by repeat (first | (with_reducible first | exact HB.out | apply below_alloc | apply pw_below_drewN | apply below_drew1) | exact HB.out))) : w.heap.size ≤ gb310)); have n3_ := Aside0.mk ((by rw [hg]; exact (below_size (by repeat (first | (with_reducible first | exact HB.out | apply below_alloc | apply pw_below_drewN | apply below_drew1) | exact HB.out))) : w.heap.size ≤ gb310)); clear HB; have HB := n0_; have BK310 := n1_; have GW310 := n2_; have GE310 := n3_; clear n0_ n1_ n2_ n3_; clear hb hbox hg))
  (try simp only [Act.put, List.setIfInBounds_toArray, List.set_cons_zero, List.set_cons_succ])
  go_cut [39] (fun v39 wc => ∃ (kq : Nat) (x39_4 : Bool), v39 = .bool x39_4 ∧ Aside0 (rundlelaw08_RevChanges.j0 kq l1 l2 a3 x39_4 a0_0 a0_1 a0_2 = some r) ∧ Aside0 (kq ≤ k) ∧ Aside0 (wc.heap[gb310]? = some (.cells #[.string a0_0, .string a0_1, .bool a0_2] 23 (0, 0))) ∧ Aside0 (Below w.heap.size w wc))
  case first =>
    have H := HC5.out
    clear HC5
    replace H := Option.bind_eq_some_iff.mp H
    obtain ⟨t311, A70, H⟩ := H
    replace H : (if t311 = true then ((rundlelaw08_Few.f k l1).bind fun t312 => (if t312 = 0 then (rundlelaw08_RevChanges.j0 k l1 l2 a3 true a0_0 a0_1 a0_2) else ((rundlelaw08_Few.f k l2).bind fun t313 => (if t313 = 0 then (rundlelaw08_RevChanges.j0 k l1 l2 a3 true a0_0 a0_1 a0_2) else ((rundlelaw08_short.f a0_0 a0_1 a0_2).bind fun t314 => (if t314 = true then (rundlelaw08_RevChanges.j0 k l1 l2 a3 (decide ((a3.size : Int) > 40)) a0_0 a0_1 a0_2) else (rundlelaw08_RevChanges.j0 k l1 l2 a3 true a0_0 a0_1 a0_2))))))) else (rundlelaw08_RevChanges.j0 k l1 l2 a3 true a0_0 a0_1 a0_2)) = some r := H
    have A7 := Aside0.mk A70
    clear A70
    by_cases c8 : t311 = true
    · subst c8
      have H1 : ((rundlelaw08_Few.f k l1).bind fun t312 => (if t312 = 0 then (rundlelaw08_RevChanges.j0 k l1 l2 a3 true a0_0 a0_1 a0_2) else ((rundlelaw08_Few.f k l2).bind fun t313 => (if t313 = 0 then (rundlelaw08_RevChanges.j0 k l1 l2 a3 true a0_0 a0_1 a0_2) else ((rundlelaw08_short.f a0_0 a0_1 a0_2).bind fun t314 => (if t314 = true then (rundlelaw08_RevChanges.j0 k l1 l2 a3 (decide ((a3.size : Int) > 40)) a0_0 a0_1 a0_2) else (rundlelaw08_RevChanges.j0 k l1 l2 a3 true a0_0 a0_1 a0_2))))))) = some r := by rw [if_pos rfl] at H; exact H
      clear H
      have H := H1
      clear H1
      replace H := Option.bind_eq_some_iff.mp H
      obtain ⟨t312, A90, H⟩ := H
      replace H : (if t312 = 0 then (rundlelaw08_RevChanges.j0 k l1 l2 a3 true a0_0 a0_1 a0_2) else ((rundlelaw08_Few.f k l2).bind fun t313 => (if t313 = 0 then (rundlelaw08_RevChanges.j0 k l1 l2 a3 true a0_0 a0_1 a0_2) else ((rundlelaw08_short.f a0_0 a0_1 a0_2).bind fun t314 => (if t314 = true then (rundlelaw08_RevChanges.j0 k l1 l2 a3 (decide ((a3.size : Int) > 40)) a0_0 a0_1 a0_2) else (rundlelaw08_RevChanges.j0 k l1 l2 a3 true a0_0 a0_1 a0_2)))))) = some r := H
      have A9 := Aside0.mk A90
      clear A90
      by_cases c10 : t312 = 0
      · rw [if_pos c10] at H
        have c10b0 : (t312 == 0) = true := beq_iff_eq.mpr c10
        have c10b1 : (t312 != 0) = false := bne_eq_false_iff_eq.mpr c10
        clear c10
        (first | rw [c10b0] | (simp only [i64_w, i32_w]; rw [c10b0]) | skip)
        have H' := Aside0.mk H
        clear H
        go_wp2_with (first | ((with_reducible refine gate_callee (f := 12) rfl ?_); refine goesL_ (some 18) rfl rfl Try.func12 (by kernel_rfl) rfl #[] rfl (by (try simp only [List.map_toArray, List.map_cons, List.map_nil]); first | done | rfl | (simp only [List.length_drop, List.length_take]; rfl)) ?_; (with_reducible refine (rundlelaw08_awake.calls k  true _ A7.out).mono ?_); rintro e w11 ⟨rfl, hb⟩; refine ⟨_, rfl, ?_⟩; have n0_ := Aside0.mk (blk_below (g := gb310) (o := .cells #[.string a0_0, .string a0_1, .bool a0_2] 23 (0, 0)) (by (with_reducible repeat (first | refine blk_drewN ?_ _ | refine blk_drew ?_ | refine blk_alloc ?_ _)); exact BK310.out) hb); have n1_ := Aside0.mk (below_step (by repeat (first | (with_reducible first | exact HB.out | apply below_alloc | apply pw_below_drewN | apply below_drew1 | refine below_set ?_ GE310.out) | exact HB.out)) hb); clear BK310; clear HB; have BK310 := n0_; have HB := n1_; clear n0_ n1_; (try clear hb); (try clear hb2); (try clear hk); (try clear hi)) | (go_at_call 13; (with_reducible refine (rundlelaw08_Few.calls k _ _ l1 t312 _ ?side1 ?side2 A9.out).mono ?_); (case side1 => repeat (first | exact (Kd.C_below HR1.out HB.out) | (with_reducible refine Kd.C_alloc ?_ _) | (with_reducible refine Kd.C_drewN ?_ _) | (with_reducible refine Kd.C_drew ?_))); (case side2 => exact HC1.out); rintro e w' ⟨rfl, ⟨nd, rfl⟩⟩))
        go_meet
        case rel => exact ⟨_, (true), (by first | rfl | (simp; done) | (simp [*]; done)), H', ⟨by first | omega | exact Nat.le_refl _⟩, ⟨by (with_reducible repeat (first | refine blk_drewN ?_ _ | refine blk_drew ?_ | refine blk_alloc ?_ _)); exact BK310.out⟩, ⟨by repeat (first | (with_reducible first | exact HB.out | apply below_alloc | apply pw_below_drewN | apply below_drew1 | refine below_set ?_ GE310.out) | exact HB.out)⟩⟩
      · rw [if_neg c10] at H
        have c10b0 : (t312 == 0) = false := beq_eq_false_iff_ne.mpr c10
        have c10b1 : (t312 != 0) = true := bne_iff_ne.mpr c10
        (first | rw [c10b0] | (simp only [i64_w, i32_w]; rw [c10b0]) | skip)
        replace H := Option.bind_eq_some_iff.mp H
        obtain ⟨t313, A120, H⟩ := H
        replace H : (if t313 = 0 then (rundlelaw08_RevChanges.j0 k l1 l2 a3 true a0_0 a0_1 a0_2) else ((rundlelaw08_short.f a0_0 a0_1 a0_2).bind fun t314 => (if t314 = true then (rundlelaw08_RevChanges.j0 k l1 l2 a3 (decide ((a3.size : Int) > 40)) a0_0 a0_1 a0_2) else (rundlelaw08_RevChanges.j0 k l1 l2 a3 true a0_0 a0_1 a0_2)))) = some r := H
        have A12 := Aside0.mk A120
        clear A120
        by_cases c13 : t313 = 0
        · rw [if_pos c13] at H
          have c13b0 : (t313 == 0) = true := beq_iff_eq.mpr c13
          have c13b1 : (t313 != 0) = false := bne_eq_false_iff_eq.mpr c13
          clear c13
          have H' := Aside0.mk H
          clear H
          go_wp2_with (first | ((with_reducible refine gate_callee (f := 12) rfl ?_); refine goesL_ (some 18) rfl rfl Try.func12 (by kernel_rfl) rfl #[] rfl (by (try simp only [List.map_toArray, List.map_cons, List.map_nil]); first | done | rfl | (simp only [List.length_drop, List.length_take]; rfl)) ?_; (with_reducible refine (rundlelaw08_awake.calls k  true _ A7.out).mono ?_); rintro e w14 ⟨rfl, hb⟩; refine ⟨_, rfl, ?_⟩; have n0_ := Aside0.mk (blk_below (g := gb310) (o := .cells #[.string a0_0, .string a0_1, .bool a0_2] 23 (0, 0)) (by (with_reducible repeat (first | refine blk_drewN ?_ _ | refine blk_drew ?_ | refine blk_alloc ?_ _)); exact BK310.out) hb); have n1_ := Aside0.mk (below_step (by repeat (first | (with_reducible first | exact HB.out | apply below_alloc | apply pw_below_drewN | apply below_drew1 | refine below_set ?_ GE310.out) | exact HB.out)) hb); clear BK310; clear HB; have BK310 := n0_; have HB := n1_; clear n0_ n1_; (try clear hb); (try clear hb2); (try clear hk); (try clear hi)) | (go_at_call 13; (with_reducible refine (rundlelaw08_Few.calls k _ _ l1 t312 _ ?side1 ?side2 A9.out).mono ?_); (case side1 => repeat (first | exact (Kd.C_below HR1.out HB.out) | (with_reducible refine Kd.C_alloc ?_ _) | (with_reducible refine Kd.C_drewN ?_ _) | (with_reducible refine Kd.C_drew ?_))); (case side2 => exact HC1.out); rintro e w' ⟨rfl, ⟨nd, rfl⟩⟩) | (go_at_call 13; (with_reducible refine (rundlelaw08_Few.calls k _ _ l2 t313 _ ?side1 ?side2 A12.out).mono ?_); (case side1 => repeat (first | exact (Kd.C_below HR2.out (by repeat (first | (with_reducible first | exact HB.out | apply below_alloc | apply pw_below_drewN | apply below_drew1 | refine below_set ?_ GE310.out) | exact HB.out))) | (with_reducible refine Kd.C_alloc ?_ _) | (with_reducible refine Kd.C_drewN ?_ _) | (with_reducible refine Kd.C_drew ?_))); (case side2 => exact HC2.out); rintro e w' ⟨rfl, ⟨nd, rfl⟩⟩))
          go_meet
          case rel => exact ⟨_, (true), (by first | rfl | (simp; done) | (simp [*]; done)), H', ⟨by first | omega | exact Nat.le_refl _⟩, ⟨by (with_reducible repeat (first | refine blk_drewN ?_ _ | refine blk_drew ?_ | refine blk_alloc ?_ _)); exact BK310.out⟩, ⟨by repeat (first | (with_reducible first | exact HB.out | apply below_alloc | apply pw_below_drewN | apply below_drew1 | refine below_set ?_ GE310.out) | exact HB.out)⟩⟩
        · rw [if_neg c13] at H
          have c13b0 : (t313 == 0) = false := beq_eq_false_iff_ne.mpr c13
          have c13b1 : (t313 != 0) = true := bne_iff_ne.mpr c13
          replace H := Option.bind_eq_some_iff.mp H
          obtain ⟨t314, A150, H⟩ := H
          replace H : (if t314 = true then (rundlelaw08_RevChanges.j0 k l1 l2 a3 (decide ((a3.size : Int) > 40)) a0_0 a0_1 a0_2) else (rundlelaw08_RevChanges.j0 k l1 l2 a3 true a0_0 a0_1 a0_2)) = some r := H
          have A15 := Aside0.mk A150
          clear A150
          by_cases c16 : t314 = true
          · subst c16
            have H1 : (rundlelaw08_RevChanges.j0 k l1 l2 a3 (decide ((a3.size : Int) > 40)) a0_0 a0_1 a0_2) = some r := by rw [if_pos rfl] at H; exact H
            clear H
            have H := H1
            clear H1
            have H' := Aside0.mk H
            clear H
            go_wp2_with (first | ((with_reducible refine gate_callee (f := 12) rfl ?_); refine goesL_ (some 18) rfl rfl Try.func12 (by kernel_rfl) rfl #[] rfl (by (try simp only [List.map_toArray, List.map_cons, List.map_nil]); first | done | rfl | (simp only [List.length_drop, List.length_take]; rfl)) ?_; (with_reducible refine (rundlelaw08_awake.calls k  true _ A7.out).mono ?_); rintro e w17 ⟨rfl, hb⟩; refine ⟨_, rfl, ?_⟩; have n0_ := Aside0.mk (blk_below (g := gb310) (o := .cells #[.string a0_0, .string a0_1, .bool a0_2] 23 (0, 0)) (by (with_reducible repeat (first | refine blk_drewN ?_ _ | refine blk_drew ?_ | refine blk_alloc ?_ _)); exact BK310.out) hb); have n1_ := Aside0.mk (below_step (by repeat (first | (with_reducible first | exact HB.out | apply below_alloc | apply pw_below_drewN | apply below_drew1 | refine below_set ?_ GE310.out) | exact HB.out)) hb); clear BK310; clear HB; have BK310 := n0_; have HB := n1_; clear n0_ n1_; (try clear hb); (try clear hb2); (try clear hk); (try clear hi)) | (go_at_call 13; (with_reducible refine (rundlelaw08_Few.calls k _ _ l1 t312 _ ?side1 ?side2 A9.out).mono ?_); (case side1 => repeat (first | exact (Kd.C_below HR1.out HB.out) | (with_reducible refine Kd.C_alloc ?_ _) | (with_reducible refine Kd.C_drewN ?_ _) | (with_reducible refine Kd.C_drew ?_))); (case side2 => exact HC1.out); rintro e w' ⟨rfl, ⟨nd, rfl⟩⟩) | (go_at_call 13; (with_reducible refine (rundlelaw08_Few.calls k _ _ l2 t313 _ ?side1 ?side2 A12.out).mono ?_); (case side1 => repeat (first | exact (Kd.C_below HR2.out (by repeat (first | (with_reducible first | exact HB.out | apply below_alloc | apply pw_below_drewN | apply below_drew1 | refine below_set ?_ GE310.out) | exact HB.out))) | (with_reducible refine Kd.C_alloc ?_ _) | (with_reducible refine Kd.C_drewN ?_ _) | (with_reducible refine Kd.C_drew ?_))); (case side2 => exact HC2.out); rintro e w' ⟨rfl, ⟨nd, rfl⟩⟩; have hcz18_0 : w17.cell? ⟨gb310, 0, none⟩ = some (.string a0_0) := (blk_cell BK310.out 0).trans rfl; have hcz18_1 : w17.cell? ⟨gb310, 1, none⟩ = some (.string a0_1) := (blk_cell BK310.out 1).trans rfl; have hcz18_2 : w17.cell? ⟨gb310, 2, none⟩ = some (.bool a0_2) := (blk_cell BK310.out 2).trans rfl; have hfz18_0 := blk_frozen BK310.out 0; have hfz18_1 := blk_frozen BK310.out 1; have hfz18_2 := blk_frozen BK310.out 2) | (go_at_call 14; (with_reducible refine (rundlelaw08_short.calls a0_0 a0_1 a0_2 true _ A15.out).mono ?_); rintro e w19 ⟨rfl, hb⟩; have n0_ := Aside0.mk (blk_below (g := gb310) (o := .cells #[.string a0_0, .string a0_1, .bool a0_2] 23 (0, 0)) (by (with_reducible repeat (first | refine blk_drewN ?_ _ | refine blk_drew ?_ | refine blk_alloc ?_ _)); exact BK310.out) hb); have n1_ := Aside0.mk (below_step (by repeat (first | (with_reducible first | exact HB.out | apply below_alloc | apply pw_below_drewN | apply below_drew1 | refine below_set ?_ GE310.out) | exact HB.out)) hb); clear BK310; clear HB; have BK310 := n0_; have HB := n1_; clear n0_ n1_; (try clear hb); (try clear hb2); (try clear hk); (try clear hi)))
            go_meet
            case rel => exact ⟨_, (decide ((a3.size : Int) > 40)), (by first | rfl | (simp; done) | (simp [*]; done)), H', ⟨by first | omega | exact Nat.le_refl _⟩, ⟨by (with_reducible repeat (first | refine blk_drewN ?_ _ | refine blk_drew ?_ | refine blk_alloc ?_ _)); exact BK310.out⟩, ⟨by repeat (first | (with_reducible first | exact HB.out | apply below_alloc | apply pw_below_drewN | apply below_drew1 | refine below_set ?_ GE310.out) | exact HB.out)⟩⟩
          · replace c16 := Bool.eq_false_iff.mpr c16
            subst c16
            have H1 : (rundlelaw08_RevChanges.j0 k l1 l2 a3 true a0_0 a0_1 a0_2) = some r := by rw [if_neg (show ¬ (false = true) by decide)] at H; exact H
            clear H
            have H := H1
            clear H1
            have H' := Aside0.mk H
            clear H
            go_wp2_with (first | ((with_reducible refine gate_callee (f := 12) rfl ?_); refine goesL_ (some 18) rfl rfl Try.func12 (by kernel_rfl) rfl #[] rfl (by (try simp only [List.map_toArray, List.map_cons, List.map_nil]); first | done | rfl | (simp only [List.length_drop, List.length_take]; rfl)) ?_; (with_reducible refine (rundlelaw08_awake.calls k  true _ A7.out).mono ?_); rintro e w20 ⟨rfl, hb⟩; refine ⟨_, rfl, ?_⟩; have n0_ := Aside0.mk (blk_below (g := gb310) (o := .cells #[.string a0_0, .string a0_1, .bool a0_2] 23 (0, 0)) (by (with_reducible repeat (first | refine blk_drewN ?_ _ | refine blk_drew ?_ | refine blk_alloc ?_ _)); exact BK310.out) hb); have n1_ := Aside0.mk (below_step (by repeat (first | (with_reducible first | exact HB.out | apply below_alloc | apply pw_below_drewN | apply below_drew1 | refine below_set ?_ GE310.out) | exact HB.out)) hb); clear BK310; clear HB; have BK310 := n0_; have HB := n1_; clear n0_ n1_; (try clear hb); (try clear hb2); (try clear hk); (try clear hi)) | (go_at_call 13; (with_reducible refine (rundlelaw08_Few.calls k _ _ l1 t312 _ ?side1 ?side2 A9.out).mono ?_); (case side1 => repeat (first | exact (Kd.C_below HR1.out HB.out) | (with_reducible refine Kd.C_alloc ?_ _) | (with_reducible refine Kd.C_drewN ?_ _) | (with_reducible refine Kd.C_drew ?_))); (case side2 => exact HC1.out); rintro e w' ⟨rfl, ⟨nd, rfl⟩⟩) | (go_at_call 13; (with_reducible refine (rundlelaw08_Few.calls k _ _ l2 t313 _ ?side1 ?side2 A12.out).mono ?_); (case side1 => repeat (first | exact (Kd.C_below HR2.out (by repeat (first | (with_reducible first | exact HB.out | apply below_alloc | apply pw_below_drewN | apply below_drew1 | refine below_set ?_ GE310.out) | exact HB.out))) | (with_reducible refine Kd.C_alloc ?_ _) | (with_reducible refine Kd.C_drewN ?_ _) | (with_reducible refine Kd.C_drew ?_))); (case side2 => exact HC2.out); rintro e w' ⟨rfl, ⟨nd, rfl⟩⟩; have hcz21_0 : w20.cell? ⟨gb310, 0, none⟩ = some (.string a0_0) := (blk_cell BK310.out 0).trans rfl; have hcz21_1 : w20.cell? ⟨gb310, 1, none⟩ = some (.string a0_1) := (blk_cell BK310.out 1).trans rfl; have hcz21_2 : w20.cell? ⟨gb310, 2, none⟩ = some (.bool a0_2) := (blk_cell BK310.out 2).trans rfl; have hfz21_0 := blk_frozen BK310.out 0; have hfz21_1 := blk_frozen BK310.out 1; have hfz21_2 := blk_frozen BK310.out 2) | (go_at_call 14; (with_reducible refine (rundlelaw08_short.calls a0_0 a0_1 a0_2 false _ A15.out).mono ?_); rintro e w22 ⟨rfl, hb⟩; have n0_ := Aside0.mk (blk_below (g := gb310) (o := .cells #[.string a0_0, .string a0_1, .bool a0_2] 23 (0, 0)) (by (with_reducible repeat (first | refine blk_drewN ?_ _ | refine blk_drew ?_ | refine blk_alloc ?_ _)); exact BK310.out) hb); have n1_ := Aside0.mk (below_step (by repeat (first | (with_reducible first | exact HB.out | apply below_alloc | apply pw_below_drewN | apply below_drew1 | refine below_set ?_ GE310.out) | exact HB.out)) hb); clear BK310; clear HB; have BK310 := n0_; have HB := n1_; clear n0_ n1_; (try clear hb); (try clear hb2); (try clear hk); (try clear hi)))
            go_meet
            case rel => exact ⟨_, (true), (by first | rfl | (simp; done) | (simp [*]; done)), H', ⟨by first | omega | exact Nat.le_refl _⟩, ⟨by (with_reducible repeat (first | refine blk_drewN ?_ _ | refine blk_drew ?_ | refine blk_alloc ?_ _)); exact BK310.out⟩, ⟨by repeat (first | (with_reducible first | exact HB.out | apply below_alloc | apply pw_below_drewN | apply below_drew1 | refine below_set ?_ GE310.out) | exact HB.out)⟩⟩
    · replace c8 := Bool.eq_false_iff.mpr c8
      subst c8
      have H1 : (rundlelaw08_RevChanges.j0 k l1 l2 a3 true a0_0 a0_1 a0_2) = some r := by rw [if_neg (show ¬ (false = true) by decide)] at H; exact H
      clear H
      have H := H1
      clear H1
      have H' := Aside0.mk H
      clear H
      go_wp2_with (first | ((with_reducible refine gate_callee (f := 12) rfl ?_); refine goesL_ (some 18) rfl rfl Try.func12 (by kernel_rfl) rfl #[] rfl (by (try simp only [List.map_toArray, List.map_cons, List.map_nil]); first | done | rfl | (simp only [List.length_drop, List.length_take]; rfl)) ?_; (with_reducible refine (rundlelaw08_awake.calls k  false _ A7.out).mono ?_); rintro e w23 ⟨rfl, hb⟩; refine ⟨_, rfl, ?_⟩; have n0_ := Aside0.mk (blk_below (g := gb310) (o := .cells #[.string a0_0, .string a0_1, .bool a0_2] 23 (0, 0)) (by (with_reducible repeat (first | refine blk_drewN ?_ _ | refine blk_drew ?_ | refine blk_alloc ?_ _)); exact BK310.out) hb); have n1_ := Aside0.mk (below_step (by repeat (first | (with_reducible first | exact HB.out | apply below_alloc | apply pw_below_drewN | apply below_drew1 | refine below_set ?_ GE310.out) | exact HB.out)) hb); clear BK310; clear HB; have BK310 := n0_; have HB := n1_; clear n0_ n1_; (try clear hb); (try clear hb2); (try clear hk); (try clear hi)))
      go_meet
      case rel => exact ⟨_, (true), (by first | rfl | (simp; done) | (simp [*]; done)), H', ⟨by first | omega | exact Nat.le_refl _⟩, ⟨by (with_reducible repeat (first | refine blk_drewN ?_ _ | refine blk_drew ?_ | refine blk_alloc ?_ _)); exact BK310.out⟩, ⟨by repeat (first | (with_reducible first | exact HB.out | apply below_alloc | apply pw_below_drewN | apply below_drew1 | refine below_set ?_ GE310.out) | exact HB.out)⟩⟩
  case rest =>
    clear HC5
    try clear c1
    try clear c2
    try clear p2
    try clear c5
    try clear c8
    try clear c10
    try clear c10b0
    try clear c10b1
    try clear c12
    try clear c13
    try clear c13b0
    try clear c13b1
    try clear c16
    try clear hcz18_0
    try clear hcz18_1
    try clear hcz18_2
    try clear hcz21_0
    try clear hcz21_1
    try clear hcz21_2
    try clear hfz18_0
    try clear hfz18_1
    try clear hfz18_2
    try clear hfz21_0
    try clear hfz21_1
    try clear hfz21_2
    obtain ⟨kq, x39_4, rfl, HA, HJ4, BK310, HB⟩ := hcut
    cases kq with
    | zero => exact absurd HA.out (by simp [rundlelaw08_RevChanges.j0])
    | succ kj4 =>
      have H := HA.out
      clear HA
      simp only [rundlelaw08_RevChanges.j0] at H
      by_cases c24 : x39_4 = true
      · subst c24
        have H1 : ((rundlelaw08_awake.f kj4).bind fun t315 => (some t315)) = some r := by rw [if_pos rfl] at H; exact H
        clear H
        have H := H1
        clear H1
        replace H := Option.bind_eq_some_iff.mp H
        obtain ⟨t315, A250, H⟩ := H
        replace H : (some t315) = some r := H
        have A25 := Aside0.mk A250
        clear A250
        obtain rfl := Option.some.inj H
        go_wp2_with (first | ((with_reducible refine gate_callee (f := 12) rfl ?_); refine goesL_ (some 40) rfl rfl Try.func12 (by kernel_rfl) rfl #[] rfl (by (try simp only [List.map_toArray, List.map_cons, List.map_nil]); first | done | rfl | (simp only [List.length_drop, List.length_take]; rfl)) ?_; (with_reducible refine (rundlelaw08_awake.calls kj4  t315 _ A25.out).mono ?_); rintro e w26 ⟨rfl, hb⟩; refine ⟨_, rfl, ?_⟩; have n0_ := Aside0.mk (blk_below (g := gb310) (o := .cells #[.string a0_0, .string a0_1, .bool a0_2] 23 (0, 0)) (by (with_reducible repeat (first | refine blk_drewN ?_ _ | refine blk_drew ?_ | refine blk_alloc ?_ _)); exact BK310.out) hb); have n1_ := Aside0.mk (below_step (by repeat (first | (with_reducible first | exact HB.out | apply below_alloc | apply pw_below_drewN | apply below_drew1 | refine below_set ?_ GE310.out) | exact HB.out)) hb); clear BK310; clear HB; have BK310 := n0_; have HB := n1_; clear n0_ n1_; (try clear hb); (try clear hb2); (try clear hk); (try clear hi)))
        go_ret
        exact ⟨by first | rfl | (simp [errW_none, errW_some] <;> rfl) | (simp [*, errW_none, errW_some] <;> rfl), by repeat (first | (with_reducible first | exact HB.out | apply below_alloc | apply pw_below_drewN | apply below_drew1 | refine below_set ?_ GE310.out) | exact HB.out)⟩
      · replace c24 := Bool.eq_false_iff.mpr c24
        subst c24
        have H1 : ((rundlelaw04_Of.f a0_0 a0_1 a0_2).bind fun bt316 => ((rundlelaw08_Of.f kj4 l1).bind fun t319 => ((rev_New.f kj4 1 0 bt316.1 bt316.2.1 bt316.2.2 t319).bind fun bt322 => ((rundlelaw08_Of.f kj4 l2).bind fun t342 => ((rev_Apply.f kj4 bt322.1 bt322.2.1 bt322.2.2.1 bt322.2.2.2.1 bt322.2.2.2.2.1 bt322.2.2.2.2.2.1 bt322.2.2.2.2.2.2.1 bt322.2.2.2.2.2.2.2.1 bt322.2.2.2.2.2.2.2.2.1 bt322.2.2.2.2.2.2.2.2.2.1 2 t342).bind fun bt345 => (if bt322.2.2.2.2.2.2.2.2.2.2 = 0 then (rundlelaw08_RevChanges.j1 kj4 l2 a3 bt322.2.2.2.2.2.2.2.2.2.2 bt345.2.2.2.2.2.2.2.2.2.2 (bt345.2.2.2.2.2.2.2.2.2.2 != 0) bt322.1 bt322.2.1 bt322.2.2.1 bt322.2.2.2.1 bt322.2.2.2.2.1 bt322.2.2.2.2.2.1 bt322.2.2.2.2.2.2.1 bt322.2.2.2.2.2.2.2.1 bt322.2.2.2.2.2.2.2.2.1 bt322.2.2.2.2.2.2.2.2.2.1 bt345.1 bt345.2.1 bt345.2.2.1 bt345.2.2.2.1 bt345.2.2.2.2.1 bt345.2.2.2.2.2.1 bt345.2.2.2.2.2.2.1 bt345.2.2.2.2.2.2.2.1 bt345.2.2.2.2.2.2.2.2.1 bt345.2.2.2.2.2.2.2.2.2.1) else (rundlelaw08_RevChanges.j1 kj4 l2 a3 bt322.2.2.2.2.2.2.2.2.2.2 bt345.2.2.2.2.2.2.2.2.2.2 true bt322.1 bt322.2.1 bt322.2.2.1 bt322.2.2.2.1 bt322.2.2.2.2.1 bt322.2.2.2.2.2.1 bt322.2.2.2.2.2.2.1 bt322.2.2.2.2.2.2.2.1 bt322.2.2.2.2.2.2.2.2.1 bt322.2.2.2.2.2.2.2.2.2.1 bt345.1 bt345.2.1 bt345.2.2.1 bt345.2.2.2.1 bt345.2.2.2.2.1 bt345.2.2.2.2.2.1 bt345.2.2.2.2.2.2.1 bt345.2.2.2.2.2.2.2.1 bt345.2.2.2.2.2.2.2.2.1 bt345.2.2.2.2.2.2.2.2.2.1))))))) = some r := by rw [if_neg (show ¬ (false = true) by decide)] at H; exact H
        clear H
        have H := H1
        clear H1
        replace H := Option.bind_eq_some_iff.mp H
        obtain ⟨⟨t316, t317, t318⟩, A270, H⟩ := H
        replace H : ((rundlelaw08_Of.f kj4 l1).bind fun t319 => ((rev_New.f kj4 1 0 t316 t317 t318 t319).bind fun bt322 => ((rundlelaw08_Of.f kj4 l2).bind fun t342 => ((rev_Apply.f kj4 bt322.1 bt322.2.1 bt322.2.2.1 bt322.2.2.2.1 bt322.2.2.2.2.1 bt322.2.2.2.2.2.1 bt322.2.2.2.2.2.2.1 bt322.2.2.2.2.2.2.2.1 bt322.2.2.2.2.2.2.2.2.1 bt322.2.2.2.2.2.2.2.2.2.1 2 t342).bind fun bt345 => (if bt322.2.2.2.2.2.2.2.2.2.2 = 0 then (rundlelaw08_RevChanges.j1 kj4 l2 a3 bt322.2.2.2.2.2.2.2.2.2.2 bt345.2.2.2.2.2.2.2.2.2.2 (bt345.2.2.2.2.2.2.2.2.2.2 != 0) bt322.1 bt322.2.1 bt322.2.2.1 bt322.2.2.2.1 bt322.2.2.2.2.1 bt322.2.2.2.2.2.1 bt322.2.2.2.2.2.2.1 bt322.2.2.2.2.2.2.2.1 bt322.2.2.2.2.2.2.2.2.1 bt322.2.2.2.2.2.2.2.2.2.1 bt345.1 bt345.2.1 bt345.2.2.1 bt345.2.2.2.1 bt345.2.2.2.2.1 bt345.2.2.2.2.2.1 bt345.2.2.2.2.2.2.1 bt345.2.2.2.2.2.2.2.1 bt345.2.2.2.2.2.2.2.2.1 bt345.2.2.2.2.2.2.2.2.2.1) else (rundlelaw08_RevChanges.j1 kj4 l2 a3 bt322.2.2.2.2.2.2.2.2.2.2 bt345.2.2.2.2.2.2.2.2.2.2 true bt322.1 bt322.2.1 bt322.2.2.1 bt322.2.2.2.1 bt322.2.2.2.2.1 bt322.2.2.2.2.2.1 bt322.2.2.2.2.2.2.1 bt322.2.2.2.2.2.2.2.1 bt322.2.2.2.2.2.2.2.2.1 bt322.2.2.2.2.2.2.2.2.2.1 bt345.1 bt345.2.1 bt345.2.2.1 bt345.2.2.2.1 bt345.2.2.2.2.1 bt345.2.2.2.2.2.1 bt345.2.2.2.2.2.2.1 bt345.2.2.2.2.2.2.2.1 bt345.2.2.2.2.2.2.2.2.1 bt345.2.2.2.2.2.2.2.2.2.1)))))) = some r := H
        have A27 := Aside0.mk A270
        clear A270
        replace H := Option.bind_eq_some_iff.mp H
        obtain ⟨t319, A280, H⟩ := H
        replace H : ((rev_New.f kj4 1 0 t316 t317 t318 t319).bind fun bt322 => ((rundlelaw08_Of.f kj4 l2).bind fun t342 => ((rev_Apply.f kj4 bt322.1 bt322.2.1 bt322.2.2.1 bt322.2.2.2.1 bt322.2.2.2.2.1 bt322.2.2.2.2.2.1 bt322.2.2.2.2.2.2.1 bt322.2.2.2.2.2.2.2.1 bt322.2.2.2.2.2.2.2.2.1 bt322.2.2.2.2.2.2.2.2.2.1 2 t342).bind fun bt345 => (if bt322.2.2.2.2.2.2.2.2.2.2 = 0 then (rundlelaw08_RevChanges.j1 kj4 l2 a3 bt322.2.2.2.2.2.2.2.2.2.2 bt345.2.2.2.2.2.2.2.2.2.2 (bt345.2.2.2.2.2.2.2.2.2.2 != 0) bt322.1 bt322.2.1 bt322.2.2.1 bt322.2.2.2.1 bt322.2.2.2.2.1 bt322.2.2.2.2.2.1 bt322.2.2.2.2.2.2.1 bt322.2.2.2.2.2.2.2.1 bt322.2.2.2.2.2.2.2.2.1 bt322.2.2.2.2.2.2.2.2.2.1 bt345.1 bt345.2.1 bt345.2.2.1 bt345.2.2.2.1 bt345.2.2.2.2.1 bt345.2.2.2.2.2.1 bt345.2.2.2.2.2.2.1 bt345.2.2.2.2.2.2.2.1 bt345.2.2.2.2.2.2.2.2.1 bt345.2.2.2.2.2.2.2.2.2.1) else (rundlelaw08_RevChanges.j1 kj4 l2 a3 bt322.2.2.2.2.2.2.2.2.2.2 bt345.2.2.2.2.2.2.2.2.2.2 true bt322.1 bt322.2.1 bt322.2.2.1 bt322.2.2.2.1 bt322.2.2.2.2.1 bt322.2.2.2.2.2.1 bt322.2.2.2.2.2.2.1 bt322.2.2.2.2.2.2.2.1 bt322.2.2.2.2.2.2.2.2.1 bt322.2.2.2.2.2.2.2.2.2.1 bt345.1 bt345.2.1 bt345.2.2.1 bt345.2.2.2.1 bt345.2.2.2.2.1 bt345.2.2.2.2.2.1 bt345.2.2.2.2.2.2.1 bt345.2.2.2.2.2.2.2.1 bt345.2.2.2.2.2.2.2.2.1 bt345.2.2.2.2.2.2.2.2.2.1))))) = some r := H
        have A28 := Aside0.mk A280
        clear A280
        replace H := Option.bind_eq_some_iff.mp H
        obtain ⟨⟨t322, t323, t324, t325, t326, t327, t328, t331, t334, t337, t340⟩, A290, H⟩ := H
        replace H : ((rundlelaw08_Of.f kj4 l2).bind fun t342 => ((rev_Apply.f kj4 t322 t323 t324 t325 t326 t327 t328 t331 t334 t337 2 t342).bind fun bt345 => (if t340 = 0 then (rundlelaw08_RevChanges.j1 kj4 l2 a3 t340 bt345.2.2.2.2.2.2.2.2.2.2 (bt345.2.2.2.2.2.2.2.2.2.2 != 0) t322 t323 t324 t325 t326 t327 t328 t331 t334 t337 bt345.1 bt345.2.1 bt345.2.2.1 bt345.2.2.2.1 bt345.2.2.2.2.1 bt345.2.2.2.2.2.1 bt345.2.2.2.2.2.2.1 bt345.2.2.2.2.2.2.2.1 bt345.2.2.2.2.2.2.2.2.1 bt345.2.2.2.2.2.2.2.2.2.1) else (rundlelaw08_RevChanges.j1 kj4 l2 a3 t340 bt345.2.2.2.2.2.2.2.2.2.2 true t322 t323 t324 t325 t326 t327 t328 t331 t334 t337 bt345.1 bt345.2.1 bt345.2.2.1 bt345.2.2.2.1 bt345.2.2.2.2.1 bt345.2.2.2.2.2.1 bt345.2.2.2.2.2.2.1 bt345.2.2.2.2.2.2.2.1 bt345.2.2.2.2.2.2.2.2.1 bt345.2.2.2.2.2.2.2.2.2.1)))) = some r := H
        have A29 := Aside0.mk A290
        clear A290
        replace H := Option.bind_eq_some_iff.mp H
        obtain ⟨t342, A300, H⟩ := H
        replace H : ((rev_Apply.f kj4 t322 t323 t324 t325 t326 t327 t328 t331 t334 t337 2 t342).bind fun bt345 => (if t340 = 0 then (rundlelaw08_RevChanges.j1 kj4 l2 a3 t340 bt345.2.2.2.2.2.2.2.2.2.2 (bt345.2.2.2.2.2.2.2.2.2.2 != 0) t322 t323 t324 t325 t326 t327 t328 t331 t334 t337 bt345.1 bt345.2.1 bt345.2.2.1 bt345.2.2.2.1 bt345.2.2.2.2.1 bt345.2.2.2.2.2.1 bt345.2.2.2.2.2.2.1 bt345.2.2.2.2.2.2.2.1 bt345.2.2.2.2.2.2.2.2.1 bt345.2.2.2.2.2.2.2.2.2.1) else (rundlelaw08_RevChanges.j1 kj4 l2 a3 t340 bt345.2.2.2.2.2.2.2.2.2.2 true t322 t323 t324 t325 t326 t327 t328 t331 t334 t337 bt345.1 bt345.2.1 bt345.2.2.1 bt345.2.2.2.1 bt345.2.2.2.2.1 bt345.2.2.2.2.2.1 bt345.2.2.2.2.2.2.1 bt345.2.2.2.2.2.2.2.1 bt345.2.2.2.2.2.2.2.2.1 bt345.2.2.2.2.2.2.2.2.2.1))) = some r := H
        have A30 := Aside0.mk A300
        clear A300
        replace H := Option.bind_eq_some_iff.mp H
        obtain ⟨⟨t345, t346, t347, t348, t349, t350, t351, t354, t357, t360, t363⟩, A310, H⟩ := H
        replace H : (if t340 = 0 then (rundlelaw08_RevChanges.j1 kj4 l2 a3 t340 t363 (t363 != 0) t322 t323 t324 t325 t326 t327 t328 t331 t334 t337 t345 t346 t347 t348 t349 t350 t351 t354 t357 t360) else (rundlelaw08_RevChanges.j1 kj4 l2 a3 t340 t363 true t322 t323 t324 t325 t326 t327 t328 t331 t334 t337 t345 t346 t347 t348 t349 t350 t351 t354 t357 t360)) = some r := H
        have A31 := Aside0.mk A310
        clear A310
        have HC32 := Aside0.mk H
        clear H
        have hcz33_0 : wc.cell? ⟨gb310, 0, none⟩ = some (.string a0_0) := (blk_cell BK310.out 0).trans rfl
        have hcz33_1 : wc.cell? ⟨gb310, 1, none⟩ = some (.string a0_1) := (blk_cell BK310.out 1).trans rfl
        have hcz33_2 : wc.cell? ⟨gb310, 2, none⟩ = some (.bool a0_2) := (blk_cell BK310.out 2).trans rfl
        have hfz33_0 := blk_frozen BK310.out 0
        have hfz33_1 := blk_frozen BK310.out 1
        have hfz33_2 := blk_frozen BK310.out 2
        try go_wp2_with (first | ((with_reducible refine gate_callee (f := 17) rfl ?_); refine goesL_ (some 43) rfl rfl Try.func17 (by kernel_rfl) rfl #[.agg #[.string a0_0, .string a0_1, .bool a0_2]] rfl (by (try simp only [List.map_toArray, List.map_cons, List.map_nil]); first | done | rfl | (simp only [List.length_drop, List.length_take]; rfl)) ?_; (with_reducible refine (rundlelaw04_Of.calls a0_0 a0_1 a0_2 t316 t317 t318 _ A27.out).mono ?_); rintro e w34 ⟨rfl, hb⟩; refine ⟨_, rfl, ?_⟩; have n0_ := Aside0.mk (blk_below (g := gb310) (o := .cells #[.string a0_0, .string a0_1, .bool a0_2] 23 (0, 0)) (by (with_reducible repeat (first | refine blk_drewN ?_ _ | refine blk_drew ?_ | refine blk_alloc ?_ _)); exact BK310.out) hb); have n1_ := Aside0.mk (below_step (by repeat (first | (with_reducible first | exact HB.out | apply below_alloc | apply pw_below_drewN | apply below_drew1 | refine below_set ?_ GE310.out) | exact HB.out)) hb); clear BK310; clear HB; have BK310 := n0_; have HB := n1_; clear n0_ n1_; (try clear hb); (try clear hb2); (try clear hk); (try clear hi)) | ((with_reducible refine gate_callee (f := 18) rfl ?_); refine goesL_ (some 45) rfl rfl Try.func18 (by kernel_rfl) rfl #[.slice A1 l1.length c1] rfl (by (try simp only [List.map_toArray, List.map_cons, List.map_nil]); first | done | rfl | (simp only [List.length_drop, List.length_take]; rfl)) ?_; (with_reducible refine (rundlelaw08_Of.calls kj4 _ _ l1 t319 _ ?side1 ?side2 A28.out).mono ?_); (case side1 => repeat (first | exact (Kd.C_below HR1.out HB.out) | (with_reducible refine Kd.C_alloc ?_ _) | (with_reducible refine Kd.C_drewN ?_ _) | (with_reducible refine Kd.C_drew ?_))); (case side2 => exact HC1.out); rintro e w35 ⟨v320, rfl, ho0, hb⟩; refine ⟨_, rfl, ?_⟩; have n0_ := Aside0.mk (Kd.R_lower ho0 (below_size (by repeat (first | (with_reducible first | exact HB.out | apply below_alloc | apply pw_below_drewN | apply below_drew1 | refine below_set ?_ GE310.out) | exact HB.out)))); have n1_ := Aside0.mk (blk_below (g := gb310) (o := .cells #[.string a0_0, .string a0_1, .bool a0_2] 23 (0, 0)) (by (with_reducible repeat (first | refine blk_drewN ?_ _ | refine blk_drew ?_ | refine blk_alloc ?_ _)); exact BK310.out) hb); have n2_ := Aside0.mk (below_step (by repeat (first | (with_reducible first | exact HB.out | apply below_alloc | apply pw_below_drewN | apply below_drew1 | refine below_set ?_ GE310.out) | exact HB.out)) hb); clear BK310; clear HB; have HO321 := n0_; have BK310 := n1_; have HB := n2_; clear n0_ n1_ n2_; (try clear hb); (try clear hb2); (try clear hk); (try clear hi); (try clear ho0); obtain ⟨Ao36, co36, eo36⟩ := Kd.R_slice HO321.out; subst eo36) | ((with_reducible refine gate_callee (f := 16) rfl ?_); refine goesL_ (some 46) rfl rfl Try.func16 (by kernel_rfl) rfl #[.int .i64 1, .int .i64 0, .agg #[.string t316, .string t317, .bool t318], .slice Ao36 t319.length co36] rfl (by (try simp only [List.map_toArray, List.map_cons, List.map_nil]); first | done | rfl | (simp only [List.length_drop, List.length_take]; rfl)) ?_; (with_reducible refine (rev_New.calls kj4 1 0 t316 t317 t318 _ _ t319 t322 t323 t324 t325 t326 t327 t328 t331 t334 t337 t340 _ ?side1 ?side2 A29.out).mono ?_); (case side1 => repeat (first | exact (Kd.R_reads' HO321.out).2.2 | (with_reducible refine Kd.C_alloc ?_ _) | (with_reducible refine Kd.C_drewN ?_ _) | (with_reducible refine Kd.C_drew ?_))); (case side2 => exact (Kd.R_reads' HO321.out).2.1); rintro e w37 ⟨v329, v332, v335, v338, rfl, ho0, ho1, ho2, ho3, hb⟩; refine ⟨_, rfl, ?_⟩; have n0_ := Aside0.mk (Kd.R_below (by (with_reducible repeat (first | apply Kd.R_alloc | apply Kd.R_drewN | apply Kd.R_drew)); exact HO321.out) hb); have n1_ := Aside0.mk (Kd.R_lower ho0 (below_size (by repeat (first | (with_reducible first | exact HB.out | apply below_alloc | apply pw_below_drewN | apply below_drew1 | refine below_set ?_ GE310.out) | exact HB.out)))); have n2_ := Aside0.mk (Kd.R_lower ho1 (below_size (by repeat (first | (with_reducible first | exact HB.out | apply below_alloc | apply pw_below_drewN | apply below_drew1 | refine below_set ?_ GE310.out) | exact HB.out)))); have n3_ := Aside0.mk (Kd.R_lower ho2 (below_size (by repeat (first | (with_reducible first | exact HB.out | apply below_alloc | apply pw_below_drewN | apply below_drew1 | refine below_set ?_ GE310.out) | exact HB.out)))); have n4_ := Aside0.mk (Kd.R_lower ho3 (below_size (by repeat (first | (with_reducible first | exact HB.out | apply below_alloc | apply pw_below_drewN | apply below_drew1 | refine below_set ?_ GE310.out) | exact HB.out)))); have n5_ := Aside0.mk (blk_below (g := gb310) (o := .cells #[.string a0_0, .string a0_1, .bool a0_2] 23 (0, 0)) (by (with_reducible repeat (first | refine blk_drewN ?_ _ | refine blk_drew ?_ | refine blk_alloc ?_ _)); exact BK310.out) hb); have n6_ := Aside0.mk (below_step (by repeat (first | (with_reducible first | exact HB.out | apply below_alloc | apply pw_below_drewN | apply below_drew1 | refine below_set ?_ GE310.out) | exact HB.out)) hb); clear HO321; clear BK310; clear HB; have HO321 := n0_; have HO330 := n1_; have HO333 := n2_; have HO336 := n3_; have HO339 := n4_; have BK310 := n5_; have HB := n6_; clear n0_ n1_ n2_ n3_ n4_ n5_ n6_; (try clear hb); (try clear hb2); (try clear hk); (try clear hi); (try clear ho0); (try clear ho1); (try clear ho2); (try clear ho3)) | ((with_reducible refine gate_dst (N := 9) rfl ?_); (try (refine gate_guard (by rfl) ?_; dsimp only)); refine box_event ?hg (N := 9) ?hd (cs := #[.int .i64 0, .int .i64 0, .string (⟨#[]⟩ : ByteArray), .string (⟨#[]⟩ : ByteArray), .bool false, .bool false, .slice none 0 0, .slice none 0 0, .slice none 0 0, .slice none 0 0]) (t := 37) ?hr ?_; (case hd => rfl); (case hg => rfl); (case hr => first | (go_simp; done) | (go_simp; rfl)); intro gb341 hg w38 hbox hb; have n0_ := Aside0.mk (Kd.R_below (by (with_reducible repeat (first | apply Kd.R_alloc | apply Kd.R_drewN | apply Kd.R_drew)); exact HO321.out) hb); have n1_ := Aside0.mk (Kd.R_below (by (with_reducible repeat (first | apply Kd.R_alloc | apply Kd.R_drewN | apply Kd.R_drew)); exact HO330.out) hb); have n2_ := Aside0.mk (Kd.R_below (by (with_reducible repeat (first | apply Kd.R_alloc | apply Kd.R_drewN | apply Kd.R_drew)); exact HO333.out) hb); have n3_ := Aside0.mk (Kd.R_below (by (with_reducible repeat (first | apply Kd.R_alloc | apply Kd.R_drewN | apply Kd.R_drew)); exact HO336.out) hb); have n4_ := Aside0.mk (Kd.R_below (by (with_reducible repeat (first | apply Kd.R_alloc | apply Kd.R_drewN | apply Kd.R_drew)); exact HO339.out) hb); have n5_ := Aside0.mk (blk_below (g := gb310) (o := .cells #[.string a0_0, .string a0_1, .bool a0_2] 23 (0, 0)) (by (with_reducible repeat (first | refine blk_drewN ?_ _ | refine blk_drew ?_ | refine blk_alloc ?_ _)); exact BK310.out) hb); have n6_ := Aside0.mk (below_step (by repeat (first | (with_reducible first | exact HB.out | apply below_alloc | apply pw_below_drewN | apply below_drew1 | refine below_set ?_ GE310.out) | exact HB.out)) hb); have n7_ := Aside0.mk (hbox); have n8_ := Aside0.mk ((by rw [hg]; exact (below_size (by repeat (first | (with_reducible first | exact HB.out | apply below_alloc | apply pw_below_drewN | apply below_drew1 | refine below_set ?_ GE310.out) | exact HB.out))) : w.heap.size ≤ gb341)); have n9_ := Aside0.mk ((by rw [hg]; exact (below_size (by repeat (first | (with_reducible first | exact HB.out | apply below_alloc | apply pw_below_drewN | apply below_drew1 | refine below_set ?_ GE310.out) | exact HB.out))) : w.heap.size ≤ gb341)); have n10_ := Aside0.mk ((by rw [hg]; exact Nat.ne_of_lt (blk_lt (g := gb310) (o := .cells #[.string a0_0, .string a0_1, .bool a0_2] 23 (0, 0)) (by (with_reducible repeat (first | refine blk_drewN ?_ _ | refine blk_drew ?_ | refine blk_alloc ?_ _)); exact BK310.out)) : gb310 ≠ gb341)); have n11_ := Aside0.mk ((by rw [hg]; exact Nat.ne_of_gt (blk_lt (g := gb310) (o := .cells #[.string a0_0, .string a0_1, .bool a0_2] 23 (0, 0)) (by (with_reducible repeat (first | refine blk_drewN ?_ _ | refine blk_drew ?_ | refine blk_alloc ?_ _)); exact BK310.out)) : gb341 ≠ gb310)); clear HO321; clear HO330; clear HO333; clear HO336; clear HO339; clear BK310; clear HB; have HO321 := n0_; have HO330 := n1_; have HO333 := n2_; have HO336 := n3_; have HO339 := n4_; have BK310 := n5_; have HB := n6_; have BK341 := n7_; have GW341 := n8_; have GE341 := n9_; have NB310_341 := n10_; have NB341_310 := n11_; clear n0_ n1_ n2_ n3_ n4_ n5_ n6_ n7_ n8_ n9_ n10_ n11_; clear hb hbox hg; have hnb39 := NB341_310.out; have hnc39 := NB310_341.out; have hcz40_0 : w38.cell? ⟨gb341, 0, none⟩ = some (.int .i64 0) := (blk_cell BK341.out 0).trans rfl; have hcz40_1 : w38.cell? ⟨gb341, 1, none⟩ = some (.int .i64 0) := (blk_cell BK341.out 1).trans rfl; have hcz40_2 : w38.cell? ⟨gb341, 2, none⟩ = some (.string (⟨#[]⟩ : ByteArray)) := (blk_cell BK341.out 2).trans rfl; have hcz40_3 : w38.cell? ⟨gb341, 3, none⟩ = some (.string (⟨#[]⟩ : ByteArray)) := (blk_cell BK341.out 3).trans rfl; have hcz40_4 : w38.cell? ⟨gb341, 4, none⟩ = some (.bool false) := (blk_cell BK341.out 4).trans rfl; have hcz40_5 : w38.cell? ⟨gb341, 5, none⟩ = some (.bool false) := (blk_cell BK341.out 5).trans rfl; have hcz40_6 : w38.cell? ⟨gb341, 6, none⟩ = some (.slice none 0 0) := (blk_cell BK341.out 6).trans rfl; have hcz40_7 : w38.cell? ⟨gb341, 7, none⟩ = some (.slice none 0 0) := (blk_cell BK341.out 7).trans rfl; have hcz40_8 : w38.cell? ⟨gb341, 8, none⟩ = some (.slice none 0 0) := (blk_cell BK341.out 8).trans rfl; have hcz40_9 : w38.cell? ⟨gb341, 9, none⟩ = some (.slice none 0 0) := (blk_cell BK341.out 9).trans rfl; have hfz40_0 := blk_frozen BK341.out 0; have hfz40_1 := blk_frozen BK341.out 1; have hfz40_2 := blk_frozen BK341.out 2; have hfz40_3 := blk_frozen BK341.out 3; have hfz40_4 := blk_frozen BK341.out 4; have hfz40_5 := blk_frozen BK341.out 5; have hfz40_6 := blk_frozen BK341.out 6; have hfz40_7 := blk_frozen BK341.out 7; have hfz40_8 := blk_frozen BK341.out 8; have hfz40_9 := blk_frozen BK341.out 9; obtain ⟨Ao41, co41, eo41⟩ := Kd.R_slice HO330.out; subst eo41; obtain ⟨Ao42, co42, eo42⟩ := Kd.R_slice HO333.out; subst eo42; obtain ⟨Ao43, co43, eo43⟩ := Kd.R_slice HO336.out; subst eo43; obtain ⟨Ao44, co44, eo44⟩ := Kd.R_slice HO339.out; subst eo44))
        have n0_ : Aside0 (Kd.R k114 114 ((((((((((w38.setCell ⟨gb341, 0, none⟩ (.int .i64 t322)).setCell ⟨gb341, 1, none⟩ (.int .i64 t323)).setCell ⟨gb341, 2, none⟩ (.string t324)).setCell ⟨gb341, 3, none⟩ (.string t325)).setCell ⟨gb341, 4, none⟩ (.bool t326)).setCell ⟨gb341, 5, none⟩ (.bool t327)).setCell ⟨gb341, 6, none⟩ (.slice Ao41 t328.length co41)).setCell ⟨gb341, 7, none⟩ (.slice Ao42 t331.length co42)).setCell ⟨gb341, 8, none⟩ (.slice Ao43 t334.length co43)).setCell ⟨gb341, 9, none⟩ (.slice Ao44 t337.length co44)) w.heap.size (fun _ => True) (.slice Ao36 t319.length co36) t319) := ⟨by (with_reducible repeat (first | apply Kd.R_alloc | apply Kd.R_drewN | apply Kd.R_drew)); exact Kd.R_mono (Kd.R_far (p := ⟨gb341, 9, none⟩) (Kd.R_far (p := ⟨gb341, 8, none⟩) (Kd.R_far (p := ⟨gb341, 7, none⟩) (Kd.R_far (p := ⟨gb341, 6, none⟩) (Kd.R_far (p := ⟨gb341, 5, none⟩) (Kd.R_far (p := ⟨gb341, 4, none⟩) (Kd.R_far (p := ⟨gb341, 3, none⟩) (Kd.R_far (p := ⟨gb341, 2, none⟩) (Kd.R_far (p := ⟨gb341, 1, none⟩) (Kd.R_far (p := ⟨gb341, 0, none⟩) (Kd.R_types HO321.out BK341.out (by decide)) (fun _ hk => hk.2) (.int .i64 t322)) (fun _ hk => hk.2) (.int .i64 t323)) (fun _ hk => hk.2) (.string t324)) (fun _ hk => hk.2) (.string t325)) (fun _ hk => hk.2) (.bool t326)) (fun _ hk => hk.2) (.bool t327)) (fun _ hk => hk.2) (.slice Ao41 t328.length co41)) (fun _ hk => hk.2) (.slice Ao42 t331.length co42)) (fun _ hk => hk.2) (.slice Ao43 t334.length co43)) (fun _ hk => hk.2) (.slice Ao44 t337.length co44)) (fun _ hk => trivial)⟩
        have n1_ : Aside0 (Kd.R Kd.string 9 ((((((((((w38.setCell ⟨gb341, 0, none⟩ (.int .i64 t322)).setCell ⟨gb341, 1, none⟩ (.int .i64 t323)).setCell ⟨gb341, 2, none⟩ (.string t324)).setCell ⟨gb341, 3, none⟩ (.string t325)).setCell ⟨gb341, 4, none⟩ (.bool t326)).setCell ⟨gb341, 5, none⟩ (.bool t327)).setCell ⟨gb341, 6, none⟩ (.slice Ao41 t328.length co41)).setCell ⟨gb341, 7, none⟩ (.slice Ao42 t331.length co42)).setCell ⟨gb341, 8, none⟩ (.slice Ao43 t334.length co43)).setCell ⟨gb341, 9, none⟩ (.slice Ao44 t337.length co44)) w.heap.size (fun k_ => some k_ ≠ (.slice Ao42 t331.length co42 : Value).ownBlock) (.slice Ao41 t328.length co41) t328) := ⟨by (with_reducible repeat (first | apply Kd.R_alloc | apply Kd.R_drewN | apply Kd.R_drew)); exact Kd.R_mono (Kd.R_far (p := ⟨gb341, 9, none⟩) (Kd.R_far (p := ⟨gb341, 8, none⟩) (Kd.R_far (p := ⟨gb341, 7, none⟩) (Kd.R_far (p := ⟨gb341, 6, none⟩) (Kd.R_far (p := ⟨gb341, 5, none⟩) (Kd.R_far (p := ⟨gb341, 4, none⟩) (Kd.R_far (p := ⟨gb341, 3, none⟩) (Kd.R_far (p := ⟨gb341, 2, none⟩) (Kd.R_far (p := ⟨gb341, 1, none⟩) (Kd.R_far (p := ⟨gb341, 0, none⟩) (Kd.R_types HO330.out BK341.out (by decide)) (fun _ hk => hk.2) (.int .i64 t322)) (fun _ hk => hk.2) (.int .i64 t323)) (fun _ hk => hk.2) (.string t324)) (fun _ hk => hk.2) (.string t325)) (fun _ hk => hk.2) (.bool t326)) (fun _ hk => hk.2) (.bool t327)) (fun _ hk => hk.2) (.slice Ao41 t328.length co41)) (fun _ hk => hk.2) (.slice Ao42 t331.length co42)) (fun _ hk => hk.2) (.slice Ao43 t334.length co43)) (fun _ hk => hk.2) (.slice Ao44 t337.length co44)) (fun _ hk => hk.1)⟩
        have n2_ : Aside0 (Kd.R Kd.string 9 ((((((((((w38.setCell ⟨gb341, 0, none⟩ (.int .i64 t322)).setCell ⟨gb341, 1, none⟩ (.int .i64 t323)).setCell ⟨gb341, 2, none⟩ (.string t324)).setCell ⟨gb341, 3, none⟩ (.string t325)).setCell ⟨gb341, 4, none⟩ (.bool t326)).setCell ⟨gb341, 5, none⟩ (.bool t327)).setCell ⟨gb341, 6, none⟩ (.slice Ao41 t328.length co41)).setCell ⟨gb341, 7, none⟩ (.slice Ao42 t331.length co42)).setCell ⟨gb341, 8, none⟩ (.slice Ao43 t334.length co43)).setCell ⟨gb341, 9, none⟩ (.slice Ao44 t337.length co44)) w.heap.size (fun k_ => some k_ ≠ (.slice Ao41 t328.length co41 : Value).ownBlock) (.slice Ao42 t331.length co42) t331) := ⟨by (with_reducible repeat (first | apply Kd.R_alloc | apply Kd.R_drewN | apply Kd.R_drew)); exact Kd.R_mono (Kd.R_far (p := ⟨gb341, 9, none⟩) (Kd.R_far (p := ⟨gb341, 8, none⟩) (Kd.R_far (p := ⟨gb341, 7, none⟩) (Kd.R_far (p := ⟨gb341, 6, none⟩) (Kd.R_far (p := ⟨gb341, 5, none⟩) (Kd.R_far (p := ⟨gb341, 4, none⟩) (Kd.R_far (p := ⟨gb341, 3, none⟩) (Kd.R_far (p := ⟨gb341, 2, none⟩) (Kd.R_far (p := ⟨gb341, 1, none⟩) (Kd.R_far (p := ⟨gb341, 0, none⟩) (Kd.R_types HO333.out BK341.out (by decide)) (fun _ hk => hk.2) (.int .i64 t322)) (fun _ hk => hk.2) (.int .i64 t323)) (fun _ hk => hk.2) (.string t324)) (fun _ hk => hk.2) (.string t325)) (fun _ hk => hk.2) (.bool t326)) (fun _ hk => hk.2) (.bool t327)) (fun _ hk => hk.2) (.slice Ao41 t328.length co41)) (fun _ hk => hk.2) (.slice Ao42 t331.length co42)) (fun _ hk => hk.2) (.slice Ao43 t334.length co43)) (fun _ hk => hk.2) (.slice Ao44 t337.length co44)) (fun _ hk => hk.1)⟩
        have n3_ : Aside0 (Kd.R Kd.bool 4 ((((((((((w38.setCell ⟨gb341, 0, none⟩ (.int .i64 t322)).setCell ⟨gb341, 1, none⟩ (.int .i64 t323)).setCell ⟨gb341, 2, none⟩ (.string t324)).setCell ⟨gb341, 3, none⟩ (.string t325)).setCell ⟨gb341, 4, none⟩ (.bool t326)).setCell ⟨gb341, 5, none⟩ (.bool t327)).setCell ⟨gb341, 6, none⟩ (.slice Ao41 t328.length co41)).setCell ⟨gb341, 7, none⟩ (.slice Ao42 t331.length co42)).setCell ⟨gb341, 8, none⟩ (.slice Ao43 t334.length co43)).setCell ⟨gb341, 9, none⟩ (.slice Ao44 t337.length co44)) w.heap.size (fun _ => True) (.slice Ao43 t334.length co43) t334) := ⟨by (with_reducible repeat (first | apply Kd.R_alloc | apply Kd.R_drewN | apply Kd.R_drew)); exact Kd.R_mono (Kd.R_far (p := ⟨gb341, 9, none⟩) (Kd.R_far (p := ⟨gb341, 8, none⟩) (Kd.R_far (p := ⟨gb341, 7, none⟩) (Kd.R_far (p := ⟨gb341, 6, none⟩) (Kd.R_far (p := ⟨gb341, 5, none⟩) (Kd.R_far (p := ⟨gb341, 4, none⟩) (Kd.R_far (p := ⟨gb341, 3, none⟩) (Kd.R_far (p := ⟨gb341, 2, none⟩) (Kd.R_far (p := ⟨gb341, 1, none⟩) (Kd.R_far (p := ⟨gb341, 0, none⟩) (Kd.R_types HO336.out BK341.out (by decide)) (fun _ hk => hk.2) (.int .i64 t322)) (fun _ hk => hk.2) (.int .i64 t323)) (fun _ hk => hk.2) (.string t324)) (fun _ hk => hk.2) (.string t325)) (fun _ hk => hk.2) (.bool t326)) (fun _ hk => hk.2) (.bool t327)) (fun _ hk => hk.2) (.slice Ao41 t328.length co41)) (fun _ hk => hk.2) (.slice Ao42 t331.length co42)) (fun _ hk => hk.2) (.slice Ao43 t334.length co43)) (fun _ hk => hk.2) (.slice Ao44 t337.length co44)) (fun _ hk => trivial)⟩
        have n4_ : Aside0 (Kd.R (Kd.int .i64) 3 ((((((((((w38.setCell ⟨gb341, 0, none⟩ (.int .i64 t322)).setCell ⟨gb341, 1, none⟩ (.int .i64 t323)).setCell ⟨gb341, 2, none⟩ (.string t324)).setCell ⟨gb341, 3, none⟩ (.string t325)).setCell ⟨gb341, 4, none⟩ (.bool t326)).setCell ⟨gb341, 5, none⟩ (.bool t327)).setCell ⟨gb341, 6, none⟩ (.slice Ao41 t328.length co41)).setCell ⟨gb341, 7, none⟩ (.slice Ao42 t331.length co42)).setCell ⟨gb341, 8, none⟩ (.slice Ao43 t334.length co43)).setCell ⟨gb341, 9, none⟩ (.slice Ao44 t337.length co44)) w.heap.size (fun _ => True) (.slice Ao44 t337.length co44) t337) := ⟨by (with_reducible repeat (first | apply Kd.R_alloc | apply Kd.R_drewN | apply Kd.R_drew)); exact Kd.R_mono (Kd.R_far (p := ⟨gb341, 9, none⟩) (Kd.R_far (p := ⟨gb341, 8, none⟩) (Kd.R_far (p := ⟨gb341, 7, none⟩) (Kd.R_far (p := ⟨gb341, 6, none⟩) (Kd.R_far (p := ⟨gb341, 5, none⟩) (Kd.R_far (p := ⟨gb341, 4, none⟩) (Kd.R_far (p := ⟨gb341, 3, none⟩) (Kd.R_far (p := ⟨gb341, 2, none⟩) (Kd.R_far (p := ⟨gb341, 1, none⟩) (Kd.R_far (p := ⟨gb341, 0, none⟩) (Kd.R_types HO339.out BK341.out (by decide)) (fun _ hk => hk.2) (.int .i64 t322)) (fun _ hk => hk.2) (.int .i64 t323)) (fun _ hk => hk.2) (.string t324)) (fun _ hk => hk.2) (.string t325)) (fun _ hk => hk.2) (.bool t326)) (fun _ hk => hk.2) (.bool t327)) (fun _ hk => hk.2) (.slice Ao41 t328.length co41)) (fun _ hk => hk.2) (.slice Ao42 t331.length co42)) (fun _ hk => hk.2) (.slice Ao43 t334.length co43)) (fun _ hk => hk.2) (.slice Ao44 t337.length co44)) (fun _ hk => trivial)⟩
        have n5_ : Aside0 (((((((((((w38.setCell ⟨gb341, 0, none⟩ (.int .i64 t322)).setCell ⟨gb341, 1, none⟩ (.int .i64 t323)).setCell ⟨gb341, 2, none⟩ (.string t324)).setCell ⟨gb341, 3, none⟩ (.string t325)).setCell ⟨gb341, 4, none⟩ (.bool t326)).setCell ⟨gb341, 5, none⟩ (.bool t327)).setCell ⟨gb341, 6, none⟩ (.slice Ao41 t328.length co41)).setCell ⟨gb341, 7, none⟩ (.slice Ao42 t331.length co42)).setCell ⟨gb341, 8, none⟩ (.slice Ao43 t334.length co43)).setCell ⟨gb341, 9, none⟩ (.slice Ao44 t337.length co44)).heap[gb310]? = some (.cells #[.string a0_0, .string a0_1, .bool a0_2] 23 (0, 0))) := ⟨by (with_reducible repeat (first | refine blk_drewN ?_ _ | refine blk_drew ?_ | refine blk_alloc ?_ _)); refine blk_far ?_ NB310_341.out _; (with_reducible repeat (first | refine blk_drewN ?_ _ | refine blk_drew ?_ | refine blk_alloc ?_ _)); refine blk_far ?_ NB310_341.out _; (with_reducible repeat (first | refine blk_drewN ?_ _ | refine blk_drew ?_ | refine blk_alloc ?_ _)); refine blk_far ?_ NB310_341.out _; (with_reducible repeat (first | refine blk_drewN ?_ _ | refine blk_drew ?_ | refine blk_alloc ?_ _)); refine blk_far ?_ NB310_341.out _; (with_reducible repeat (first | refine blk_drewN ?_ _ | refine blk_drew ?_ | refine blk_alloc ?_ _)); refine blk_far ?_ NB310_341.out _; (with_reducible repeat (first | refine blk_drewN ?_ _ | refine blk_drew ?_ | refine blk_alloc ?_ _)); refine blk_far ?_ NB310_341.out _; (with_reducible repeat (first | refine blk_drewN ?_ _ | refine blk_drew ?_ | refine blk_alloc ?_ _)); refine blk_far ?_ NB310_341.out _; (with_reducible repeat (first | refine blk_drewN ?_ _ | refine blk_drew ?_ | refine blk_alloc ?_ _)); refine blk_far ?_ NB310_341.out _; (with_reducible repeat (first | refine blk_drewN ?_ _ | refine blk_drew ?_ | refine blk_alloc ?_ _)); refine blk_far ?_ NB310_341.out _; (with_reducible repeat (first | refine blk_drewN ?_ _ | refine blk_drew ?_ | refine blk_alloc ?_ _)); refine blk_far ?_ NB310_341.out _; (with_reducible repeat (first | refine blk_drewN ?_ _ | refine blk_drew ?_ | refine blk_alloc ?_ _)); exact BK310.out⟩
        have n6_ : Aside0 (((((((((((w38.setCell ⟨gb341, 0, none⟩ (.int .i64 t322)).setCell ⟨gb341, 1, none⟩ (.int .i64 t323)).setCell ⟨gb341, 2, none⟩ (.string t324)).setCell ⟨gb341, 3, none⟩ (.string t325)).setCell ⟨gb341, 4, none⟩ (.bool t326)).setCell ⟨gb341, 5, none⟩ (.bool t327)).setCell ⟨gb341, 6, none⟩ (.slice Ao41 t328.length co41)).setCell ⟨gb341, 7, none⟩ (.slice Ao42 t331.length co42)).setCell ⟨gb341, 8, none⟩ (.slice Ao43 t334.length co43)).setCell ⟨gb341, 9, none⟩ (.slice Ao44 t337.length co44)).heap[gb341]? = some (.cells #[.int .i64 t322, .int .i64 t323, .string t324, .string t325, .bool t326, .bool t327, .slice Ao41 t328.length co41, .slice Ao42 t331.length co42, .slice Ao43 t334.length co43, .slice Ao44 t337.length co44] 37 (0, 0))) := ⟨by (with_reducible repeat (first | refine blk_drewN ?_ _ | refine blk_drew ?_ | refine blk_alloc ?_ _)); refine blk_put (cs := #[.int .i64 t322, .int .i64 t323, .string t324, .string t325, .bool t326, .bool t327, .slice Ao41 t328.length co41, .slice Ao42 t331.length co42, .slice Ao43 t334.length co43, .slice none 0 0]) ?_ 9 _ rfl; (with_reducible repeat (first | refine blk_drewN ?_ _ | refine blk_drew ?_ | refine blk_alloc ?_ _)); refine blk_put (cs := #[.int .i64 t322, .int .i64 t323, .string t324, .string t325, .bool t326, .bool t327, .slice Ao41 t328.length co41, .slice Ao42 t331.length co42, .slice none 0 0, .slice none 0 0]) ?_ 8 _ rfl; (with_reducible repeat (first | refine blk_drewN ?_ _ | refine blk_drew ?_ | refine blk_alloc ?_ _)); refine blk_put (cs := #[.int .i64 t322, .int .i64 t323, .string t324, .string t325, .bool t326, .bool t327, .slice Ao41 t328.length co41, .slice none 0 0, .slice none 0 0, .slice none 0 0]) ?_ 7 _ rfl; (with_reducible repeat (first | refine blk_drewN ?_ _ | refine blk_drew ?_ | refine blk_alloc ?_ _)); refine blk_put (cs := #[.int .i64 t322, .int .i64 t323, .string t324, .string t325, .bool t326, .bool t327, .slice none 0 0, .slice none 0 0, .slice none 0 0, .slice none 0 0]) ?_ 6 _ rfl; (with_reducible repeat (first | refine blk_drewN ?_ _ | refine blk_drew ?_ | refine blk_alloc ?_ _)); refine blk_put (cs := #[.int .i64 t322, .int .i64 t323, .string t324, .string t325, .bool t326, .bool false, .slice none 0 0, .slice none 0 0, .slice none 0 0, .slice none 0 0]) ?_ 5 _ rfl; (with_reducible repeat (first | refine blk_drewN ?_ _ | refine blk_drew ?_ | refine blk_alloc ?_ _)); refine blk_put (cs := #[.int .i64 t322, .int .i64 t323, .string t324, .string t325, .bool false, .bool false, .slice none 0 0, .slice none 0 0, .slice none 0 0, .slice none 0 0]) ?_ 4 _ rfl; (with_reducible repeat (first | refine blk_drewN ?_ _ | refine blk_drew ?_ | refine blk_alloc ?_ _)); refine blk_put (cs := #[.int .i64 t322, .int .i64 t323, .string t324, .string (⟨#[]⟩ : ByteArray), .bool false, .bool false, .slice none 0 0, .slice none 0 0, .slice none 0 0, .slice none 0 0]) ?_ 3 _ rfl; (with_reducible repeat (first | refine blk_drewN ?_ _ | refine blk_drew ?_ | refine blk_alloc ?_ _)); refine blk_put (cs := #[.int .i64 t322, .int .i64 t323, .string (⟨#[]⟩ : ByteArray), .string (⟨#[]⟩ : ByteArray), .bool false, .bool false, .slice none 0 0, .slice none 0 0, .slice none 0 0, .slice none 0 0]) ?_ 2 _ rfl; (with_reducible repeat (first | refine blk_drewN ?_ _ | refine blk_drew ?_ | refine blk_alloc ?_ _)); refine blk_put (cs := #[.int .i64 t322, .int .i64 0, .string (⟨#[]⟩ : ByteArray), .string (⟨#[]⟩ : ByteArray), .bool false, .bool false, .slice none 0 0, .slice none 0 0, .slice none 0 0, .slice none 0 0]) ?_ 1 _ rfl; (with_reducible repeat (first | refine blk_drewN ?_ _ | refine blk_drew ?_ | refine blk_alloc ?_ _)); refine blk_put (cs := #[.int .i64 0, .int .i64 0, .string (⟨#[]⟩ : ByteArray), .string (⟨#[]⟩ : ByteArray), .bool false, .bool false, .slice none 0 0, .slice none 0 0, .slice none 0 0, .slice none 0 0]) ?_ 0 _ rfl; (with_reducible repeat (first | refine blk_drewN ?_ _ | refine blk_drew ?_ | refine blk_alloc ?_ _)); exact BK341.out⟩
        have n7_ : Aside0 (Below w.heap.size w ((((((((((w38.setCell ⟨gb341, 0, none⟩ (.int .i64 t322)).setCell ⟨gb341, 1, none⟩ (.int .i64 t323)).setCell ⟨gb341, 2, none⟩ (.string t324)).setCell ⟨gb341, 3, none⟩ (.string t325)).setCell ⟨gb341, 4, none⟩ (.bool t326)).setCell ⟨gb341, 5, none⟩ (.bool t327)).setCell ⟨gb341, 6, none⟩ (.slice Ao41 t328.length co41)).setCell ⟨gb341, 7, none⟩ (.slice Ao42 t331.length co42)).setCell ⟨gb341, 8, none⟩ (.slice Ao43 t334.length co43)).setCell ⟨gb341, 9, none⟩ (.slice Ao44 t337.length co44))) := ⟨by repeat (first | (with_reducible first | exact HB.out | apply below_alloc | apply pw_below_drewN | apply below_drew1 | refine below_set ?_ GE310.out | refine below_set ?_ GE341.out) | exact HB.out)⟩
        (try clear HO321)
        (try clear HO330)
        (try clear HO333)
        (try clear HO336)
        (try clear HO339)
        (try clear BK310)
        (try clear BK341)
        (try clear HB)
        generalize ((((((((((w38.setCell ⟨gb341, 0, none⟩ (.int .i64 t322)).setCell ⟨gb341, 1, none⟩ (.int .i64 t323)).setCell ⟨gb341, 2, none⟩ (.string t324)).setCell ⟨gb341, 3, none⟩ (.string t325)).setCell ⟨gb341, 4, none⟩ (.bool t326)).setCell ⟨gb341, 5, none⟩ (.bool t327)).setCell ⟨gb341, 6, none⟩ (.slice Ao41 t328.length co41)).setCell ⟨gb341, 7, none⟩ (.slice Ao42 t331.length co42)).setCell ⟨gb341, 8, none⟩ (.slice Ao43 t334.length co43)).setCell ⟨gb341, 9, none⟩ (.slice Ao44 t337.length co44)) = w45 at n0_ n1_ n2_ n3_ n4_ n5_ n6_ n7_ ⊢
        have HO321 := n0_
        have HO330 := n1_
        have HO333 := n2_
        have HO336 := n3_
        have HO339 := n4_
        have BK310 := n5_
        have BK341 := n6_
        have HB := n7_
        clear n0_ n1_ n2_ n3_ n4_ n5_ n6_ n7_
        have n0_ := Aside0.mk (Kd.R_drew HO321.out)
        have n1_ := Aside0.mk (Kd.R_drew HO330.out)
        have n2_ := Aside0.mk (Kd.R_drew HO333.out)
        have n3_ := Aside0.mk (Kd.R_drew HO336.out)
        have n4_ := Aside0.mk (Kd.R_drew HO339.out)
        have n5_ := Aside0.mk (blk_drew BK310.out)
        have n6_ := Aside0.mk (blk_drew BK341.out)
        have n7_ := Aside0.mk (below_drew1 HB.out)
        clear HO321
        clear HO330
        clear HO333
        clear HO336
        clear HO339
        clear BK310
        clear BK341
        clear HB
        have HO321 := n0_
        have HO330 := n1_
        have HO333 := n2_
        have HO336 := n3_
        have HO339 := n4_
        have BK310 := n5_
        have BK341 := n6_
        have HB := n7_
        clear n0_ n1_ n2_ n3_ n4_ n5_ n6_ n7_
        refine start_ (n := 10) (S := fun w' => w'.cell? ⟨gb341, 0, none⟩ = some (.int .i64 t322) ∧ w'.cell? ⟨gb341, 1, none⟩ = some (.int .i64 t323) ∧ w'.cell? ⟨gb341, 2, none⟩ = some (.string t324) ∧ w'.cell? ⟨gb341, 3, none⟩ = some (.string t325) ∧ w'.cell? ⟨gb341, 4, none⟩ = some (.bool t326) ∧ w'.cell? ⟨gb341, 5, none⟩ = some (.bool t327) ∧ w'.cell? ⟨gb341, 6, none⟩ = some (.slice Ao41 t328.length co41) ∧ w'.cell? ⟨gb341, 7, none⟩ = some (.slice Ao42 t331.length co42) ∧ w'.cell? ⟨gb341, 8, none⟩ = some (.slice Ao43 t334.length co43) ∧ w'.cell? ⟨gb341, 9, none⟩ = some (.slice Ao44 t337.length co44)) (ds := []) #[false, false, false, false, false, false, false, false, false, false] (by kernel_rfl) rfl rfl ⟨(blk_cell BK341.out 0).trans rfl, (blk_cell BK341.out 1).trans rfl, (blk_cell BK341.out 2).trans rfl, (blk_cell BK341.out 3).trans rfl, (blk_cell BK341.out 4).trans rfl, (blk_cell BK341.out 5).trans rfl, (blk_cell BK341.out 6).trans rfl, (blk_cell BK341.out 7).trans rfl, (blk_cell BK341.out 8).trans rfl, (blk_cell BK341.out 9).trans rfl⟩ (fun hHeld => ?_); refine with_tabW rundlelaw08_RevChanges.tab4 rundlelaw08_RevChanges.bits4 (fun HT_ HW_ => ?_)
        generalize w45.drew = w46 at HO321 HO330 HO333 HO336 HO339 BK310 BK341 HB hHeld ⊢
        refine pure_ (i := 1) (N := some 51) (v := ?_) (a' := ?_) #[false, true, false, false, false, false, false, false, false, false] rfl rfl (any_of HT_.out (by kernel_rfl)) (fun _ _ _ h => h) (Or.inl ⟨by rfl, ?_⟩) ?_ ?_
        rotate_left
        · intro w'
          go_simp
          with_reducible rfl
        rotate_left
        · simp only [Act.put, List.setIfInBounds_toArray, List.set_cons_zero, List.set_cons_succ, i64_w, i32_w]
          rfl
        refine take_ (i := 0) (N := some 50) (v := ?_) (a' := ?_) #[true, true, false, false, false, false, false, false, false, false] rfl rfl (take_ofW HT_.out HW_.out (by kernel_rfl)) (fun _ _ _ h => h) (Or.inl ⟨by rfl, ?_⟩) hHeld ?_ ?_
        rotate_left
        · rintro w' ⟨s0, s1, s2, s3, s4, s5, s6, s7, s8, s9⟩
          go_simp
          with_reducible rfl
        rotate_left
        · simp only [Act.put, List.setIfInBounds_toArray, List.set_cons_zero, List.set_cons_succ, i64_w, i32_w]
          rfl
        refine join_ (σ := Value × Value × Value × Value × Value × Nat) 2 #[true, true, true, true, true, true, true, true, false, false] (fun s_ => [(52, s_.1), (53, .tuple #[.agg #[.int .i64 t345, .int .i64 t346, .string t347, .string t348, .bool t349, .bool t350, s_.2.1, s_.2.2.1, s_.2.2.2.1, s_.2.2.2.2.1], .int .i64 t363]), (11, .pointer (some ⟨s_.2.2.2.2.2, 0, none⟩)), (49, .tuple #[.agg #[.int .i64 t345, .int .i64 t346, .string t347, .string t348, .bool t349, .bool t350, s_.2.1, s_.2.2.1, s_.2.2.2.1, s_.2.2.2.2.1], .int .i64 t363]), (54, .agg #[.int .i64 t345, .int .i64 t346, .string t347, .string t348, .bool t349, .bool t350, s_.2.1, s_.2.2.1, s_.2.2.2.1, s_.2.2.2.2.1]), (55, .int .i64 t363)]) (fun s_ w' => (w'.cell? ⟨gb341, 0, none⟩ = some (.int .i64 t322) ∧ w'.cell? ⟨gb341, 1, none⟩ = some (.int .i64 t323) ∧ w'.cell? ⟨gb341, 2, none⟩ = some (.string t324) ∧ w'.cell? ⟨gb341, 3, none⟩ = some (.string t325) ∧ w'.cell? ⟨gb341, 4, none⟩ = some (.bool t326) ∧ w'.cell? ⟨gb341, 5, none⟩ = some (.bool t327) ∧ w'.cell? ⟨gb341, 6, none⟩ = some (.slice Ao41 t328.length co41) ∧ w'.cell? ⟨gb341, 7, none⟩ = some (.slice Ao42 t331.length co42) ∧ w'.cell? ⟨gb341, 8, none⟩ = some (.slice Ao43 t334.length co43) ∧ w'.cell? ⟨gb341, 9, none⟩ = some (.slice Ao44 t337.length co44)) ∧ (Kd.R k114 114 w' w.heap.size (fun k_ => some k_ ≠ (s_.1 : Value).ownBlock) (.slice Ao36 t319.length co36) t319) ∧ (Kd.R Kd.string 9 w' w.heap.size (fun k_ => some k_ ≠ (.slice Ao42 t331.length co42 : Value).ownBlock ∧ some k_ ≠ (s_.2.1 : Value).ownBlock ∧ some k_ ≠ (s_.2.2.1 : Value).ownBlock) (.slice Ao41 t328.length co41) t328) ∧ (Kd.R Kd.string 9 w' w.heap.size (fun k_ => some k_ ≠ (.slice Ao41 t328.length co41 : Value).ownBlock ∧ some k_ ≠ (s_.2.1 : Value).ownBlock ∧ some k_ ≠ (s_.2.2.1 : Value).ownBlock) (.slice Ao42 t331.length co42) t331) ∧ (Kd.R Kd.bool 4 w' w.heap.size (fun k_ => some k_ ≠ (s_.2.2.2.1 : Value).ownBlock) (.slice Ao43 t334.length co43) t334) ∧ (Kd.R (Kd.int .i64) 3 w' w.heap.size (fun k_ => some k_ ≠ (s_.2.2.2.2.1 : Value).ownBlock) (.slice Ao44 t337.length co44) t337) ∧ (Kd.R k114 114 w' w.heap.size (fun k_ => some k_ ≠ (.slice Ao36 t319.length co36 : Value).ownBlock) s_.1 t342) ∧ (Kd.R Kd.string 9 w' w.heap.size (fun k_ => some k_ ≠ (.slice Ao41 t328.length co41 : Value).ownBlock ∧ some k_ ≠ (.slice Ao42 t331.length co42 : Value).ownBlock ∧ some k_ ≠ (s_.2.2.1 : Value).ownBlock) s_.2.1 t351) ∧ (Kd.R Kd.string 9 w' w.heap.size (fun k_ => some k_ ≠ (.slice Ao41 t328.length co41 : Value).ownBlock ∧ some k_ ≠ (.slice Ao42 t331.length co42 : Value).ownBlock ∧ some k_ ≠ (s_.2.1 : Value).ownBlock) s_.2.2.1 t354) ∧ (Kd.R Kd.bool 4 w' w.heap.size (fun k_ => some k_ ≠ (.slice Ao43 t334.length co43 : Value).ownBlock) s_.2.2.2.1 t357) ∧ (Kd.R (Kd.int .i64) 3 w' w.heap.size (fun k_ => some k_ ≠ (.slice Ao44 t337.length co44 : Value).ownBlock) s_.2.2.2.2.1 t360) ∧ (w'.heap[gb310]? = some (.cells #[.string a0_0, .string a0_1, .bool a0_2] 23 (0, 0))) ∧ (w'.heap[gb341]? = some (.cells #[.int .i64 t322, .int .i64 t323, .string t324, .string t325, .bool t326, .bool t327, .slice Ao41 t328.length co41, .slice Ao42 t331.length co42, .slice Ao43 t334.length co43, .slice Ao44 t337.length co44] 37 (0, 0))) ∧ (w'.heap[s_.2.2.2.2.2]? = some (.cells #[.int .i64 0, .int .i64 0, .string (⟨#[]⟩ : ByteArray), .string (⟨#[]⟩ : ByteArray), .bool false, .bool false, .slice none 0 0, .slice none 0 0, .slice none 0 0, .slice none 0 0] 37 (0, 0))) ∧ (w.heap.size ≤ s_.2.2.2.2.2) ∧ (w.heap.size ≤ s_.2.2.2.2.2) ∧ (gb310 ≠ s_.2.2.2.2.2) ∧ (s_.2.2.2.2.2 ≠ gb310) ∧ (gb341 ≠ s_.2.2.2.2.2) ∧ (s_.2.2.2.2.2 ≠ gb341) ∧ (Below w.heap.size w w')) ?_ ?_
        rotate_left
        · intro hCont
          refine two_ (i := 2) (j := 7) (Ni := some 52) (Nj := some 11) #[true, true, true, false, false, false, false, false, false, false] #[true, true, false, false, false, false, false, true, false, false] rfl rfl rfl rfl (two_of HT_.out (by kernel_rfl)) (by decide) (by decide) (fun K hK => ?_) (fun K hK => ?_)
          · skip
            refine goes_ Try.func18 (by kernel_rfl) rfl #[.slice A2 l2.length c2] (by rfl) rfl rfl (by (try simp only [List.map_toArray, List.map_cons, List.map_nil]); first | done | rfl | (simp only [List.length_drop, List.length_take]; rfl)) ?_
            with_reducible refine (rundlelaw08_Of.calls kj4 _ _ l2 t342 _ ?side1 ?side2 A30.out).mono ?_
            (case side1 => repeat (first | exact (Kd.C_below HR2.out HB.out) | (with_reducible refine Kd.C_alloc ?_ _) | (with_reducible refine Kd.C_drewN ?_ _) | (with_reducible refine Kd.C_drew ?_)))
            (case side2 => exact HC2.out)
            rintro e w47 ⟨v343, rfl, ho0, hb⟩
            refine ⟨_, rfl, ?_⟩
            have n0_ := Aside0.mk (Kd.R_elder' (by (with_reducible repeat (first | apply Kd.R_alloc | apply Kd.R_drewN | apply Kd.R_drew)); exact HO321.out) (Kd.R_base ho0) hb)
            have n1_ := Aside0.mk (Kd.R_below (by (with_reducible repeat (first | apply Kd.R_alloc | apply Kd.R_drewN | apply Kd.R_drew)); exact HO330.out) hb)
            have n2_ := Aside0.mk (Kd.R_below (by (with_reducible repeat (first | apply Kd.R_alloc | apply Kd.R_drewN | apply Kd.R_drew)); exact HO333.out) hb)
            have n3_ := Aside0.mk (Kd.R_below (by (with_reducible repeat (first | apply Kd.R_alloc | apply Kd.R_drewN | apply Kd.R_drew)); exact HO336.out) hb)
            have n4_ := Aside0.mk (Kd.R_below (by (with_reducible repeat (first | apply Kd.R_alloc | apply Kd.R_drewN | apply Kd.R_drew)); exact HO339.out) hb)
            have n5_ := Aside0.mk (Kd.R_lower (Kd.R_new' ho0 (Kd.R_lt (by (with_reducible repeat (first | apply Kd.R_alloc | apply Kd.R_drewN | apply Kd.R_drew)); exact HO321.out))) (below_size (by repeat (first | (with_reducible first | exact HB.out | apply below_alloc | apply pw_below_drewN | apply below_drew1 | refine below_set ?_ GE310.out | refine below_set ?_ GE341.out) | exact HB.out))))
            have n6_ := Aside0.mk (blk_below (g := gb310) (o := .cells #[.string a0_0, .string a0_1, .bool a0_2] 23 (0, 0)) (by (with_reducible repeat (first | refine blk_drewN ?_ _ | refine blk_drew ?_ | refine blk_alloc ?_ _)); exact BK310.out) hb)
            have n7_ := Aside0.mk (blk_below (g := gb341) (o := .cells #[.int .i64 t322, .int .i64 t323, .string t324, .string t325, .bool t326, .bool t327, .slice Ao41 t328.length co41, .slice Ao42 t331.length co42, .slice Ao43 t334.length co43, .slice Ao44 t337.length co44] 37 (0, 0)) (by (with_reducible repeat (first | refine blk_drewN ?_ _ | refine blk_drew ?_ | refine blk_alloc ?_ _)); exact BK341.out) hb)
            have n8_ := Aside0.mk (below_step (by repeat (first | (with_reducible first | exact HB.out | apply below_alloc | apply pw_below_drewN | apply below_drew1 | refine below_set ?_ GE310.out | refine below_set ?_ GE341.out) | exact HB.out)) hb)
            clear HO321
            clear HO330
            clear HO333
            clear HO336
            clear HO339
            clear BK310
            clear BK341
            clear HB
            have HO321 := n0_
            have HO330 := n1_
            have HO333 := n2_
            have HO336 := n3_
            have HO339 := n4_
            have HO344 := n5_
            have BK310 := n6_
            have BK341 := n7_
            have HB := n8_
            clear n0_ n1_ n2_ n3_ n4_ n5_ n6_ n7_ n8_
            (try clear hb)
            (try clear hb2)
            (try clear hk)
            (try clear hi)
            (try clear ho0)
            obtain ⟨Ao48, co48, eo48⟩ := Kd.R_slice HO344.out
            (first | subst eo48 | (injection eo48 with f1_ f2_ f3_; have f4_ := f1_.symm; have f5_ := f3_.symm; clear f1_ f2_ f3_; subst f4_; subst f5_))
            refine hK.out _ _ ⟨(blk_cell BK341.out 0).trans rfl, (blk_cell BK341.out 1).trans rfl, (blk_cell BK341.out 2).trans rfl, (blk_cell BK341.out 3).trans rfl, (blk_cell BK341.out 4).trans rfl, (blk_cell BK341.out 5).trans rfl, (blk_cell BK341.out 6).trans rfl, (blk_cell BK341.out 7).trans rfl, (blk_cell BK341.out 8).trans rfl, (blk_cell BK341.out 9).trans rfl⟩ (fun hHeld => ?_)
            clear hK K
            refine norm_ (a' := ?_) ?_ ?_
            rotate_left
            · show Act.put _ (some 52) _ = _
              simp only [Act.put, List.setIfInBounds_toArray, List.set_cons_zero, List.set_cons_succ, i64_w, i32_w]
              rfl
            refine two_ (i := 3) (j := 7) (Ni := some 53) (Nj := some 11) #[true, true, true, true, false, false, false, false, false, false] #[true, true, true, false, false, false, false, true, false, false] rfl rfl rfl rfl (two_of HT_.out (by kernel_rfl)) (by decide) (by decide) (fun K hK => ?_) (fun K hK => ?_)
            · skip
              refine goes_ Try.func19 (by kernel_rfl) rfl #[.agg #[.int .i64 t322, .int .i64 t323, .string t324, .string t325, .bool t326, .bool t327, .slice Ao41 t328.length co41, .slice Ao42 t331.length co42, .slice Ao43 t334.length co43, .slice Ao44 t337.length co44], .int .i64 2, .slice Ao48 t342.length co48] (by rfl) rfl rfl (by (try simp only [List.map_toArray, List.map_cons, List.map_nil]); first | done | rfl | (simp only [List.length_drop, List.length_take]; rfl)) ?_
              with_reducible refine (rev_Apply.calls kj4 t322 t323 t324 t325 t326 t327 _ _ t328 _ _ t331 _ _ t334 _ _ t337 2 _ _ t342 t345 t346 t347 t348 t349 t350 t351 t354 t357 t360 t363 _ ?side1 ?side2 ?side3 ?side4 ?side5 ?side6 ?side7 ?side8 ?side9 ?side10 A31.out).mono ?_
              (case side1 => repeat (first | exact (Kd.R_reads' HO330.out).2.2 | (with_reducible refine Kd.C_alloc ?_ _) | (with_reducible refine Kd.C_drewN ?_ _) | (with_reducible refine Kd.C_drew ?_)))
              (case side2 => exact (Kd.R_reads' HO330.out).2.1)
              (case side3 => repeat (first | exact (Kd.R_reads' HO333.out).2.2 | (with_reducible refine Kd.C_alloc ?_ _) | (with_reducible refine Kd.C_drewN ?_ _) | (with_reducible refine Kd.C_drew ?_)))
              (case side4 => exact (Kd.R_reads' HO333.out).2.1)
              (case side5 => repeat (first | exact (Kd.R_reads' HO336.out).2.2 | (with_reducible refine Kd.C_alloc ?_ _) | (with_reducible refine Kd.C_drewN ?_ _) | (with_reducible refine Kd.C_drew ?_)))
              (case side6 => exact (Kd.R_reads' HO336.out).2.1)
              (case side7 => repeat (first | exact (Kd.R_reads' HO339.out).2.2 | (with_reducible refine Kd.C_alloc ?_ _) | (with_reducible refine Kd.C_drewN ?_ _) | (with_reducible refine Kd.C_drew ?_)))
              (case side8 => exact (Kd.R_reads' HO339.out).2.1)
              (case side9 => repeat (first | exact (Kd.R_reads' HO344.out).2.2 | (with_reducible refine Kd.C_alloc ?_ _) | (with_reducible refine Kd.C_drewN ?_ _) | (with_reducible refine Kd.C_drew ?_)))
              (case side10 => exact (Kd.R_reads' HO344.out).2.1)
              rintro e w49 ⟨v352, v355, v358, v361, rfl, ho0, ho1, ho2, ho3, hb⟩
              refine ⟨_, rfl, ?_⟩
              have n0_ := Aside0.mk (Kd.R_below (by (with_reducible repeat (first | apply Kd.R_alloc | apply Kd.R_drewN | apply Kd.R_drew)); exact HO321.out) hb)
              have n1_ := Aside0.mk (Kd.R_mono (Kd.R_told (Kd.R_told (Kd.R_old (by (with_reducible repeat (first | apply Kd.R_alloc | apply Kd.R_drewN | apply Kd.R_drew)); exact HO330.out) hb) (Kd.R_base ho0)) (Kd.R_base ho1)) (fun _ h_ => h_.1))
              have n2_ := Aside0.mk (Kd.R_mono (Kd.R_told (Kd.R_told (Kd.R_old (by (with_reducible repeat (first | apply Kd.R_alloc | apply Kd.R_drewN | apply Kd.R_drew)); exact HO333.out) hb) (Kd.R_base ho0)) (Kd.R_base ho1)) (fun _ h_ => h_.1))
              have n3_ := Aside0.mk (Kd.R_elder' (by (with_reducible repeat (first | apply Kd.R_alloc | apply Kd.R_drewN | apply Kd.R_drew)); exact HO336.out) (Kd.R_base ho2) hb)
              have n4_ := Aside0.mk (Kd.R_elder' (by (with_reducible repeat (first | apply Kd.R_alloc | apply Kd.R_drewN | apply Kd.R_drew)); exact HO339.out) (Kd.R_base ho3) hb)
              have n5_ := Aside0.mk (Kd.R_below (by (with_reducible repeat (first | apply Kd.R_alloc | apply Kd.R_drewN | apply Kd.R_drew)); exact HO344.out) hb)
              have n6_ := Aside0.mk (Kd.R_lower (Kd.R_new' (Kd.R_new' ho0 (Kd.R_lt (by (with_reducible repeat (first | apply Kd.R_alloc | apply Kd.R_drewN | apply Kd.R_drew)); exact HO330.out))) (Kd.R_lt (by (with_reducible repeat (first | apply Kd.R_alloc | apply Kd.R_drewN | apply Kd.R_drew)); exact HO333.out))) (below_size (by repeat (first | (with_reducible first | exact HB.out | apply below_alloc | apply pw_below_drewN | apply below_drew1 | refine below_set ?_ GE310.out | refine below_set ?_ GE341.out) | exact HB.out))))
              have n7_ := Aside0.mk (Kd.R_lower (Kd.R_new' (Kd.R_new' ho1 (Kd.R_lt (by (with_reducible repeat (first | apply Kd.R_alloc | apply Kd.R_drewN | apply Kd.R_drew)); exact HO330.out))) (Kd.R_lt (by (with_reducible repeat (first | apply Kd.R_alloc | apply Kd.R_drewN | apply Kd.R_drew)); exact HO333.out))) (below_size (by repeat (first | (with_reducible first | exact HB.out | apply below_alloc | apply pw_below_drewN | apply below_drew1 | refine below_set ?_ GE310.out | refine below_set ?_ GE341.out) | exact HB.out))))
              have n8_ := Aside0.mk (Kd.R_lower (Kd.R_new' ho2 (Kd.R_lt (by (with_reducible repeat (first | apply Kd.R_alloc | apply Kd.R_drewN | apply Kd.R_drew)); exact HO336.out))) (below_size (by repeat (first | (with_reducible first | exact HB.out | apply below_alloc | apply pw_below_drewN | apply below_drew1 | refine below_set ?_ GE310.out | refine below_set ?_ GE341.out) | exact HB.out))))
              have n9_ := Aside0.mk (Kd.R_lower (Kd.R_new' ho3 (Kd.R_lt (by (with_reducible repeat (first | apply Kd.R_alloc | apply Kd.R_drewN | apply Kd.R_drew)); exact HO339.out))) (below_size (by repeat (first | (with_reducible first | exact HB.out | apply below_alloc | apply pw_below_drewN | apply below_drew1 | refine below_set ?_ GE310.out | refine below_set ?_ GE341.out) | exact HB.out))))
              have n10_ := Aside0.mk (blk_below (g := gb310) (o := .cells #[.string a0_0, .string a0_1, .bool a0_2] 23 (0, 0)) (by (with_reducible repeat (first | refine blk_drewN ?_ _ | refine blk_drew ?_ | refine blk_alloc ?_ _)); exact BK310.out) hb)
              have n11_ := Aside0.mk (blk_below (g := gb341) (o := .cells #[.int .i64 t322, .int .i64 t323, .string t324, .string t325, .bool t326, .bool t327, .slice Ao41 t328.length co41, .slice Ao42 t331.length co42, .slice Ao43 t334.length co43, .slice Ao44 t337.length co44] 37 (0, 0)) (by (with_reducible repeat (first | refine blk_drewN ?_ _ | refine blk_drew ?_ | refine blk_alloc ?_ _)); exact BK341.out) hb)
              have n12_ := Aside0.mk (below_step (by repeat (first | (with_reducible first | exact HB.out | apply below_alloc | apply pw_below_drewN | apply below_drew1 | refine below_set ?_ GE310.out | refine below_set ?_ GE341.out) | exact HB.out)) hb)
              clear HO321
              clear HO330
              clear HO333
              clear HO336
              clear HO339
              clear HO344
              clear BK310
              clear BK341
              clear HB
              have HO321 := n0_
              have HO330 := n1_
              have HO333 := n2_
              have HO336 := n3_
              have HO339 := n4_
              have HO344 := n5_
              have HO353 := n6_
              have HO356 := n7_
              have HO359 := n8_
              have HO362 := n9_
              have BK310 := n10_
              have BK341 := n11_
              have HB := n12_
              clear n0_ n1_ n2_ n3_ n4_ n5_ n6_ n7_ n8_ n9_ n10_ n11_ n12_
              (try clear hb)
              (try clear hb2)
              (try clear hk)
              (try clear hi)
              (try clear ho0)
              (try clear ho1)
              (try clear ho2)
              (try clear ho3)
              refine hK.out _ _ ⟨(blk_cell BK341.out 0).trans rfl, (blk_cell BK341.out 1).trans rfl, (blk_cell BK341.out 2).trans rfl, (blk_cell BK341.out 3).trans rfl, (blk_cell BK341.out 4).trans rfl, (blk_cell BK341.out 5).trans rfl, (blk_cell BK341.out 6).trans rfl, (blk_cell BK341.out 7).trans rfl, (blk_cell BK341.out 8).trans rfl, (blk_cell BK341.out 9).trans rfl⟩ (fun hHeld => ?_)
              clear hK K
              refine norm_ (a' := ?_) ?_ ?_
              rotate_left
              · show Act.put _ (some 53) _ = _
                simp only [Act.put, List.setIfInBounds_toArray, List.set_cons_zero, List.set_cons_succ, i64_w, i32_w]
                rfl
              refine pure_ (i := 4) (N := some 49) (v := ?_) (a' := ?_) #[true, true, true, true, true, false, false, false, false, false] rfl rfl (any_of HT_.out (by kernel_rfl)) (fun _ _ _ h => h) (Or.inl ⟨by rfl, ?_⟩) ?_ ?_
              rotate_left
              · intro w'
                go_simp
                with_reducible rfl
              rotate_left
              · simp only [Act.put, List.setIfInBounds_toArray, List.set_cons_zero, List.set_cons_succ, i64_w, i32_w]
                rfl
              refine pure_ (i := 5) (N := some 54) (v := ?_) (a' := ?_) #[true, true, true, true, true, true, false, false, false, false] rfl rfl (any_of HT_.out (by kernel_rfl)) (fun _ _ _ h => h) (Or.inl ⟨by rfl, ?_⟩) ?_ ?_
              rotate_left
              · intro w'
                go_simp
                with_reducible rfl
              rotate_left
              · simp only [Act.put, List.setIfInBounds_toArray, List.set_cons_zero, List.set_cons_succ, i64_w, i32_w]
                rfl
              refine pure_ (i := 6) (N := some 55) (v := ?_) (a' := ?_) #[true, true, true, true, true, true, true, false, false, false] rfl rfl (any_of HT_.out (by kernel_rfl)) (fun _ _ _ h => h) (Or.inl ⟨by rfl, ?_⟩) ?_ ?_
              rotate_left
              · intro w'
                go_simp
                with_reducible rfl
              rotate_left
              · simp only [Act.put, List.setIfInBounds_toArray, List.set_cons_zero, List.set_cons_succ, i64_w, i32_w]
                rfl
              refine one_ (i := 7) (N := some 11) #[true, true, true, true, true, true, true, true, false, false] rfl rfl (one_of HT_.out (by kernel_rfl)) (by decide) (fun K hK => ?_)
              refine box_step ?hg (N := 11) ?hd (cs := #[.int .i64 0, .int .i64 0, .string (⟨#[]⟩ : ByteArray), .string (⟨#[]⟩ : ByteArray), .bool false, .bool false, .slice none 0 0, .slice none 0 0, .slice none 0 0, .slice none 0 0]) (t := 37) ?hr ?_; (case hd => rfl); (case hg => rfl); (case hr => first | (go_simp; done) | (go_simp; rfl))
              intro gb364 hg w50 hbox hb
              have n0_ := Aside0.mk (Kd.R_below (by (with_reducible repeat (first | apply Kd.R_alloc | apply Kd.R_drewN | apply Kd.R_drew)); exact HO321.out) hb)
              have n1_ := Aside0.mk (Kd.R_below (by (with_reducible repeat (first | apply Kd.R_alloc | apply Kd.R_drewN | apply Kd.R_drew)); exact HO330.out) hb)
              have n2_ := Aside0.mk (Kd.R_below (by (with_reducible repeat (first | apply Kd.R_alloc | apply Kd.R_drewN | apply Kd.R_drew)); exact HO333.out) hb)
              have n3_ := Aside0.mk (Kd.R_below (by (with_reducible repeat (first | apply Kd.R_alloc | apply Kd.R_drewN | apply Kd.R_drew)); exact HO336.out) hb)
              have n4_ := Aside0.mk (Kd.R_below (by (with_reducible repeat (first | apply Kd.R_alloc | apply Kd.R_drewN | apply Kd.R_drew)); exact HO339.out) hb)
              have n5_ := Aside0.mk (Kd.R_below (by (with_reducible repeat (first | apply Kd.R_alloc | apply Kd.R_drewN | apply Kd.R_drew)); exact HO344.out) hb)
              have n6_ := Aside0.mk (Kd.R_below (by (with_reducible repeat (first | apply Kd.R_alloc | apply Kd.R_drewN | apply Kd.R_drew)); exact HO353.out) hb)
              have n7_ := Aside0.mk (Kd.R_below (by (with_reducible repeat (first | apply Kd.R_alloc | apply Kd.R_drewN | apply Kd.R_drew)); exact HO356.out) hb)
              have n8_ := Aside0.mk (Kd.R_below (by (with_reducible repeat (first | apply Kd.R_alloc | apply Kd.R_drewN | apply Kd.R_drew)); exact HO359.out) hb)
              have n9_ := Aside0.mk (Kd.R_below (by (with_reducible repeat (first | apply Kd.R_alloc | apply Kd.R_drewN | apply Kd.R_drew)); exact HO362.out) hb)
              have n10_ := Aside0.mk (blk_below (g := gb310) (o := .cells #[.string a0_0, .string a0_1, .bool a0_2] 23 (0, 0)) (by (with_reducible repeat (first | refine blk_drewN ?_ _ | refine blk_drew ?_ | refine blk_alloc ?_ _)); exact BK310.out) hb)
              have n11_ := Aside0.mk (blk_below (g := gb341) (o := .cells #[.int .i64 t322, .int .i64 t323, .string t324, .string t325, .bool t326, .bool t327, .slice Ao41 t328.length co41, .slice Ao42 t331.length co42, .slice Ao43 t334.length co43, .slice Ao44 t337.length co44] 37 (0, 0)) (by (with_reducible repeat (first | refine blk_drewN ?_ _ | refine blk_drew ?_ | refine blk_alloc ?_ _)); exact BK341.out) hb)
              have n12_ := Aside0.mk (below_step (by repeat (first | (with_reducible first | exact HB.out | apply below_alloc | apply pw_below_drewN | apply below_drew1 | refine below_set ?_ GE310.out | refine below_set ?_ GE341.out) | exact HB.out)) hb)
              have n13_ := Aside0.mk (hbox)
              have n14_ := Aside0.mk ((by rw [hg]; exact (below_size (by repeat (first | (with_reducible first | exact HB.out | apply below_alloc | apply pw_below_drewN | apply below_drew1 | refine below_set ?_ GE310.out | refine below_set ?_ GE341.out) | exact HB.out))) : w.heap.size ≤ gb364))
              have n15_ := Aside0.mk ((by rw [hg]; exact (below_size (by repeat (first | (with_reducible first | exact HB.out | apply below_alloc | apply pw_below_drewN | apply below_drew1 | refine below_set ?_ GE310.out | refine below_set ?_ GE341.out) | exact HB.out))) : w.heap.size ≤ gb364))
              have n16_ := Aside0.mk ((by rw [hg]; exact Nat.ne_of_lt (blk_lt (g := gb310) (o := .cells #[.string a0_0, .string a0_1, .bool a0_2] 23 (0, 0)) (by (with_reducible repeat (first | refine blk_drewN ?_ _ | refine blk_drew ?_ | refine blk_alloc ?_ _)); exact BK310.out)) : gb310 ≠ gb364))
              have n17_ := Aside0.mk ((by rw [hg]; exact Nat.ne_of_gt (blk_lt (g := gb310) (o := .cells #[.string a0_0, .string a0_1, .bool a0_2] 23 (0, 0)) (by (with_reducible repeat (first | refine blk_drewN ?_ _ | refine blk_drew ?_ | refine blk_alloc ?_ _)); exact BK310.out)) : gb364 ≠ gb310))
              have n18_ := Aside0.mk ((by rw [hg]; exact Nat.ne_of_lt (blk_lt (g := gb341) (o := .cells #[.int .i64 t322, .int .i64 t323, .string t324, .string t325, .bool t326, .bool t327, .slice Ao41 t328.length co41, .slice Ao42 t331.length co42, .slice Ao43 t334.length co43, .slice Ao44 t337.length co44] 37 (0, 0)) (by (with_reducible repeat (first | refine blk_drewN ?_ _ | refine blk_drew ?_ | refine blk_alloc ?_ _)); exact BK341.out)) : gb341 ≠ gb364))
              have n19_ := Aside0.mk ((by rw [hg]; exact Nat.ne_of_gt (blk_lt (g := gb341) (o := .cells #[.int .i64 t322, .int .i64 t323, .string t324, .string t325, .bool t326, .bool t327, .slice Ao41 t328.length co41, .slice Ao42 t331.length co42, .slice Ao43 t334.length co43, .slice Ao44 t337.length co44] 37 (0, 0)) (by (with_reducible repeat (first | refine blk_drewN ?_ _ | refine blk_drew ?_ | refine blk_alloc ?_ _)); exact BK341.out)) : gb364 ≠ gb341))
              clear HO321
              clear HO330
              clear HO333
              clear HO336
              clear HO339
              clear HO344
              clear HO353
              clear HO356
              clear HO359
              clear HO362
              clear BK310
              clear BK341
              clear HB
              have HO321 := n0_
              have HO330 := n1_
              have HO333 := n2_
              have HO336 := n3_
              have HO339 := n4_
              have HO344 := n5_
              have HO353 := n6_
              have HO356 := n7_
              have HO359 := n8_
              have HO362 := n9_
              have BK310 := n10_
              have BK341 := n11_
              have HB := n12_
              have BK364 := n13_
              have GW364 := n14_
              have GE364 := n15_
              have NB310_364 := n16_
              have NB364_310 := n17_
              have NB341_364 := n18_
              have NB364_341 := n19_
              clear n0_ n1_ n2_ n3_ n4_ n5_ n6_ n7_ n8_ n9_ n10_ n11_ n12_ n13_ n14_ n15_ n16_ n17_ n18_ n19_
              clear hb hbox hg
              refine hK.out _ _ ⟨(blk_cell BK341.out 0).trans rfl, (blk_cell BK341.out 1).trans rfl, (blk_cell BK341.out 2).trans rfl, (blk_cell BK341.out 3).trans rfl, (blk_cell BK341.out 4).trans rfl, (blk_cell BK341.out 5).trans rfl, (blk_cell BK341.out 6).trans rfl, (blk_cell BK341.out 7).trans rfl, (blk_cell BK341.out 8).trans rfl, (blk_cell BK341.out 9).trans rfl⟩ (fun hHeld => ?_)
              clear hK K
              refine norm_ (a' := ?_) ?_ ?_
              rotate_left
              · show Act.put _ (some 11) _ = _
                simp only [Act.put, List.setIfInBounds_toArray, List.set_cons_zero, List.set_cons_succ, i64_w, i32_w]
                rfl
              exact norm_ (by simp only [putAll, Act.put, List.setIfInBounds_toArray, List.set_cons_zero, List.set_cons_succ]) (hCont (.slice Ao48 t342.length co48, v352, v355, v358, v361, gb364) _ ⟨hHeld, (by (with_reducible repeat (first | apply Kd.R_alloc | apply Kd.R_drewN | apply Kd.R_drew)); exact Kd.R_mono HO321.out (fun _ hk => hk.2)), (by (with_reducible repeat (first | apply Kd.R_alloc | apply Kd.R_drewN | apply Kd.R_drew)); exact Kd.R_mono HO330.out (fun _ hk => ⟨hk.1.1, ⟨hk.1.2, hk.2⟩⟩)), (by (with_reducible repeat (first | apply Kd.R_alloc | apply Kd.R_drewN | apply Kd.R_drew)); exact Kd.R_mono HO333.out (fun _ hk => ⟨hk.1.1, ⟨hk.1.2, hk.2⟩⟩)), (by (with_reducible repeat (first | apply Kd.R_alloc | apply Kd.R_drewN | apply Kd.R_drew)); exact Kd.R_mono HO336.out (fun _ hk => hk.2)), (by (with_reducible repeat (first | apply Kd.R_alloc | apply Kd.R_drewN | apply Kd.R_drew)); exact Kd.R_mono HO339.out (fun _ hk => hk.2)), (by (with_reducible repeat (first | apply Kd.R_alloc | apply Kd.R_drewN | apply Kd.R_drew)); exact Kd.R_mono HO344.out (fun _ hk => hk.2)), (by (with_reducible repeat (first | apply Kd.R_alloc | apply Kd.R_drewN | apply Kd.R_drew)); exact Kd.R_mono HO353.out (fun _ hk => ⟨hk.1.2, ⟨hk.2, hk.1.1⟩⟩)), (by (with_reducible repeat (first | apply Kd.R_alloc | apply Kd.R_drewN | apply Kd.R_drew)); exact Kd.R_mono HO356.out (fun _ hk => ⟨hk.1.2, ⟨hk.2, hk.1.1⟩⟩)), (by (with_reducible repeat (first | apply Kd.R_alloc | apply Kd.R_drewN | apply Kd.R_drew)); exact Kd.R_mono HO359.out (fun _ hk => hk.2)), (by (with_reducible repeat (first | apply Kd.R_alloc | apply Kd.R_drewN | apply Kd.R_drew)); exact Kd.R_mono HO362.out (fun _ hk => hk.2)), (by (with_reducible repeat (first | refine blk_drewN ?_ _ | refine blk_drew ?_ | refine blk_alloc ?_ _)); exact BK310.out), (by (with_reducible repeat (first | refine blk_drewN ?_ _ | refine blk_drew ?_ | refine blk_alloc ?_ _)); exact BK341.out), (by (with_reducible repeat (first | refine blk_drewN ?_ _ | refine blk_drew ?_ | refine blk_alloc ?_ _)); exact BK364.out), GW364.out, GE364.out, NB310_364.out, NB364_310.out, NB341_364.out, NB364_341.out, (by repeat (first | (with_reducible first | exact HB.out | apply below_alloc | apply pw_below_drewN | apply below_drew1 | refine below_set ?_ GE310.out | refine below_set ?_ GE341.out | refine below_set ?_ GE364.out) | exact HB.out))⟩)
            · skip
              refine box_step ?hg (N := 11) ?hd (cs := #[.int .i64 0, .int .i64 0, .string (⟨#[]⟩ : ByteArray), .string (⟨#[]⟩ : ByteArray), .bool false, .bool false, .slice none 0 0, .slice none 0 0, .slice none 0 0, .slice none 0 0]) (t := 37) ?hr ?_; (case hd => rfl); (case hg => rfl); (case hr => first | (go_simp; done) | (go_simp; rfl))
              intro gb364 hg w48 hbox hb
              have n0_ := Aside0.mk (Kd.R_below (by (with_reducible repeat (first | apply Kd.R_alloc | apply Kd.R_drewN | apply Kd.R_drew)); exact HO321.out) hb)
              have n1_ := Aside0.mk (Kd.R_below (by (with_reducible repeat (first | apply Kd.R_alloc | apply Kd.R_drewN | apply Kd.R_drew)); exact HO330.out) hb)
              have n2_ := Aside0.mk (Kd.R_below (by (with_reducible repeat (first | apply Kd.R_alloc | apply Kd.R_drewN | apply Kd.R_drew)); exact HO333.out) hb)
              have n3_ := Aside0.mk (Kd.R_below (by (with_reducible repeat (first | apply Kd.R_alloc | apply Kd.R_drewN | apply Kd.R_drew)); exact HO336.out) hb)
              have n4_ := Aside0.mk (Kd.R_below (by (with_reducible repeat (first | apply Kd.R_alloc | apply Kd.R_drewN | apply Kd.R_drew)); exact HO339.out) hb)
              have n5_ := Aside0.mk (Kd.R_below (by (with_reducible repeat (first | apply Kd.R_alloc | apply Kd.R_drewN | apply Kd.R_drew)); exact HO344.out) hb)
              have n6_ := Aside0.mk (blk_below (g := gb310) (o := .cells #[.string a0_0, .string a0_1, .bool a0_2] 23 (0, 0)) (by (with_reducible repeat (first | refine blk_drewN ?_ _ | refine blk_drew ?_ | refine blk_alloc ?_ _)); exact BK310.out) hb)
              have n7_ := Aside0.mk (blk_below (g := gb341) (o := .cells #[.int .i64 t322, .int .i64 t323, .string t324, .string t325, .bool t326, .bool t327, .slice Ao41 t328.length co41, .slice Ao42 t331.length co42, .slice Ao43 t334.length co43, .slice Ao44 t337.length co44] 37 (0, 0)) (by (with_reducible repeat (first | refine blk_drewN ?_ _ | refine blk_drew ?_ | refine blk_alloc ?_ _)); exact BK341.out) hb)
              have n8_ := Aside0.mk (below_step (by repeat (first | (with_reducible first | exact HB.out | apply below_alloc | apply pw_below_drewN | apply below_drew1 | refine below_set ?_ GE310.out | refine below_set ?_ GE341.out) | exact HB.out)) hb)
              have n9_ := Aside0.mk (hbox)
              have n10_ := Aside0.mk ((by rw [hg]; exact (below_size (by repeat (first | (with_reducible first | exact HB.out | apply below_alloc | apply pw_below_drewN | apply below_drew1 | refine below_set ?_ GE310.out | refine below_set ?_ GE341.out) | exact HB.out))) : w.heap.size ≤ gb364))
              have n11_ := Aside0.mk ((by rw [hg]; exact (below_size (by repeat (first | (with_reducible first | exact HB.out | apply below_alloc | apply pw_below_drewN | apply below_drew1 | refine below_set ?_ GE310.out | refine below_set ?_ GE341.out) | exact HB.out))) : w.heap.size ≤ gb364))
              have n12_ := Aside0.mk ((by rw [hg]; exact Nat.ne_of_lt (blk_lt (g := gb310) (o := .cells #[.string a0_0, .string a0_1, .bool a0_2] 23 (0, 0)) (by (with_reducible repeat (first | refine blk_drewN ?_ _ | refine blk_drew ?_ | refine blk_alloc ?_ _)); exact BK310.out)) : gb310 ≠ gb364))
              have n13_ := Aside0.mk ((by rw [hg]; exact Nat.ne_of_gt (blk_lt (g := gb310) (o := .cells #[.string a0_0, .string a0_1, .bool a0_2] 23 (0, 0)) (by (with_reducible repeat (first | refine blk_drewN ?_ _ | refine blk_drew ?_ | refine blk_alloc ?_ _)); exact BK310.out)) : gb364 ≠ gb310))
              have n14_ := Aside0.mk ((by rw [hg]; exact Nat.ne_of_lt (blk_lt (g := gb341) (o := .cells #[.int .i64 t322, .int .i64 t323, .string t324, .string t325, .bool t326, .bool t327, .slice Ao41 t328.length co41, .slice Ao42 t331.length co42, .slice Ao43 t334.length co43, .slice Ao44 t337.length co44] 37 (0, 0)) (by (with_reducible repeat (first | refine blk_drewN ?_ _ | refine blk_drew ?_ | refine blk_alloc ?_ _)); exact BK341.out)) : gb341 ≠ gb364))
              have n15_ := Aside0.mk ((by rw [hg]; exact Nat.ne_of_gt (blk_lt (g := gb341) (o := .cells #[.int .i64 t322, .int .i64 t323, .string t324, .string t325, .bool t326, .bool t327, .slice Ao41 t328.length co41, .slice Ao42 t331.length co42, .slice Ao43 t334.length co43, .slice Ao44 t337.length co44] 37 (0, 0)) (by (with_reducible repeat (first | refine blk_drewN ?_ _ | refine blk_drew ?_ | refine blk_alloc ?_ _)); exact BK341.out)) : gb364 ≠ gb341))
              clear HO321
              clear HO330
              clear HO333
              clear HO336
              clear HO339
              clear HO344
              clear BK310
              clear BK341
              clear HB
              have HO321 := n0_
              have HO330 := n1_
              have HO333 := n2_
              have HO336 := n3_
              have HO339 := n4_
              have HO344 := n5_
              have BK310 := n6_
              have BK341 := n7_
              have HB := n8_
              have BK364 := n9_
              have GW364 := n10_
              have GE364 := n11_
              have NB310_364 := n12_
              have NB364_310 := n13_
              have NB341_364 := n14_
              have NB364_341 := n15_
              clear n0_ n1_ n2_ n3_ n4_ n5_ n6_ n7_ n8_ n9_ n10_ n11_ n12_ n13_ n14_ n15_
              clear hb hbox hg
              obtain ⟨Ao49, co49, eo49⟩ := Kd.R_slice HO344.out
              (first | subst eo49 | (injection eo49 with f1_ f2_ f3_; have f4_ := f1_.symm; have f5_ := f3_.symm; clear f1_ f2_ f3_; subst f4_; subst f5_))
              refine hK.out _ _ ⟨(blk_cell BK341.out 0).trans rfl, (blk_cell BK341.out 1).trans rfl, (blk_cell BK341.out 2).trans rfl, (blk_cell BK341.out 3).trans rfl, (blk_cell BK341.out 4).trans rfl, (blk_cell BK341.out 5).trans rfl, (blk_cell BK341.out 6).trans rfl, (blk_cell BK341.out 7).trans rfl, (blk_cell BK341.out 8).trans rfl, (blk_cell BK341.out 9).trans rfl⟩ (fun hHeld => ?_)
              clear hK K
              refine norm_ (a' := ?_) ?_ ?_
              rotate_left
              · show Act.put _ (some 11) _ = _
                simp only [Act.put, List.setIfInBounds_toArray, List.set_cons_zero, List.set_cons_succ, i64_w, i32_w]
                rfl
              refine one_ (i := 3) (N := some 53) #[true, true, true, true, false, false, false, true, false, false] rfl rfl (one_of HT_.out (by kernel_rfl)) (by decide) (fun K hK => ?_)
              refine goes_ Try.func19 (by kernel_rfl) rfl #[.agg #[.int .i64 t322, .int .i64 t323, .string t324, .string t325, .bool t326, .bool t327, .slice Ao41 t328.length co41, .slice Ao42 t331.length co42, .slice Ao43 t334.length co43, .slice Ao44 t337.length co44], .int .i64 2, .slice Ao49 t342.length co49] (by rfl) rfl rfl (by (try simp only [List.map_toArray, List.map_cons, List.map_nil]); first | done | rfl | (simp only [List.length_drop, List.length_take]; rfl)) ?_
              with_reducible refine (rev_Apply.calls kj4 t322 t323 t324 t325 t326 t327 _ _ t328 _ _ t331 _ _ t334 _ _ t337 2 _ _ t342 t345 t346 t347 t348 t349 t350 t351 t354 t357 t360 t363 _ ?side1 ?side2 ?side3 ?side4 ?side5 ?side6 ?side7 ?side8 ?side9 ?side10 A31.out).mono ?_
              (case side1 => repeat (first | exact (Kd.R_reads' HO330.out).2.2 | (with_reducible refine Kd.C_alloc ?_ _) | (with_reducible refine Kd.C_drewN ?_ _) | (with_reducible refine Kd.C_drew ?_)))
              (case side2 => exact (Kd.R_reads' HO330.out).2.1)
              (case side3 => repeat (first | exact (Kd.R_reads' HO333.out).2.2 | (with_reducible refine Kd.C_alloc ?_ _) | (with_reducible refine Kd.C_drewN ?_ _) | (with_reducible refine Kd.C_drew ?_)))
              (case side4 => exact (Kd.R_reads' HO333.out).2.1)
              (case side5 => repeat (first | exact (Kd.R_reads' HO336.out).2.2 | (with_reducible refine Kd.C_alloc ?_ _) | (with_reducible refine Kd.C_drewN ?_ _) | (with_reducible refine Kd.C_drew ?_)))
              (case side6 => exact (Kd.R_reads' HO336.out).2.1)
              (case side7 => repeat (first | exact (Kd.R_reads' HO339.out).2.2 | (with_reducible refine Kd.C_alloc ?_ _) | (with_reducible refine Kd.C_drewN ?_ _) | (with_reducible refine Kd.C_drew ?_)))
              (case side8 => exact (Kd.R_reads' HO339.out).2.1)
              (case side9 => repeat (first | exact (Kd.R_reads' HO344.out).2.2 | (with_reducible refine Kd.C_alloc ?_ _) | (with_reducible refine Kd.C_drewN ?_ _) | (with_reducible refine Kd.C_drew ?_)))
              (case side10 => exact (Kd.R_reads' HO344.out).2.1)
              rintro e w50 ⟨v352, v355, v358, v361, rfl, ho0, ho1, ho2, ho3, hb⟩
              refine ⟨_, rfl, ?_⟩
              have n0_ := Aside0.mk (Kd.R_below (by (with_reducible repeat (first | apply Kd.R_alloc | apply Kd.R_drewN | apply Kd.R_drew)); exact HO321.out) hb)
              have n1_ := Aside0.mk (Kd.R_mono (Kd.R_told (Kd.R_told (Kd.R_old (by (with_reducible repeat (first | apply Kd.R_alloc | apply Kd.R_drewN | apply Kd.R_drew)); exact HO330.out) hb) (Kd.R_base ho0)) (Kd.R_base ho1)) (fun _ h_ => h_.1))
              have n2_ := Aside0.mk (Kd.R_mono (Kd.R_told (Kd.R_told (Kd.R_old (by (with_reducible repeat (first | apply Kd.R_alloc | apply Kd.R_drewN | apply Kd.R_drew)); exact HO333.out) hb) (Kd.R_base ho0)) (Kd.R_base ho1)) (fun _ h_ => h_.1))
              have n3_ := Aside0.mk (Kd.R_elder' (by (with_reducible repeat (first | apply Kd.R_alloc | apply Kd.R_drewN | apply Kd.R_drew)); exact HO336.out) (Kd.R_base ho2) hb)
              have n4_ := Aside0.mk (Kd.R_elder' (by (with_reducible repeat (first | apply Kd.R_alloc | apply Kd.R_drewN | apply Kd.R_drew)); exact HO339.out) (Kd.R_base ho3) hb)
              have n5_ := Aside0.mk (Kd.R_below (by (with_reducible repeat (first | apply Kd.R_alloc | apply Kd.R_drewN | apply Kd.R_drew)); exact HO344.out) hb)
              have n6_ := Aside0.mk (Kd.R_lower (Kd.R_new' (Kd.R_new' ho0 (Kd.R_lt (by (with_reducible repeat (first | apply Kd.R_alloc | apply Kd.R_drewN | apply Kd.R_drew)); exact HO330.out))) (Kd.R_lt (by (with_reducible repeat (first | apply Kd.R_alloc | apply Kd.R_drewN | apply Kd.R_drew)); exact HO333.out))) (below_size (by repeat (first | (with_reducible first | exact HB.out | apply below_alloc | apply pw_below_drewN | apply below_drew1 | refine below_set ?_ GE310.out | refine below_set ?_ GE341.out | refine below_set ?_ GE364.out) | exact HB.out))))
              have n7_ := Aside0.mk (Kd.R_lower (Kd.R_new' (Kd.R_new' ho1 (Kd.R_lt (by (with_reducible repeat (first | apply Kd.R_alloc | apply Kd.R_drewN | apply Kd.R_drew)); exact HO330.out))) (Kd.R_lt (by (with_reducible repeat (first | apply Kd.R_alloc | apply Kd.R_drewN | apply Kd.R_drew)); exact HO333.out))) (below_size (by repeat (first | (with_reducible first | exact HB.out | apply below_alloc | apply pw_below_drewN | apply below_drew1 | refine below_set ?_ GE310.out | refine below_set ?_ GE341.out | refine below_set ?_ GE364.out) | exact HB.out))))
              have n8_ := Aside0.mk (Kd.R_lower (Kd.R_new' ho2 (Kd.R_lt (by (with_reducible repeat (first | apply Kd.R_alloc | apply Kd.R_drewN | apply Kd.R_drew)); exact HO336.out))) (below_size (by repeat (first | (with_reducible first | exact HB.out | apply below_alloc | apply pw_below_drewN | apply below_drew1 | refine below_set ?_ GE310.out | refine below_set ?_ GE341.out | refine below_set ?_ GE364.out) | exact HB.out))))
              have n9_ := Aside0.mk (Kd.R_lower (Kd.R_new' ho3 (Kd.R_lt (by (with_reducible repeat (first | apply Kd.R_alloc | apply Kd.R_drewN | apply Kd.R_drew)); exact HO339.out))) (below_size (by repeat (first | (with_reducible first | exact HB.out | apply below_alloc | apply pw_below_drewN | apply below_drew1 | refine below_set ?_ GE310.out | refine below_set ?_ GE341.out | refine below_set ?_ GE364.out) | exact HB.out))))
              have n10_ := Aside0.mk (blk_below (g := gb310) (o := .cells #[.string a0_0, .string a0_1, .bool a0_2] 23 (0, 0)) (by (with_reducible repeat (first | refine blk_drewN ?_ _ | refine blk_drew ?_ | refine blk_alloc ?_ _)); exact BK310.out) hb)
              have n11_ := Aside0.mk (blk_below (g := gb341) (o := .cells #[.int .i64 t322, .int .i64 t323, .string t324, .string t325, .bool t326, .bool t327, .slice Ao41 t328.length co41, .slice Ao42 t331.length co42, .slice Ao43 t334.length co43, .slice Ao44 t337.length co44] 37 (0, 0)) (by (with_reducible repeat (first | refine blk_drewN ?_ _ | refine blk_drew ?_ | refine blk_alloc ?_ _)); exact BK341.out) hb)
              have n12_ := Aside0.mk (blk_below (g := gb364) (o := .cells #[.int .i64 0, .int .i64 0, .string (⟨#[]⟩ : ByteArray), .string (⟨#[]⟩ : ByteArray), .bool false, .bool false, .slice none 0 0, .slice none 0 0, .slice none 0 0, .slice none 0 0] 37 (0, 0)) (by (with_reducible repeat (first | refine blk_drewN ?_ _ | refine blk_drew ?_ | refine blk_alloc ?_ _)); exact BK364.out) hb)
              have n13_ := Aside0.mk (below_step (by repeat (first | (with_reducible first | exact HB.out | apply below_alloc | apply pw_below_drewN | apply below_drew1 | refine below_set ?_ GE310.out | refine below_set ?_ GE341.out | refine below_set ?_ GE364.out) | exact HB.out)) hb)
              clear HO321
              clear HO330
              clear HO333
              clear HO336
              clear HO339
              clear HO344
              clear BK310
              clear BK341
              clear BK364
              clear HB
              have HO321 := n0_
              have HO330 := n1_
              have HO333 := n2_
              have HO336 := n3_
              have HO339 := n4_
              have HO344 := n5_
              have HO353 := n6_
              have HO356 := n7_
              have HO359 := n8_
              have HO362 := n9_
              have BK310 := n10_
              have BK341 := n11_
              have BK364 := n12_
              have HB := n13_
              clear n0_ n1_ n2_ n3_ n4_ n5_ n6_ n7_ n8_ n9_ n10_ n11_ n12_ n13_
              (try clear hb)
              (try clear hb2)
              (try clear hk)
              (try clear hi)
              (try clear ho0)
              (try clear ho1)
              (try clear ho2)
              (try clear ho3)
              refine hK.out _ _ ⟨(blk_cell BK341.out 0).trans rfl, (blk_cell BK341.out 1).trans rfl, (blk_cell BK341.out 2).trans rfl, (blk_cell BK341.out 3).trans rfl, (blk_cell BK341.out 4).trans rfl, (blk_cell BK341.out 5).trans rfl, (blk_cell BK341.out 6).trans rfl, (blk_cell BK341.out 7).trans rfl, (blk_cell BK341.out 8).trans rfl, (blk_cell BK341.out 9).trans rfl⟩ (fun hHeld => ?_)
              clear hK K
              refine norm_ (a' := ?_) ?_ ?_
              rotate_left
              · show Act.put _ (some 53) _ = _
                simp only [Act.put, List.setIfInBounds_toArray, List.set_cons_zero, List.set_cons_succ, i64_w, i32_w]
                rfl
              refine pure_ (i := 4) (N := some 49) (v := ?_) (a' := ?_) #[true, true, true, true, true, false, false, true, false, false] rfl rfl (any_of HT_.out (by kernel_rfl)) (fun _ _ _ h => h) (Or.inl ⟨by rfl, ?_⟩) ?_ ?_
              rotate_left
              · intro w'
                go_simp
                with_reducible rfl
              rotate_left
              · simp only [Act.put, List.setIfInBounds_toArray, List.set_cons_zero, List.set_cons_succ, i64_w, i32_w]
                rfl
              refine pure_ (i := 5) (N := some 54) (v := ?_) (a' := ?_) #[true, true, true, true, true, true, false, true, false, false] rfl rfl (any_of HT_.out (by kernel_rfl)) (fun _ _ _ h => h) (Or.inl ⟨by rfl, ?_⟩) ?_ ?_
              rotate_left
              · intro w'
                go_simp
                with_reducible rfl
              rotate_left
              · simp only [Act.put, List.setIfInBounds_toArray, List.set_cons_zero, List.set_cons_succ, i64_w, i32_w]
                rfl
              refine pure_ (i := 6) (N := some 55) (v := ?_) (a' := ?_) #[true, true, true, true, true, true, true, true, false, false] rfl rfl (any_of HT_.out (by kernel_rfl)) (fun _ _ _ h => h) (Or.inl ⟨by rfl, ?_⟩) ?_ ?_
              rotate_left
              · intro w'
                go_simp
                with_reducible rfl
              rotate_left
              · simp only [Act.put, List.setIfInBounds_toArray, List.set_cons_zero, List.set_cons_succ, i64_w, i32_w]
                rfl
              exact norm_ (by simp only [putAll, Act.put, List.setIfInBounds_toArray, List.set_cons_zero, List.set_cons_succ]) (hCont (.slice Ao49 t342.length co49, v352, v355, v358, v361, gb364) _ ⟨hHeld, (by (with_reducible repeat (first | apply Kd.R_alloc | apply Kd.R_drewN | apply Kd.R_drew)); exact Kd.R_mono HO321.out (fun _ hk => hk.2)), (by (with_reducible repeat (first | apply Kd.R_alloc | apply Kd.R_drewN | apply Kd.R_drew)); exact Kd.R_mono HO330.out (fun _ hk => ⟨hk.1.1, ⟨hk.1.2, hk.2⟩⟩)), (by (with_reducible repeat (first | apply Kd.R_alloc | apply Kd.R_drewN | apply Kd.R_drew)); exact Kd.R_mono HO333.out (fun _ hk => ⟨hk.1.1, ⟨hk.1.2, hk.2⟩⟩)), (by (with_reducible repeat (first | apply Kd.R_alloc | apply Kd.R_drewN | apply Kd.R_drew)); exact Kd.R_mono HO336.out (fun _ hk => hk.2)), (by (with_reducible repeat (first | apply Kd.R_alloc | apply Kd.R_drewN | apply Kd.R_drew)); exact Kd.R_mono HO339.out (fun _ hk => hk.2)), (by (with_reducible repeat (first | apply Kd.R_alloc | apply Kd.R_drewN | apply Kd.R_drew)); exact Kd.R_mono HO344.out (fun _ hk => hk.2)), (by (with_reducible repeat (first | apply Kd.R_alloc | apply Kd.R_drewN | apply Kd.R_drew)); exact Kd.R_mono HO353.out (fun _ hk => ⟨hk.1.2, ⟨hk.2, hk.1.1⟩⟩)), (by (with_reducible repeat (first | apply Kd.R_alloc | apply Kd.R_drewN | apply Kd.R_drew)); exact Kd.R_mono HO356.out (fun _ hk => ⟨hk.1.2, ⟨hk.2, hk.1.1⟩⟩)), (by (with_reducible repeat (first | apply Kd.R_alloc | apply Kd.R_drewN | apply Kd.R_drew)); exact Kd.R_mono HO359.out (fun _ hk => hk.2)), (by (with_reducible repeat (first | apply Kd.R_alloc | apply Kd.R_drewN | apply Kd.R_drew)); exact Kd.R_mono HO362.out (fun _ hk => hk.2)), (by (with_reducible repeat (first | refine blk_drewN ?_ _ | refine blk_drew ?_ | refine blk_alloc ?_ _)); exact BK310.out), (by (with_reducible repeat (first | refine blk_drewN ?_ _ | refine blk_drew ?_ | refine blk_alloc ?_ _)); exact BK341.out), (by (with_reducible repeat (first | refine blk_drewN ?_ _ | refine blk_drew ?_ | refine blk_alloc ?_ _)); exact BK364.out), GW364.out, GE364.out, NB310_364.out, NB364_310.out, NB341_364.out, NB364_341.out, (by repeat (first | (with_reducible first | exact HB.out | apply below_alloc | apply pw_below_drewN | apply below_drew1 | refine below_set ?_ GE310.out | refine below_set ?_ GE341.out | refine below_set ?_ GE364.out) | exact HB.out))⟩)
          · skip
            refine box_step ?hg (N := 11) ?hd (cs := #[.int .i64 0, .int .i64 0, .string (⟨#[]⟩ : ByteArray), .string (⟨#[]⟩ : ByteArray), .bool false, .bool false, .slice none 0 0, .slice none 0 0, .slice none 0 0, .slice none 0 0]) (t := 37) ?hr ?_; (case hd => rfl); (case hg => rfl); (case hr => first | (go_simp; done) | (go_simp; rfl))
            intro gb364 hg w47 hbox hb
            have n0_ := Aside0.mk (Kd.R_below (by (with_reducible repeat (first | apply Kd.R_alloc | apply Kd.R_drewN | apply Kd.R_drew)); exact HO321.out) hb)
            have n1_ := Aside0.mk (Kd.R_below (by (with_reducible repeat (first | apply Kd.R_alloc | apply Kd.R_drewN | apply Kd.R_drew)); exact HO330.out) hb)
            have n2_ := Aside0.mk (Kd.R_below (by (with_reducible repeat (first | apply Kd.R_alloc | apply Kd.R_drewN | apply Kd.R_drew)); exact HO333.out) hb)
            have n3_ := Aside0.mk (Kd.R_below (by (with_reducible repeat (first | apply Kd.R_alloc | apply Kd.R_drewN | apply Kd.R_drew)); exact HO336.out) hb)
            have n4_ := Aside0.mk (Kd.R_below (by (with_reducible repeat (first | apply Kd.R_alloc | apply Kd.R_drewN | apply Kd.R_drew)); exact HO339.out) hb)
            have n5_ := Aside0.mk (blk_below (g := gb310) (o := .cells #[.string a0_0, .string a0_1, .bool a0_2] 23 (0, 0)) (by (with_reducible repeat (first | refine blk_drewN ?_ _ | refine blk_drew ?_ | refine blk_alloc ?_ _)); exact BK310.out) hb)
            have n6_ := Aside0.mk (blk_below (g := gb341) (o := .cells #[.int .i64 t322, .int .i64 t323, .string t324, .string t325, .bool t326, .bool t327, .slice Ao41 t328.length co41, .slice Ao42 t331.length co42, .slice Ao43 t334.length co43, .slice Ao44 t337.length co44] 37 (0, 0)) (by (with_reducible repeat (first | refine blk_drewN ?_ _ | refine blk_drew ?_ | refine blk_alloc ?_ _)); exact BK341.out) hb)
            have n7_ := Aside0.mk (below_step (by repeat (first | (with_reducible first | exact HB.out | apply below_alloc | apply pw_below_drewN | apply below_drew1 | refine below_set ?_ GE310.out | refine below_set ?_ GE341.out) | exact HB.out)) hb)
            have n8_ := Aside0.mk (hbox)
            have n9_ := Aside0.mk ((by rw [hg]; exact (below_size (by repeat (first | (with_reducible first | exact HB.out | apply below_alloc | apply pw_below_drewN | apply below_drew1 | refine below_set ?_ GE310.out | refine below_set ?_ GE341.out) | exact HB.out))) : w.heap.size ≤ gb364))
            have n10_ := Aside0.mk ((by rw [hg]; exact (below_size (by repeat (first | (with_reducible first | exact HB.out | apply below_alloc | apply pw_below_drewN | apply below_drew1 | refine below_set ?_ GE310.out | refine below_set ?_ GE341.out) | exact HB.out))) : w.heap.size ≤ gb364))
            have n11_ := Aside0.mk ((by rw [hg]; exact Nat.ne_of_lt (blk_lt (g := gb310) (o := .cells #[.string a0_0, .string a0_1, .bool a0_2] 23 (0, 0)) (by (with_reducible repeat (first | refine blk_drewN ?_ _ | refine blk_drew ?_ | refine blk_alloc ?_ _)); exact BK310.out)) : gb310 ≠ gb364))
            have n12_ := Aside0.mk ((by rw [hg]; exact Nat.ne_of_gt (blk_lt (g := gb310) (o := .cells #[.string a0_0, .string a0_1, .bool a0_2] 23 (0, 0)) (by (with_reducible repeat (first | refine blk_drewN ?_ _ | refine blk_drew ?_ | refine blk_alloc ?_ _)); exact BK310.out)) : gb364 ≠ gb310))
            have n13_ := Aside0.mk ((by rw [hg]; exact Nat.ne_of_lt (blk_lt (g := gb341) (o := .cells #[.int .i64 t322, .int .i64 t323, .string t324, .string t325, .bool t326, .bool t327, .slice Ao41 t328.length co41, .slice Ao42 t331.length co42, .slice Ao43 t334.length co43, .slice Ao44 t337.length co44] 37 (0, 0)) (by (with_reducible repeat (first | refine blk_drewN ?_ _ | refine blk_drew ?_ | refine blk_alloc ?_ _)); exact BK341.out)) : gb341 ≠ gb364))
            have n14_ := Aside0.mk ((by rw [hg]; exact Nat.ne_of_gt (blk_lt (g := gb341) (o := .cells #[.int .i64 t322, .int .i64 t323, .string t324, .string t325, .bool t326, .bool t327, .slice Ao41 t328.length co41, .slice Ao42 t331.length co42, .slice Ao43 t334.length co43, .slice Ao44 t337.length co44] 37 (0, 0)) (by (with_reducible repeat (first | refine blk_drewN ?_ _ | refine blk_drew ?_ | refine blk_alloc ?_ _)); exact BK341.out)) : gb364 ≠ gb341))
            clear HO321
            clear HO330
            clear HO333
            clear HO336
            clear HO339
            clear BK310
            clear BK341
            clear HB
            have HO321 := n0_
            have HO330 := n1_
            have HO333 := n2_
            have HO336 := n3_
            have HO339 := n4_
            have BK310 := n5_
            have BK341 := n6_
            have HB := n7_
            have BK364 := n8_
            have GW364 := n9_
            have GE364 := n10_
            have NB310_364 := n11_
            have NB364_310 := n12_
            have NB341_364 := n13_
            have NB364_341 := n14_
            clear n0_ n1_ n2_ n3_ n4_ n5_ n6_ n7_ n8_ n9_ n10_ n11_ n12_ n13_ n14_
            clear hb hbox hg
            refine hK.out _ _ ⟨(blk_cell BK341.out 0).trans rfl, (blk_cell BK341.out 1).trans rfl, (blk_cell BK341.out 2).trans rfl, (blk_cell BK341.out 3).trans rfl, (blk_cell BK341.out 4).trans rfl, (blk_cell BK341.out 5).trans rfl, (blk_cell BK341.out 6).trans rfl, (blk_cell BK341.out 7).trans rfl, (blk_cell BK341.out 8).trans rfl, (blk_cell BK341.out 9).trans rfl⟩ (fun hHeld => ?_)
            clear hK K
            refine norm_ (a' := ?_) ?_ ?_
            rotate_left
            · show Act.put _ (some 11) _ = _
              simp only [Act.put, List.setIfInBounds_toArray, List.set_cons_zero, List.set_cons_succ, i64_w, i32_w]
              rfl
            refine one_ (i := 2) (N := some 52) #[true, true, true, false, false, false, false, true, false, false] rfl rfl (one_of HT_.out (by kernel_rfl)) (by decide) (fun K hK => ?_)
            refine goes_ Try.func18 (by kernel_rfl) rfl #[.slice A2 l2.length c2] (by rfl) rfl rfl (by (try simp only [List.map_toArray, List.map_cons, List.map_nil]); first | done | rfl | (simp only [List.length_drop, List.length_take]; rfl)) ?_
            with_reducible refine (rundlelaw08_Of.calls kj4 _ _ l2 t342 _ ?side1 ?side2 A30.out).mono ?_
            (case side1 => repeat (first | exact (Kd.C_below HR2.out HB.out) | (with_reducible refine Kd.C_alloc ?_ _) | (with_reducible refine Kd.C_drewN ?_ _) | (with_reducible refine Kd.C_drew ?_)))
            (case side2 => exact HC2.out)
            rintro e w48 ⟨v343, rfl, ho0, hb⟩
            refine ⟨_, rfl, ?_⟩
            have n0_ := Aside0.mk (Kd.R_elder' (by (with_reducible repeat (first | apply Kd.R_alloc | apply Kd.R_drewN | apply Kd.R_drew)); exact HO321.out) (Kd.R_base ho0) hb)
            have n1_ := Aside0.mk (Kd.R_below (by (with_reducible repeat (first | apply Kd.R_alloc | apply Kd.R_drewN | apply Kd.R_drew)); exact HO330.out) hb)
            have n2_ := Aside0.mk (Kd.R_below (by (with_reducible repeat (first | apply Kd.R_alloc | apply Kd.R_drewN | apply Kd.R_drew)); exact HO333.out) hb)
            have n3_ := Aside0.mk (Kd.R_below (by (with_reducible repeat (first | apply Kd.R_alloc | apply Kd.R_drewN | apply Kd.R_drew)); exact HO336.out) hb)
            have n4_ := Aside0.mk (Kd.R_below (by (with_reducible repeat (first | apply Kd.R_alloc | apply Kd.R_drewN | apply Kd.R_drew)); exact HO339.out) hb)
            have n5_ := Aside0.mk (Kd.R_lower (Kd.R_new' ho0 (Kd.R_lt (by (with_reducible repeat (first | apply Kd.R_alloc | apply Kd.R_drewN | apply Kd.R_drew)); exact HO321.out))) (below_size (by repeat (first | (with_reducible first | exact HB.out | apply below_alloc | apply pw_below_drewN | apply below_drew1 | refine below_set ?_ GE310.out | refine below_set ?_ GE341.out | refine below_set ?_ GE364.out) | exact HB.out))))
            have n6_ := Aside0.mk (blk_below (g := gb310) (o := .cells #[.string a0_0, .string a0_1, .bool a0_2] 23 (0, 0)) (by (with_reducible repeat (first | refine blk_drewN ?_ _ | refine blk_drew ?_ | refine blk_alloc ?_ _)); exact BK310.out) hb)
            have n7_ := Aside0.mk (blk_below (g := gb341) (o := .cells #[.int .i64 t322, .int .i64 t323, .string t324, .string t325, .bool t326, .bool t327, .slice Ao41 t328.length co41, .slice Ao42 t331.length co42, .slice Ao43 t334.length co43, .slice Ao44 t337.length co44] 37 (0, 0)) (by (with_reducible repeat (first | refine blk_drewN ?_ _ | refine blk_drew ?_ | refine blk_alloc ?_ _)); exact BK341.out) hb)
            have n8_ := Aside0.mk (blk_below (g := gb364) (o := .cells #[.int .i64 0, .int .i64 0, .string (⟨#[]⟩ : ByteArray), .string (⟨#[]⟩ : ByteArray), .bool false, .bool false, .slice none 0 0, .slice none 0 0, .slice none 0 0, .slice none 0 0] 37 (0, 0)) (by (with_reducible repeat (first | refine blk_drewN ?_ _ | refine blk_drew ?_ | refine blk_alloc ?_ _)); exact BK364.out) hb)
            have n9_ := Aside0.mk (below_step (by repeat (first | (with_reducible first | exact HB.out | apply below_alloc | apply pw_below_drewN | apply below_drew1 | refine below_set ?_ GE310.out | refine below_set ?_ GE341.out | refine below_set ?_ GE364.out) | exact HB.out)) hb)
            clear HO321
            clear HO330
            clear HO333
            clear HO336
            clear HO339
            clear BK310
            clear BK341
            clear BK364
            clear HB
            have HO321 := n0_
            have HO330 := n1_
            have HO333 := n2_
            have HO336 := n3_
            have HO339 := n4_
            have HO344 := n5_
            have BK310 := n6_
            have BK341 := n7_
            have BK364 := n8_
            have HB := n9_
            clear n0_ n1_ n2_ n3_ n4_ n5_ n6_ n7_ n8_ n9_
            (try clear hb)
            (try clear hb2)
            (try clear hk)
            (try clear hi)
            (try clear ho0)
            obtain ⟨Ao49, co49, eo49⟩ := Kd.R_slice HO344.out
            (first | subst eo49 | (injection eo49 with f1_ f2_ f3_; have f4_ := f1_.symm; have f5_ := f3_.symm; clear f1_ f2_ f3_; subst f4_; subst f5_))
            refine hK.out _ _ ⟨(blk_cell BK341.out 0).trans rfl, (blk_cell BK341.out 1).trans rfl, (blk_cell BK341.out 2).trans rfl, (blk_cell BK341.out 3).trans rfl, (blk_cell BK341.out 4).trans rfl, (blk_cell BK341.out 5).trans rfl, (blk_cell BK341.out 6).trans rfl, (blk_cell BK341.out 7).trans rfl, (blk_cell BK341.out 8).trans rfl, (blk_cell BK341.out 9).trans rfl⟩ (fun hHeld => ?_)
            clear hK K
            refine norm_ (a' := ?_) ?_ ?_
            rotate_left
            · show Act.put _ (some 52) _ = _
              simp only [Act.put, List.setIfInBounds_toArray, List.set_cons_zero, List.set_cons_succ, i64_w, i32_w]
              rfl
            refine one_ (i := 3) (N := some 53) #[true, true, true, true, false, false, false, true, false, false] rfl rfl (one_of HT_.out (by kernel_rfl)) (by decide) (fun K hK => ?_)
            refine goes_ Try.func19 (by kernel_rfl) rfl #[.agg #[.int .i64 t322, .int .i64 t323, .string t324, .string t325, .bool t326, .bool t327, .slice Ao41 t328.length co41, .slice Ao42 t331.length co42, .slice Ao43 t334.length co43, .slice Ao44 t337.length co44], .int .i64 2, .slice Ao49 t342.length co49] (by rfl) rfl rfl (by (try simp only [List.map_toArray, List.map_cons, List.map_nil]); first | done | rfl | (simp only [List.length_drop, List.length_take]; rfl)) ?_
            with_reducible refine (rev_Apply.calls kj4 t322 t323 t324 t325 t326 t327 _ _ t328 _ _ t331 _ _ t334 _ _ t337 2 _ _ t342 t345 t346 t347 t348 t349 t350 t351 t354 t357 t360 t363 _ ?side1 ?side2 ?side3 ?side4 ?side5 ?side6 ?side7 ?side8 ?side9 ?side10 A31.out).mono ?_
            (case side1 => repeat (first | exact (Kd.R_reads' HO330.out).2.2 | (with_reducible refine Kd.C_alloc ?_ _) | (with_reducible refine Kd.C_drewN ?_ _) | (with_reducible refine Kd.C_drew ?_)))
            (case side2 => exact (Kd.R_reads' HO330.out).2.1)
            (case side3 => repeat (first | exact (Kd.R_reads' HO333.out).2.2 | (with_reducible refine Kd.C_alloc ?_ _) | (with_reducible refine Kd.C_drewN ?_ _) | (with_reducible refine Kd.C_drew ?_)))
            (case side4 => exact (Kd.R_reads' HO333.out).2.1)
            (case side5 => repeat (first | exact (Kd.R_reads' HO336.out).2.2 | (with_reducible refine Kd.C_alloc ?_ _) | (with_reducible refine Kd.C_drewN ?_ _) | (with_reducible refine Kd.C_drew ?_)))
            (case side6 => exact (Kd.R_reads' HO336.out).2.1)
            (case side7 => repeat (first | exact (Kd.R_reads' HO339.out).2.2 | (with_reducible refine Kd.C_alloc ?_ _) | (with_reducible refine Kd.C_drewN ?_ _) | (with_reducible refine Kd.C_drew ?_)))
            (case side8 => exact (Kd.R_reads' HO339.out).2.1)
            (case side9 => repeat (first | exact (Kd.R_reads' HO344.out).2.2 | (with_reducible refine Kd.C_alloc ?_ _) | (with_reducible refine Kd.C_drewN ?_ _) | (with_reducible refine Kd.C_drew ?_)))
            (case side10 => exact (Kd.R_reads' HO344.out).2.1)
            rintro e w50 ⟨v352, v355, v358, v361, rfl, ho0, ho1, ho2, ho3, hb⟩
            refine ⟨_, rfl, ?_⟩
            have n0_ := Aside0.mk (Kd.R_below (by (with_reducible repeat (first | apply Kd.R_alloc | apply Kd.R_drewN | apply Kd.R_drew)); exact HO321.out) hb)
            have n1_ := Aside0.mk (Kd.R_mono (Kd.R_told (Kd.R_told (Kd.R_old (by (with_reducible repeat (first | apply Kd.R_alloc | apply Kd.R_drewN | apply Kd.R_drew)); exact HO330.out) hb) (Kd.R_base ho0)) (Kd.R_base ho1)) (fun _ h_ => h_.1))
            have n2_ := Aside0.mk (Kd.R_mono (Kd.R_told (Kd.R_told (Kd.R_old (by (with_reducible repeat (first | apply Kd.R_alloc | apply Kd.R_drewN | apply Kd.R_drew)); exact HO333.out) hb) (Kd.R_base ho0)) (Kd.R_base ho1)) (fun _ h_ => h_.1))
            have n3_ := Aside0.mk (Kd.R_elder' (by (with_reducible repeat (first | apply Kd.R_alloc | apply Kd.R_drewN | apply Kd.R_drew)); exact HO336.out) (Kd.R_base ho2) hb)
            have n4_ := Aside0.mk (Kd.R_elder' (by (with_reducible repeat (first | apply Kd.R_alloc | apply Kd.R_drewN | apply Kd.R_drew)); exact HO339.out) (Kd.R_base ho3) hb)
            have n5_ := Aside0.mk (Kd.R_below (by (with_reducible repeat (first | apply Kd.R_alloc | apply Kd.R_drewN | apply Kd.R_drew)); exact HO344.out) hb)
            have n6_ := Aside0.mk (Kd.R_lower (Kd.R_new' (Kd.R_new' ho0 (Kd.R_lt (by (with_reducible repeat (first | apply Kd.R_alloc | apply Kd.R_drewN | apply Kd.R_drew)); exact HO330.out))) (Kd.R_lt (by (with_reducible repeat (first | apply Kd.R_alloc | apply Kd.R_drewN | apply Kd.R_drew)); exact HO333.out))) (below_size (by repeat (first | (with_reducible first | exact HB.out | apply below_alloc | apply pw_below_drewN | apply below_drew1 | refine below_set ?_ GE310.out | refine below_set ?_ GE341.out | refine below_set ?_ GE364.out) | exact HB.out))))
            have n7_ := Aside0.mk (Kd.R_lower (Kd.R_new' (Kd.R_new' ho1 (Kd.R_lt (by (with_reducible repeat (first | apply Kd.R_alloc | apply Kd.R_drewN | apply Kd.R_drew)); exact HO330.out))) (Kd.R_lt (by (with_reducible repeat (first | apply Kd.R_alloc | apply Kd.R_drewN | apply Kd.R_drew)); exact HO333.out))) (below_size (by repeat (first | (with_reducible first | exact HB.out | apply below_alloc | apply pw_below_drewN | apply below_drew1 | refine below_set ?_ GE310.out | refine below_set ?_ GE341.out | refine below_set ?_ GE364.out) | exact HB.out))))
            have n8_ := Aside0.mk (Kd.R_lower (Kd.R_new' ho2 (Kd.R_lt (by (with_reducible repeat (first | apply Kd.R_alloc | apply Kd.R_drewN | apply Kd.R_drew)); exact HO336.out))) (below_size (by repeat (first | (with_reducible first | exact HB.out | apply below_alloc | apply pw_below_drewN | apply below_drew1 | refine below_set ?_ GE310.out | refine below_set ?_ GE341.out | refine below_set ?_ GE364.out) | exact HB.out))))
            have n9_ := Aside0.mk (Kd.R_lower (Kd.R_new' ho3 (Kd.R_lt (by (with_reducible repeat (first | apply Kd.R_alloc | apply Kd.R_drewN | apply Kd.R_drew)); exact HO339.out))) (below_size (by repeat (first | (with_reducible first | exact HB.out | apply below_alloc | apply pw_below_drewN | apply below_drew1 | refine below_set ?_ GE310.out | refine below_set ?_ GE341.out | refine below_set ?_ GE364.out) | exact HB.out))))
            have n10_ := Aside0.mk (blk_below (g := gb310) (o := .cells #[.string a0_0, .string a0_1, .bool a0_2] 23 (0, 0)) (by (with_reducible repeat (first | refine blk_drewN ?_ _ | refine blk_drew ?_ | refine blk_alloc ?_ _)); exact BK310.out) hb)
            have n11_ := Aside0.mk (blk_below (g := gb341) (o := .cells #[.int .i64 t322, .int .i64 t323, .string t324, .string t325, .bool t326, .bool t327, .slice Ao41 t328.length co41, .slice Ao42 t331.length co42, .slice Ao43 t334.length co43, .slice Ao44 t337.length co44] 37 (0, 0)) (by (with_reducible repeat (first | refine blk_drewN ?_ _ | refine blk_drew ?_ | refine blk_alloc ?_ _)); exact BK341.out) hb)
            have n12_ := Aside0.mk (blk_below (g := gb364) (o := .cells #[.int .i64 0, .int .i64 0, .string (⟨#[]⟩ : ByteArray), .string (⟨#[]⟩ : ByteArray), .bool false, .bool false, .slice none 0 0, .slice none 0 0, .slice none 0 0, .slice none 0 0] 37 (0, 0)) (by (with_reducible repeat (first | refine blk_drewN ?_ _ | refine blk_drew ?_ | refine blk_alloc ?_ _)); exact BK364.out) hb)
            have n13_ := Aside0.mk (below_step (by repeat (first | (with_reducible first | exact HB.out | apply below_alloc | apply pw_below_drewN | apply below_drew1 | refine below_set ?_ GE310.out | refine below_set ?_ GE341.out | refine below_set ?_ GE364.out) | exact HB.out)) hb)
            clear HO321
            clear HO330
            clear HO333
            clear HO336
            clear HO339
            clear HO344
            clear BK310
            clear BK341
            clear BK364
            clear HB
            have HO321 := n0_
            have HO330 := n1_
            have HO333 := n2_
            have HO336 := n3_
            have HO339 := n4_
            have HO344 := n5_
            have HO353 := n6_
            have HO356 := n7_
            have HO359 := n8_
            have HO362 := n9_
            have BK310 := n10_
            have BK341 := n11_
            have BK364 := n12_
            have HB := n13_
            clear n0_ n1_ n2_ n3_ n4_ n5_ n6_ n7_ n8_ n9_ n10_ n11_ n12_ n13_
            (try clear hb)
            (try clear hb2)
            (try clear hk)
            (try clear hi)
            (try clear ho0)
            (try clear ho1)
            (try clear ho2)
            (try clear ho3)
            refine hK.out _ _ ⟨(blk_cell BK341.out 0).trans rfl, (blk_cell BK341.out 1).trans rfl, (blk_cell BK341.out 2).trans rfl, (blk_cell BK341.out 3).trans rfl, (blk_cell BK341.out 4).trans rfl, (blk_cell BK341.out 5).trans rfl, (blk_cell BK341.out 6).trans rfl, (blk_cell BK341.out 7).trans rfl, (blk_cell BK341.out 8).trans rfl, (blk_cell BK341.out 9).trans rfl⟩ (fun hHeld => ?_)
            clear hK K
            refine norm_ (a' := ?_) ?_ ?_
            rotate_left
            · show Act.put _ (some 53) _ = _
              simp only [Act.put, List.setIfInBounds_toArray, List.set_cons_zero, List.set_cons_succ, i64_w, i32_w]
              rfl
            refine pure_ (i := 4) (N := some 49) (v := ?_) (a' := ?_) #[true, true, true, true, true, false, false, true, false, false] rfl rfl (any_of HT_.out (by kernel_rfl)) (fun _ _ _ h => h) (Or.inl ⟨by rfl, ?_⟩) ?_ ?_
            rotate_left
            · intro w'
              go_simp
              with_reducible rfl
            rotate_left
            · simp only [Act.put, List.setIfInBounds_toArray, List.set_cons_zero, List.set_cons_succ, i64_w, i32_w]
              rfl
            refine pure_ (i := 5) (N := some 54) (v := ?_) (a' := ?_) #[true, true, true, true, true, true, false, true, false, false] rfl rfl (any_of HT_.out (by kernel_rfl)) (fun _ _ _ h => h) (Or.inl ⟨by rfl, ?_⟩) ?_ ?_
            rotate_left
            · intro w'
              go_simp
              with_reducible rfl
            rotate_left
            · simp only [Act.put, List.setIfInBounds_toArray, List.set_cons_zero, List.set_cons_succ, i64_w, i32_w]
              rfl
            refine pure_ (i := 6) (N := some 55) (v := ?_) (a' := ?_) #[true, true, true, true, true, true, true, true, false, false] rfl rfl (any_of HT_.out (by kernel_rfl)) (fun _ _ _ h => h) (Or.inl ⟨by rfl, ?_⟩) ?_ ?_
            rotate_left
            · intro w'
              go_simp
              with_reducible rfl
            rotate_left
            · simp only [Act.put, List.setIfInBounds_toArray, List.set_cons_zero, List.set_cons_succ, i64_w, i32_w]
              rfl
            exact norm_ (by simp only [putAll, Act.put, List.setIfInBounds_toArray, List.set_cons_zero, List.set_cons_succ]) (hCont (.slice Ao49 t342.length co49, v352, v355, v358, v361, gb364) _ ⟨hHeld, (by (with_reducible repeat (first | apply Kd.R_alloc | apply Kd.R_drewN | apply Kd.R_drew)); exact Kd.R_mono HO321.out (fun _ hk => hk.2)), (by (with_reducible repeat (first | apply Kd.R_alloc | apply Kd.R_drewN | apply Kd.R_drew)); exact Kd.R_mono HO330.out (fun _ hk => ⟨hk.1.1, ⟨hk.1.2, hk.2⟩⟩)), (by (with_reducible repeat (first | apply Kd.R_alloc | apply Kd.R_drewN | apply Kd.R_drew)); exact Kd.R_mono HO333.out (fun _ hk => ⟨hk.1.1, ⟨hk.1.2, hk.2⟩⟩)), (by (with_reducible repeat (first | apply Kd.R_alloc | apply Kd.R_drewN | apply Kd.R_drew)); exact Kd.R_mono HO336.out (fun _ hk => hk.2)), (by (with_reducible repeat (first | apply Kd.R_alloc | apply Kd.R_drewN | apply Kd.R_drew)); exact Kd.R_mono HO339.out (fun _ hk => hk.2)), (by (with_reducible repeat (first | apply Kd.R_alloc | apply Kd.R_drewN | apply Kd.R_drew)); exact Kd.R_mono HO344.out (fun _ hk => hk.2)), (by (with_reducible repeat (first | apply Kd.R_alloc | apply Kd.R_drewN | apply Kd.R_drew)); exact Kd.R_mono HO353.out (fun _ hk => ⟨hk.1.2, ⟨hk.2, hk.1.1⟩⟩)), (by (with_reducible repeat (first | apply Kd.R_alloc | apply Kd.R_drewN | apply Kd.R_drew)); exact Kd.R_mono HO356.out (fun _ hk => ⟨hk.1.2, ⟨hk.2, hk.1.1⟩⟩)), (by (with_reducible repeat (first | apply Kd.R_alloc | apply Kd.R_drewN | apply Kd.R_drew)); exact Kd.R_mono HO359.out (fun _ hk => hk.2)), (by (with_reducible repeat (first | apply Kd.R_alloc | apply Kd.R_drewN | apply Kd.R_drew)); exact Kd.R_mono HO362.out (fun _ hk => hk.2)), (by (with_reducible repeat (first | refine blk_drewN ?_ _ | refine blk_drew ?_ | refine blk_alloc ?_ _)); exact BK310.out), (by (with_reducible repeat (first | refine blk_drewN ?_ _ | refine blk_drew ?_ | refine blk_alloc ?_ _)); exact BK341.out), (by (with_reducible repeat (first | refine blk_drewN ?_ _ | refine blk_drew ?_ | refine blk_alloc ?_ _)); exact BK364.out), GW364.out, GE364.out, NB310_364.out, NB364_310.out, NB341_364.out, NB364_341.out, (by repeat (first | (with_reducible first | exact HB.out | apply below_alloc | apply pw_below_drewN | apply below_drew1 | refine below_set ?_ GE310.out | refine below_set ?_ GE341.out | refine below_set ?_ GE364.out) | exact HB.out))⟩)
        rintro ⟨v343, v352, v355, v358, v361, gb364⟩ w51 ⟨hS_, h0_, h1_, h2_, h3_, h4_, h5_, h6_, h7_, h8_, h9_, h10_, h11_, h12_, h13_, h14_, h15_, h16_, h17_, h18_, h19_⟩
        have n0_ : Aside0 (Kd.R k114 114 w51 w.heap.size (fun k_ => some k_ ≠ (v343 : Value).ownBlock) (.slice Ao36 t319.length co36) t319) := ⟨h0_⟩
        have n1_ : Aside0 (Kd.R Kd.string 9 w51 w.heap.size (fun k_ => some k_ ≠ (.slice Ao42 t331.length co42 : Value).ownBlock ∧ some k_ ≠ (v352 : Value).ownBlock ∧ some k_ ≠ (v355 : Value).ownBlock) (.slice Ao41 t328.length co41) t328) := ⟨h1_⟩
        have n2_ : Aside0 (Kd.R Kd.string 9 w51 w.heap.size (fun k_ => some k_ ≠ (.slice Ao41 t328.length co41 : Value).ownBlock ∧ some k_ ≠ (v352 : Value).ownBlock ∧ some k_ ≠ (v355 : Value).ownBlock) (.slice Ao42 t331.length co42) t331) := ⟨h2_⟩
        have n3_ : Aside0 (Kd.R Kd.bool 4 w51 w.heap.size (fun k_ => some k_ ≠ (v358 : Value).ownBlock) (.slice Ao43 t334.length co43) t334) := ⟨h3_⟩
        have n4_ : Aside0 (Kd.R (Kd.int .i64) 3 w51 w.heap.size (fun k_ => some k_ ≠ (v361 : Value).ownBlock) (.slice Ao44 t337.length co44) t337) := ⟨h4_⟩
        have n5_ : Aside0 (Kd.R k114 114 w51 w.heap.size (fun k_ => some k_ ≠ (.slice Ao36 t319.length co36 : Value).ownBlock) v343 t342) := ⟨h5_⟩
        have n6_ : Aside0 (Kd.R Kd.string 9 w51 w.heap.size (fun k_ => some k_ ≠ (.slice Ao41 t328.length co41 : Value).ownBlock ∧ some k_ ≠ (.slice Ao42 t331.length co42 : Value).ownBlock ∧ some k_ ≠ (v355 : Value).ownBlock) v352 t351) := ⟨h6_⟩
        have n7_ : Aside0 (Kd.R Kd.string 9 w51 w.heap.size (fun k_ => some k_ ≠ (.slice Ao41 t328.length co41 : Value).ownBlock ∧ some k_ ≠ (.slice Ao42 t331.length co42 : Value).ownBlock ∧ some k_ ≠ (v352 : Value).ownBlock) v355 t354) := ⟨h7_⟩
        have n8_ : Aside0 (Kd.R Kd.bool 4 w51 w.heap.size (fun k_ => some k_ ≠ (.slice Ao43 t334.length co43 : Value).ownBlock) v358 t357) := ⟨h8_⟩
        have n9_ : Aside0 (Kd.R (Kd.int .i64) 3 w51 w.heap.size (fun k_ => some k_ ≠ (.slice Ao44 t337.length co44 : Value).ownBlock) v361 t360) := ⟨h9_⟩
        have n10_ : Aside0 (w51.heap[gb310]? = some (.cells #[.string a0_0, .string a0_1, .bool a0_2] 23 (0, 0))) := ⟨h10_⟩
        have n11_ : Aside0 (w51.heap[gb341]? = some (.cells #[.int .i64 t322, .int .i64 t323, .string t324, .string t325, .bool t326, .bool t327, .slice Ao41 t328.length co41, .slice Ao42 t331.length co42, .slice Ao43 t334.length co43, .slice Ao44 t337.length co44] 37 (0, 0))) := ⟨h11_⟩
        have n12_ : Aside0 (w51.heap[gb364]? = some (.cells #[.int .i64 0, .int .i64 0, .string (⟨#[]⟩ : ByteArray), .string (⟨#[]⟩ : ByteArray), .bool false, .bool false, .slice none 0 0, .slice none 0 0, .slice none 0 0, .slice none 0 0] 37 (0, 0))) := ⟨h12_⟩
        have n13_ : Aside0 (w.heap.size ≤ gb364) := ⟨h13_⟩
        have n14_ : Aside0 (w.heap.size ≤ gb364) := ⟨h14_⟩
        have n15_ : Aside0 (gb310 ≠ gb364) := ⟨h15_⟩
        have n16_ : Aside0 (gb364 ≠ gb310) := ⟨h16_⟩
        have n17_ : Aside0 (gb341 ≠ gb364) := ⟨h17_⟩
        have n18_ : Aside0 (gb364 ≠ gb341) := ⟨h18_⟩
        have n19_ : Aside0 (Below w.heap.size w w51) := ⟨h19_⟩
        clear HO321
        clear HO330
        clear HO333
        clear HO336
        clear HO339
        clear BK310
        clear BK341
        clear HB
        clear h0_ h1_ h2_ h3_ h4_ h5_ h6_ h7_ h8_ h9_ h10_ h11_ h12_ h13_ h14_ h15_ h16_ h17_ h18_ h19_
        have HO321 := n0_
        have HO330 := n1_
        have HO333 := n2_
        have HO336 := n3_
        have HO339 := n4_
        have HO344 := n5_
        have HO353 := n6_
        have HO356 := n7_
        have HO359 := n8_
        have HO362 := n9_
        have BK310 := n10_
        have BK341 := n11_
        have BK364 := n12_
        have GW364 := n13_
        have GE364 := n14_
        have NB310_364 := n15_
        have NB364_310 := n16_
        have NB341_364 := n17_
        have NB364_341 := n18_
        have HB := n19_
        clear n0_ n1_ n2_ n3_ n4_ n5_ n6_ n7_ n8_ n9_ n10_ n11_ n12_ n13_ n14_ n15_ n16_ n17_ n18_ n19_
        have hHeld : w51.cell? ⟨gb341, 0, none⟩ = some (.int .i64 t322) ∧ w51.cell? ⟨gb341, 1, none⟩ = some (.int .i64 t323) ∧ w51.cell? ⟨gb341, 2, none⟩ = some (.string t324) ∧ w51.cell? ⟨gb341, 3, none⟩ = some (.string t325) ∧ w51.cell? ⟨gb341, 4, none⟩ = some (.bool t326) ∧ w51.cell? ⟨gb341, 5, none⟩ = some (.bool t327) ∧ w51.cell? ⟨gb341, 6, none⟩ = some (.slice Ao41 t328.length co41) ∧ w51.cell? ⟨gb341, 7, none⟩ = some (.slice Ao42 t331.length co42) ∧ w51.cell? ⟨gb341, 8, none⟩ = some (.slice Ao43 t334.length co43) ∧ w51.cell? ⟨gb341, 9, none⟩ = some (.slice Ao44 t337.length co44) := hS_
        obtain ⟨Ao58, co58, eo58⟩ := Kd.R_slice HO353.out
        (first | subst eo58 | (injection eo58 with f1_ f2_ f3_; have f4_ := f1_.symm; have f5_ := f3_.symm; clear f1_ f2_ f3_; subst f4_; subst f5_))
        obtain ⟨Ao60, co60, eo60⟩ := Kd.R_slice HO356.out
        (first | subst eo60 | (injection eo60 with f1_ f2_ f3_; have f4_ := f1_.symm; have f5_ := f3_.symm; clear f1_ f2_ f3_; subst f4_; subst f5_))
        obtain ⟨Ao62, co62, eo62⟩ := Kd.R_slice HO359.out
        (first | subst eo62 | (injection eo62 with f1_ f2_ f3_; have f4_ := f1_.symm; have f5_ := f3_.symm; clear f1_ f2_ f3_; subst f4_; subst f5_))
        obtain ⟨Ao64, co64, eo64⟩ := Kd.R_slice HO362.out
        (first | subst eo64 | (injection eo64 with f1_ f2_ f3_; have f4_ := f1_.symm; have f5_ := f3_.symm; clear f1_ f2_ f3_; subst f4_; subst f5_))
        refine norm_ (a' := ?_) ?_ ?_
        rotate_left
        · simp only [putAll, Act.put, List.setIfInBounds_toArray, List.set_cons_zero, List.set_cons_succ]
          rfl
        refine one_ (i := 8) (N := none) #[true, true, true, true, true, true, true, true, true, false] rfl rfl (one_of HT_.out (by kernel_rfl)) (by decide) (fun K hK => ?_)
        have hs52 : w51.cell? ⟨gb364, 0, none⟩ = some (.int .i64 0) := (blk_cell BK364.out 0).trans rfl
        have hfs52 := blk_frozen BK364.out 0
        have hns52_0 := NB310_364.out
        have hns52_1 := NB341_364.out
        have hms52_0 := NB364_310.out
        have hms52_1 := NB364_341.out
        have hs53 : w51.cell? ⟨gb364, 1, none⟩ = some (.int .i64 0) := (blk_cell BK364.out 1).trans rfl
        have hfs53 := blk_frozen BK364.out 1
        have hns53_0 := NB310_364.out
        have hns53_1 := NB341_364.out
        have hms53_0 := NB364_310.out
        have hms53_1 := NB364_341.out
        have hs54 : w51.cell? ⟨gb364, 2, none⟩ = some (.string (⟨#[]⟩ : ByteArray)) := (blk_cell BK364.out 2).trans rfl
        have hfs54 := blk_frozen BK364.out 2
        have hns54_0 := NB310_364.out
        have hns54_1 := NB341_364.out
        have hms54_0 := NB364_310.out
        have hms54_1 := NB364_341.out
        have hs55 : w51.cell? ⟨gb364, 3, none⟩ = some (.string (⟨#[]⟩ : ByteArray)) := (blk_cell BK364.out 3).trans rfl
        have hfs55 := blk_frozen BK364.out 3
        have hns55_0 := NB310_364.out
        have hns55_1 := NB341_364.out
        have hms55_0 := NB364_310.out
        have hms55_1 := NB364_341.out
        have hs56 : w51.cell? ⟨gb364, 4, none⟩ = some (.bool false) := (blk_cell BK364.out 4).trans rfl
        have hfs56 := blk_frozen BK364.out 4
        have hns56_0 := NB310_364.out
        have hns56_1 := NB341_364.out
        have hms56_0 := NB364_310.out
        have hms56_1 := NB364_341.out
        have hs57 : w51.cell? ⟨gb364, 5, none⟩ = some (.bool false) := (blk_cell BK364.out 5).trans rfl
        have hfs57 := blk_frozen BK364.out 5
        have hns57_0 := NB310_364.out
        have hns57_1 := NB341_364.out
        have hms57_0 := NB364_310.out
        have hms57_1 := NB364_341.out
        have hs59 : w51.cell? ⟨gb364, 6, none⟩ = some (.slice none 0 0) := (blk_cell BK364.out 6).trans rfl
        have hfs59 := blk_frozen BK364.out 6
        have hns59_0 := NB310_364.out
        have hns59_1 := NB341_364.out
        have hms59_0 := NB364_310.out
        have hms59_1 := NB364_341.out
        have hs61 : w51.cell? ⟨gb364, 7, none⟩ = some (.slice none 0 0) := (blk_cell BK364.out 7).trans rfl
        have hfs61 := blk_frozen BK364.out 7
        have hns61_0 := NB310_364.out
        have hns61_1 := NB341_364.out
        have hms61_0 := NB364_310.out
        have hms61_1 := NB364_341.out
        have hs63 : w51.cell? ⟨gb364, 8, none⟩ = some (.slice none 0 0) := (blk_cell BK364.out 8).trans rfl
        have hfs63 := blk_frozen BK364.out 8
        have hns63_0 := NB310_364.out
        have hns63_1 := NB341_364.out
        have hms63_0 := NB364_310.out
        have hms63_1 := NB364_341.out
        have hs65 : w51.cell? ⟨gb364, 9, none⟩ = some (.slice none 0 0) := (blk_cell BK364.out 9).trans rfl
        have hfs65 := blk_frozen BK364.out 9
        have hns65_0 := NB310_364.out
        have hns65_1 := NB341_364.out
        have hms65_0 := NB364_310.out
        have hms65_1 := NB364_341.out
        refine skip_ (w1 := ?_) (by rfl) rfl ?_ ?_
        rotate_left
        · go_simp
          rfl
        refine hK.out _ _ ⟨((cell_far (p := ⟨gb364, _, none⟩) NB341_364.out _).trans (((cell_far (p := ⟨gb364, _, none⟩) NB341_364.out _).trans (((cell_far (p := ⟨gb364, _, none⟩) NB341_364.out _).trans (((cell_far (p := ⟨gb364, _, none⟩) NB341_364.out _).trans (((cell_far (p := ⟨gb364, _, none⟩) NB341_364.out _).trans (((cell_far (p := ⟨gb364, _, none⟩) NB341_364.out _).trans (((cell_far (p := ⟨gb364, _, none⟩) NB341_364.out _).trans (((cell_far (p := ⟨gb364, _, none⟩) NB341_364.out _).trans (((cell_far (p := ⟨gb364, _, none⟩) NB341_364.out _).trans (((cell_far (p := ⟨gb364, _, none⟩) NB341_364.out _).trans (hHeld.1)))))))))))))))))))), ((cell_far (p := ⟨gb364, _, none⟩) NB341_364.out _).trans (((cell_far (p := ⟨gb364, _, none⟩) NB341_364.out _).trans (((cell_far (p := ⟨gb364, _, none⟩) NB341_364.out _).trans (((cell_far (p := ⟨gb364, _, none⟩) NB341_364.out _).trans (((cell_far (p := ⟨gb364, _, none⟩) NB341_364.out _).trans (((cell_far (p := ⟨gb364, _, none⟩) NB341_364.out _).trans (((cell_far (p := ⟨gb364, _, none⟩) NB341_364.out _).trans (((cell_far (p := ⟨gb364, _, none⟩) NB341_364.out _).trans (((cell_far (p := ⟨gb364, _, none⟩) NB341_364.out _).trans (((cell_far (p := ⟨gb364, _, none⟩) NB341_364.out _).trans (hHeld.2.1)))))))))))))))))))), ((cell_far (p := ⟨gb364, _, none⟩) NB341_364.out _).trans (((cell_far (p := ⟨gb364, _, none⟩) NB341_364.out _).trans (((cell_far (p := ⟨gb364, _, none⟩) NB341_364.out _).trans (((cell_far (p := ⟨gb364, _, none⟩) NB341_364.out _).trans (((cell_far (p := ⟨gb364, _, none⟩) NB341_364.out _).trans (((cell_far (p := ⟨gb364, _, none⟩) NB341_364.out _).trans (((cell_far (p := ⟨gb364, _, none⟩) NB341_364.out _).trans (((cell_far (p := ⟨gb364, _, none⟩) NB341_364.out _).trans (((cell_far (p := ⟨gb364, _, none⟩) NB341_364.out _).trans (((cell_far (p := ⟨gb364, _, none⟩) NB341_364.out _).trans (hHeld.2.2.1)))))))))))))))))))), ((cell_far (p := ⟨gb364, _, none⟩) NB341_364.out _).trans (((cell_far (p := ⟨gb364, _, none⟩) NB341_364.out _).trans (((cell_far (p := ⟨gb364, _, none⟩) NB341_364.out _).trans (((cell_far (p := ⟨gb364, _, none⟩) NB341_364.out _).trans (((cell_far (p := ⟨gb364, _, none⟩) NB341_364.out _).trans (((cell_far (p := ⟨gb364, _, none⟩) NB341_364.out _).trans (((cell_far (p := ⟨gb364, _, none⟩) NB341_364.out _).trans (((cell_far (p := ⟨gb364, _, none⟩) NB341_364.out _).trans (((cell_far (p := ⟨gb364, _, none⟩) NB341_364.out _).trans (((cell_far (p := ⟨gb364, _, none⟩) NB341_364.out _).trans (hHeld.2.2.2.1)))))))))))))))))))), ((cell_far (p := ⟨gb364, _, none⟩) NB341_364.out _).trans (((cell_far (p := ⟨gb364, _, none⟩) NB341_364.out _).trans (((cell_far (p := ⟨gb364, _, none⟩) NB341_364.out _).trans (((cell_far (p := ⟨gb364, _, none⟩) NB341_364.out _).trans (((cell_far (p := ⟨gb364, _, none⟩) NB341_364.out _).trans (((cell_far (p := ⟨gb364, _, none⟩) NB341_364.out _).trans (((cell_far (p := ⟨gb364, _, none⟩) NB341_364.out _).trans (((cell_far (p := ⟨gb364, _, none⟩) NB341_364.out _).trans (((cell_far (p := ⟨gb364, _, none⟩) NB341_364.out _).trans (((cell_far (p := ⟨gb364, _, none⟩) NB341_364.out _).trans (hHeld.2.2.2.2.1)))))))))))))))))))), ((cell_far (p := ⟨gb364, _, none⟩) NB341_364.out _).trans (((cell_far (p := ⟨gb364, _, none⟩) NB341_364.out _).trans (((cell_far (p := ⟨gb364, _, none⟩) NB341_364.out _).trans (((cell_far (p := ⟨gb364, _, none⟩) NB341_364.out _).trans (((cell_far (p := ⟨gb364, _, none⟩) NB341_364.out _).trans (((cell_far (p := ⟨gb364, _, none⟩) NB341_364.out _).trans (((cell_far (p := ⟨gb364, _, none⟩) NB341_364.out _).trans (((cell_far (p := ⟨gb364, _, none⟩) NB341_364.out _).trans (((cell_far (p := ⟨gb364, _, none⟩) NB341_364.out _).trans (((cell_far (p := ⟨gb364, _, none⟩) NB341_364.out _).trans (hHeld.2.2.2.2.2.1)))))))))))))))))))), ((cell_far (p := ⟨gb364, _, none⟩) NB341_364.out _).trans (((cell_far (p := ⟨gb364, _, none⟩) NB341_364.out _).trans (((cell_far (p := ⟨gb364, _, none⟩) NB341_364.out _).trans (((cell_far (p := ⟨gb364, _, none⟩) NB341_364.out _).trans (((cell_far (p := ⟨gb364, _, none⟩) NB341_364.out _).trans (((cell_far (p := ⟨gb364, _, none⟩) NB341_364.out _).trans (((cell_far (p := ⟨gb364, _, none⟩) NB341_364.out _).trans (((cell_far (p := ⟨gb364, _, none⟩) NB341_364.out _).trans (((cell_far (p := ⟨gb364, _, none⟩) NB341_364.out _).trans (((cell_far (p := ⟨gb364, _, none⟩) NB341_364.out _).trans (hHeld.2.2.2.2.2.2.1)))))))))))))))))))), ((cell_far (p := ⟨gb364, _, none⟩) NB341_364.out _).trans (((cell_far (p := ⟨gb364, _, none⟩) NB341_364.out _).trans (((cell_far (p := ⟨gb364, _, none⟩) NB341_364.out _).trans (((cell_far (p := ⟨gb364, _, none⟩) NB341_364.out _).trans (((cell_far (p := ⟨gb364, _, none⟩) NB341_364.out _).trans (((cell_far (p := ⟨gb364, _, none⟩) NB341_364.out _).trans (((cell_far (p := ⟨gb364, _, none⟩) NB341_364.out _).trans (((cell_far (p := ⟨gb364, _, none⟩) NB341_364.out _).trans (((cell_far (p := ⟨gb364, _, none⟩) NB341_364.out _).trans (((cell_far (p := ⟨gb364, _, none⟩) NB341_364.out _).trans (hHeld.2.2.2.2.2.2.2.1)))))))))))))))))))), ((cell_far (p := ⟨gb364, _, none⟩) NB341_364.out _).trans (((cell_far (p := ⟨gb364, _, none⟩) NB341_364.out _).trans (((cell_far (p := ⟨gb364, _, none⟩) NB341_364.out _).trans (((cell_far (p := ⟨gb364, _, none⟩) NB341_364.out _).trans (((cell_far (p := ⟨gb364, _, none⟩) NB341_364.out _).trans (((cell_far (p := ⟨gb364, _, none⟩) NB341_364.out _).trans (((cell_far (p := ⟨gb364, _, none⟩) NB341_364.out _).trans (((cell_far (p := ⟨gb364, _, none⟩) NB341_364.out _).trans (((cell_far (p := ⟨gb364, _, none⟩) NB341_364.out _).trans (((cell_far (p := ⟨gb364, _, none⟩) NB341_364.out _).trans (hHeld.2.2.2.2.2.2.2.2.1)))))))))))))))))))), ((cell_far (p := ⟨gb364, _, none⟩) NB341_364.out _).trans (((cell_far (p := ⟨gb364, _, none⟩) NB341_364.out _).trans (((cell_far (p := ⟨gb364, _, none⟩) NB341_364.out _).trans (((cell_far (p := ⟨gb364, _, none⟩) NB341_364.out _).trans (((cell_far (p := ⟨gb364, _, none⟩) NB341_364.out _).trans (((cell_far (p := ⟨gb364, _, none⟩) NB341_364.out _).trans (((cell_far (p := ⟨gb364, _, none⟩) NB341_364.out _).trans (((cell_far (p := ⟨gb364, _, none⟩) NB341_364.out _).trans (((cell_far (p := ⟨gb364, _, none⟩) NB341_364.out _).trans (((cell_far (p := ⟨gb364, _, none⟩) NB341_364.out _).trans (hHeld.2.2.2.2.2.2.2.2.2))))))))))))))))))))⟩ (fun hHeld => ?_)
        clear hK K
        refine pure_ (i := 9) (N := some 12) (v := ?_) (a' := ?_) #[true, true, true, true, true, true, true, true, true, true] rfl rfl (any_of HT_.out (by kernel_rfl)) (fun _ _ _ h => h) (Or.inl ⟨by rfl, ?_⟩) ?_ ?_
        rotate_left
        · intro w'
          go_simp
          with_reducible rfl
        rotate_left
        · simp only [Act.put, List.setIfInBounds_toArray, List.set_cons_zero, List.set_cons_succ, i64_w, i32_w]
          rfl
        refine done_ (done_of HT_.out (by kernel_rfl)) ?_
        go_upto_region 5 with (fail)
        go_cut [61] (fun v61 wc => ∃ (kq : Nat) (x61_31 : Bool), v61 = .bool x61_31 ∧ Aside0 (rundlelaw08_RevChanges.j1 kq l2 a3 t340 t363 x61_31 t322 t323 t324 t325 t326 t327 t328 t331 t334 t337 t345 t346 t347 t348 t349 t350 t351 t354 t357 t360 = some r) ∧ Aside0 (kq ≤ kj4) ∧ Aside0 (Kd.R Kd.string 9 wc w.heap.size (fun k_ => some k_ ≠ ((.slice Ao42 t331.length co42) : Value).ownBlock ∧ some k_ ≠ ((.slice Ao58 t351.length co58) : Value).ownBlock ∧ some k_ ≠ ((.slice Ao60 t354.length co60) : Value).ownBlock) (.slice Ao41 t328.length co41) t328) ∧ Aside0 (Kd.R Kd.string 9 wc w.heap.size (fun k_ => some k_ ≠ ((.slice Ao41 t328.length co41) : Value).ownBlock ∧ some k_ ≠ ((.slice Ao58 t351.length co58) : Value).ownBlock ∧ some k_ ≠ ((.slice Ao60 t354.length co60) : Value).ownBlock) (.slice Ao42 t331.length co42) t331) ∧ Aside0 (Kd.R Kd.bool 4 wc w.heap.size (fun k_ => some k_ ≠ ((.slice Ao62 t357.length co62) : Value).ownBlock) (.slice Ao43 t334.length co43) t334) ∧ Aside0 (Kd.R (Kd.int .i64) 3 wc w.heap.size (fun k_ => some k_ ≠ ((.slice Ao64 t360.length co64) : Value).ownBlock) (.slice Ao44 t337.length co44) t337) ∧ Aside0 (Kd.R Kd.string 9 wc w.heap.size (fun k_ => some k_ ≠ ((.slice Ao41 t328.length co41) : Value).ownBlock ∧ some k_ ≠ ((.slice Ao42 t331.length co42) : Value).ownBlock ∧ some k_ ≠ ((.slice Ao60 t354.length co60) : Value).ownBlock) (.slice Ao58 t351.length co58) t351) ∧ Aside0 (Kd.R Kd.string 9 wc w.heap.size (fun k_ => some k_ ≠ ((.slice Ao41 t328.length co41) : Value).ownBlock ∧ some k_ ≠ ((.slice Ao42 t331.length co42) : Value).ownBlock ∧ some k_ ≠ ((.slice Ao58 t351.length co58) : Value).ownBlock) (.slice Ao60 t354.length co60) t354) ∧ Aside0 (Kd.R Kd.bool 4 wc w.heap.size (fun k_ => some k_ ≠ ((.slice Ao43 t334.length co43) : Value).ownBlock) (.slice Ao62 t357.length co62) t357) ∧ Aside0 (Kd.R (Kd.int .i64) 3 wc w.heap.size (fun k_ => some k_ ≠ ((.slice Ao44 t337.length co44) : Value).ownBlock) (.slice Ao64 t360.length co64) t360) ∧ Aside0 (wc.heap[gb310]? = some (.cells #[.string a0_0, .string a0_1, .bool a0_2] 23 (0, 0))) ∧ Aside0 (wc.heap[gb341]? = some (.cells #[.int .i64 t322, .int .i64 t323, .string t324, .string t325, .bool t326, .bool t327, (.slice Ao41 t328.length co41), (.slice Ao42 t331.length co42), (.slice Ao43 t334.length co43), (.slice Ao44 t337.length co44)] 37 (0, 0))) ∧ Aside0 (wc.heap[gb364]? = some (.cells #[.int .i64 t345, .int .i64 t346, .string t347, .string t348, .bool t349, .bool t350, (.slice Ao58 t351.length co58), (.slice Ao60 t354.length co60), (.slice Ao62 t357.length co62), (.slice Ao64 t360.length co64)] 37 (0, 0))) ∧ Aside0 (Below w.heap.size w wc))
        case first =>
          have H := HC32.out
          clear HC32
          by_cases c66 : t340 = 0
          · rw [if_pos c66] at H
            have c66b0 : (t340 == 0) = true := beq_iff_eq.mpr c66
            have c66b1 : (t340 != 0) = false := bne_eq_false_iff_eq.mpr c66
            clear c66
            (first | rw [c66b0] | (simp only [i64_w, i32_w]; rw [c66b0]) | skip)
            have H' := Aside0.mk H
            clear H
            go_wp2
            go_meet
            case rel => exact ⟨_, ((t363 != 0)), (by first | rfl | (simp; done) | (simp [*]; done)), H', ⟨by have := HJ4.out; first | omega | exact Nat.le_refl _⟩, ⟨by (with_reducible repeat (first | apply Kd.R_alloc | apply Kd.R_drewN | apply Kd.R_drew)); exact Kd.R_mono (Kd.R_far (p := ⟨gb364, 9, none⟩) (Kd.R_far (p := ⟨gb364, 8, none⟩) (Kd.R_far (p := ⟨gb364, 7, none⟩) (Kd.R_far (p := ⟨gb364, 6, none⟩) (Kd.R_far (p := ⟨gb364, 5, none⟩) (Kd.R_far (p := ⟨gb364, 4, none⟩) (Kd.R_far (p := ⟨gb364, 3, none⟩) (Kd.R_far (p := ⟨gb364, 2, none⟩) (Kd.R_far (p := ⟨gb364, 1, none⟩) (Kd.R_far (p := ⟨gb364, 0, none⟩) (Kd.R_types HO330.out BK364.out (by decide)) (fun _ hk => hk.2) (.int .i64 t345)) (fun _ hk => hk.2) (.int .i64 t346)) (fun _ hk => hk.2) (.string t347)) (fun _ hk => hk.2) (.string t348)) (fun _ hk => hk.2) (.bool t349)) (fun _ hk => hk.2) (.bool t350)) (fun _ hk => hk.2) (.slice Ao58 t351.length co58)) (fun _ hk => hk.2) (.slice Ao60 t354.length co60)) (fun _ hk => hk.2) (.slice Ao62 t357.length co62)) (fun _ hk => hk.2) (.slice Ao64 t360.length co64)) (fun _ hk => ⟨hk.1.1, ⟨hk.1.2.1, hk.1.2.2⟩⟩)⟩, ⟨by (with_reducible repeat (first | apply Kd.R_alloc | apply Kd.R_drewN | apply Kd.R_drew)); exact Kd.R_mono (Kd.R_far (p := ⟨gb364, 9, none⟩) (Kd.R_far (p := ⟨gb364, 8, none⟩) (Kd.R_far (p := ⟨gb364, 7, none⟩) (Kd.R_far (p := ⟨gb364, 6, none⟩) (Kd.R_far (p := ⟨gb364, 5, none⟩) (Kd.R_far (p := ⟨gb364, 4, none⟩) (Kd.R_far (p := ⟨gb364, 3, none⟩) (Kd.R_far (p := ⟨gb364, 2, none⟩) (Kd.R_far (p := ⟨gb364, 1, none⟩) (Kd.R_far (p := ⟨gb364, 0, none⟩) (Kd.R_types HO333.out BK364.out (by decide)) (fun _ hk => hk.2) (.int .i64 t345)) (fun _ hk => hk.2) (.int .i64 t346)) (fun _ hk => hk.2) (.string t347)) (fun _ hk => hk.2) (.string t348)) (fun _ hk => hk.2) (.bool t349)) (fun _ hk => hk.2) (.bool t350)) (fun _ hk => hk.2) (.slice Ao58 t351.length co58)) (fun _ hk => hk.2) (.slice Ao60 t354.length co60)) (fun _ hk => hk.2) (.slice Ao62 t357.length co62)) (fun _ hk => hk.2) (.slice Ao64 t360.length co64)) (fun _ hk => ⟨hk.1.1, ⟨hk.1.2.1, hk.1.2.2⟩⟩)⟩, ⟨by (with_reducible repeat (first | apply Kd.R_alloc | apply Kd.R_drewN | apply Kd.R_drew)); exact Kd.R_mono (Kd.R_far (p := ⟨gb364, 9, none⟩) (Kd.R_far (p := ⟨gb364, 8, none⟩) (Kd.R_far (p := ⟨gb364, 7, none⟩) (Kd.R_far (p := ⟨gb364, 6, none⟩) (Kd.R_far (p := ⟨gb364, 5, none⟩) (Kd.R_far (p := ⟨gb364, 4, none⟩) (Kd.R_far (p := ⟨gb364, 3, none⟩) (Kd.R_far (p := ⟨gb364, 2, none⟩) (Kd.R_far (p := ⟨gb364, 1, none⟩) (Kd.R_far (p := ⟨gb364, 0, none⟩) (Kd.R_types HO336.out BK364.out (by decide)) (fun _ hk => hk.2) (.int .i64 t345)) (fun _ hk => hk.2) (.int .i64 t346)) (fun _ hk => hk.2) (.string t347)) (fun _ hk => hk.2) (.string t348)) (fun _ hk => hk.2) (.bool t349)) (fun _ hk => hk.2) (.bool t350)) (fun _ hk => hk.2) (.slice Ao58 t351.length co58)) (fun _ hk => hk.2) (.slice Ao60 t354.length co60)) (fun _ hk => hk.2) (.slice Ao62 t357.length co62)) (fun _ hk => hk.2) (.slice Ao64 t360.length co64)) (fun _ hk => hk.1)⟩, ⟨by (with_reducible repeat (first | apply Kd.R_alloc | apply Kd.R_drewN | apply Kd.R_drew)); exact Kd.R_mono (Kd.R_far (p := ⟨gb364, 9, none⟩) (Kd.R_far (p := ⟨gb364, 8, none⟩) (Kd.R_far (p := ⟨gb364, 7, none⟩) (Kd.R_far (p := ⟨gb364, 6, none⟩) (Kd.R_far (p := ⟨gb364, 5, none⟩) (Kd.R_far (p := ⟨gb364, 4, none⟩) (Kd.R_far (p := ⟨gb364, 3, none⟩) (Kd.R_far (p := ⟨gb364, 2, none⟩) (Kd.R_far (p := ⟨gb364, 1, none⟩) (Kd.R_far (p := ⟨gb364, 0, none⟩) (Kd.R_types HO339.out BK364.out (by decide)) (fun _ hk => hk.2) (.int .i64 t345)) (fun _ hk => hk.2) (.int .i64 t346)) (fun _ hk => hk.2) (.string t347)) (fun _ hk => hk.2) (.string t348)) (fun _ hk => hk.2) (.bool t349)) (fun _ hk => hk.2) (.bool t350)) (fun _ hk => hk.2) (.slice Ao58 t351.length co58)) (fun _ hk => hk.2) (.slice Ao60 t354.length co60)) (fun _ hk => hk.2) (.slice Ao62 t357.length co62)) (fun _ hk => hk.2) (.slice Ao64 t360.length co64)) (fun _ hk => hk.1)⟩, ⟨by (with_reducible repeat (first | apply Kd.R_alloc | apply Kd.R_drewN | apply Kd.R_drew)); exact Kd.R_mono (Kd.R_far (p := ⟨gb364, 9, none⟩) (Kd.R_far (p := ⟨gb364, 8, none⟩) (Kd.R_far (p := ⟨gb364, 7, none⟩) (Kd.R_far (p := ⟨gb364, 6, none⟩) (Kd.R_far (p := ⟨gb364, 5, none⟩) (Kd.R_far (p := ⟨gb364, 4, none⟩) (Kd.R_far (p := ⟨gb364, 3, none⟩) (Kd.R_far (p := ⟨gb364, 2, none⟩) (Kd.R_far (p := ⟨gb364, 1, none⟩) (Kd.R_far (p := ⟨gb364, 0, none⟩) (Kd.R_types HO353.out BK364.out (by decide)) (fun _ hk => hk.2) (.int .i64 t345)) (fun _ hk => hk.2) (.int .i64 t346)) (fun _ hk => hk.2) (.string t347)) (fun _ hk => hk.2) (.string t348)) (fun _ hk => hk.2) (.bool t349)) (fun _ hk => hk.2) (.bool t350)) (fun _ hk => hk.2) (.slice Ao58 t351.length co58)) (fun _ hk => hk.2) (.slice Ao60 t354.length co60)) (fun _ hk => hk.2) (.slice Ao62 t357.length co62)) (fun _ hk => hk.2) (.slice Ao64 t360.length co64)) (fun _ hk => ⟨hk.1.1, ⟨hk.1.2.1, hk.1.2.2⟩⟩)⟩, ⟨by (with_reducible repeat (first | apply Kd.R_alloc | apply Kd.R_drewN | apply Kd.R_drew)); exact Kd.R_mono (Kd.R_far (p := ⟨gb364, 9, none⟩) (Kd.R_far (p := ⟨gb364, 8, none⟩) (Kd.R_far (p := ⟨gb364, 7, none⟩) (Kd.R_far (p := ⟨gb364, 6, none⟩) (Kd.R_far (p := ⟨gb364, 5, none⟩) (Kd.R_far (p := ⟨gb364, 4, none⟩) (Kd.R_far (p := ⟨gb364, 3, none⟩) (Kd.R_far (p := ⟨gb364, 2, none⟩) (Kd.R_far (p := ⟨gb364, 1, none⟩) (Kd.R_far (p := ⟨gb364, 0, none⟩) (Kd.R_types HO356.out BK364.out (by decide)) (fun _ hk => hk.2) (.int .i64 t345)) (fun _ hk => hk.2) (.int .i64 t346)) (fun _ hk => hk.2) (.string t347)) (fun _ hk => hk.2) (.string t348)) (fun _ hk => hk.2) (.bool t349)) (fun _ hk => hk.2) (.bool t350)) (fun _ hk => hk.2) (.slice Ao58 t351.length co58)) (fun _ hk => hk.2) (.slice Ao60 t354.length co60)) (fun _ hk => hk.2) (.slice Ao62 t357.length co62)) (fun _ hk => hk.2) (.slice Ao64 t360.length co64)) (fun _ hk => ⟨hk.1.1, ⟨hk.1.2.1, hk.1.2.2⟩⟩)⟩, ⟨by (with_reducible repeat (first | apply Kd.R_alloc | apply Kd.R_drewN | apply Kd.R_drew)); exact Kd.R_mono (Kd.R_far (p := ⟨gb364, 9, none⟩) (Kd.R_far (p := ⟨gb364, 8, none⟩) (Kd.R_far (p := ⟨gb364, 7, none⟩) (Kd.R_far (p := ⟨gb364, 6, none⟩) (Kd.R_far (p := ⟨gb364, 5, none⟩) (Kd.R_far (p := ⟨gb364, 4, none⟩) (Kd.R_far (p := ⟨gb364, 3, none⟩) (Kd.R_far (p := ⟨gb364, 2, none⟩) (Kd.R_far (p := ⟨gb364, 1, none⟩) (Kd.R_far (p := ⟨gb364, 0, none⟩) (Kd.R_types HO359.out BK364.out (by decide)) (fun _ hk => hk.2) (.int .i64 t345)) (fun _ hk => hk.2) (.int .i64 t346)) (fun _ hk => hk.2) (.string t347)) (fun _ hk => hk.2) (.string t348)) (fun _ hk => hk.2) (.bool t349)) (fun _ hk => hk.2) (.bool t350)) (fun _ hk => hk.2) (.slice Ao58 t351.length co58)) (fun _ hk => hk.2) (.slice Ao60 t354.length co60)) (fun _ hk => hk.2) (.slice Ao62 t357.length co62)) (fun _ hk => hk.2) (.slice Ao64 t360.length co64)) (fun _ hk => hk.1)⟩, ⟨by (with_reducible repeat (first | apply Kd.R_alloc | apply Kd.R_drewN | apply Kd.R_drew)); exact Kd.R_mono (Kd.R_far (p := ⟨gb364, 9, none⟩) (Kd.R_far (p := ⟨gb364, 8, none⟩) (Kd.R_far (p := ⟨gb364, 7, none⟩) (Kd.R_far (p := ⟨gb364, 6, none⟩) (Kd.R_far (p := ⟨gb364, 5, none⟩) (Kd.R_far (p := ⟨gb364, 4, none⟩) (Kd.R_far (p := ⟨gb364, 3, none⟩) (Kd.R_far (p := ⟨gb364, 2, none⟩) (Kd.R_far (p := ⟨gb364, 1, none⟩) (Kd.R_far (p := ⟨gb364, 0, none⟩) (Kd.R_types HO362.out BK364.out (by decide)) (fun _ hk => hk.2) (.int .i64 t345)) (fun _ hk => hk.2) (.int .i64 t346)) (fun _ hk => hk.2) (.string t347)) (fun _ hk => hk.2) (.string t348)) (fun _ hk => hk.2) (.bool t349)) (fun _ hk => hk.2) (.bool t350)) (fun _ hk => hk.2) (.slice Ao58 t351.length co58)) (fun _ hk => hk.2) (.slice Ao60 t354.length co60)) (fun _ hk => hk.2) (.slice Ao62 t357.length co62)) (fun _ hk => hk.2) (.slice Ao64 t360.length co64)) (fun _ hk => hk.1)⟩, ⟨by (with_reducible repeat (first | refine blk_drewN ?_ _ | refine blk_drew ?_ | refine blk_alloc ?_ _)); refine blk_far ?_ NB310_364.out _; (with_reducible repeat (first | refine blk_drewN ?_ _ | refine blk_drew ?_ | refine blk_alloc ?_ _)); refine blk_far ?_ NB310_364.out _; (with_reducible repeat (first | refine blk_drewN ?_ _ | refine blk_drew ?_ | refine blk_alloc ?_ _)); refine blk_far ?_ NB310_364.out _; (with_reducible repeat (first | refine blk_drewN ?_ _ | refine blk_drew ?_ | refine blk_alloc ?_ _)); refine blk_far ?_ NB310_364.out _; (with_reducible repeat (first | refine blk_drewN ?_ _ | refine blk_drew ?_ | refine blk_alloc ?_ _)); refine blk_far ?_ NB310_364.out _; (with_reducible repeat (first | refine blk_drewN ?_ _ | refine blk_drew ?_ | refine blk_alloc ?_ _)); refine blk_far ?_ NB310_364.out _; (with_reducible repeat (first | refine blk_drewN ?_ _ | refine blk_drew ?_ | refine blk_alloc ?_ _)); refine blk_far ?_ NB310_364.out _; (with_reducible repeat (first | refine blk_drewN ?_ _ | refine blk_drew ?_ | refine blk_alloc ?_ _)); refine blk_far ?_ NB310_364.out _; (with_reducible repeat (first | refine blk_drewN ?_ _ | refine blk_drew ?_ | refine blk_alloc ?_ _)); refine blk_far ?_ NB310_364.out _; (with_reducible repeat (first | refine blk_drewN ?_ _ | refine blk_drew ?_ | refine blk_alloc ?_ _)); refine blk_far ?_ NB310_364.out _; (with_reducible repeat (first | refine blk_drewN ?_ _ | refine blk_drew ?_ | refine blk_alloc ?_ _)); exact BK310.out⟩, ⟨by (with_reducible repeat (first | refine blk_drewN ?_ _ | refine blk_drew ?_ | refine blk_alloc ?_ _)); refine blk_far ?_ NB341_364.out _; (with_reducible repeat (first | refine blk_drewN ?_ _ | refine blk_drew ?_ | refine blk_alloc ?_ _)); refine blk_far ?_ NB341_364.out _; (with_reducible repeat (first | refine blk_drewN ?_ _ | refine blk_drew ?_ | refine blk_alloc ?_ _)); refine blk_far ?_ NB341_364.out _; (with_reducible repeat (first | refine blk_drewN ?_ _ | refine blk_drew ?_ | refine blk_alloc ?_ _)); refine blk_far ?_ NB341_364.out _; (with_reducible repeat (first | refine blk_drewN ?_ _ | refine blk_drew ?_ | refine blk_alloc ?_ _)); refine blk_far ?_ NB341_364.out _; (with_reducible repeat (first | refine blk_drewN ?_ _ | refine blk_drew ?_ | refine blk_alloc ?_ _)); refine blk_far ?_ NB341_364.out _; (with_reducible repeat (first | refine blk_drewN ?_ _ | refine blk_drew ?_ | refine blk_alloc ?_ _)); refine blk_far ?_ NB341_364.out _; (with_reducible repeat (first | refine blk_drewN ?_ _ | refine blk_drew ?_ | refine blk_alloc ?_ _)); refine blk_far ?_ NB341_364.out _; (with_reducible repeat (first | refine blk_drewN ?_ _ | refine blk_drew ?_ | refine blk_alloc ?_ _)); refine blk_far ?_ NB341_364.out _; (with_reducible repeat (first | refine blk_drewN ?_ _ | refine blk_drew ?_ | refine blk_alloc ?_ _)); refine blk_far ?_ NB341_364.out _; (with_reducible repeat (first | refine blk_drewN ?_ _ | refine blk_drew ?_ | refine blk_alloc ?_ _)); exact BK341.out⟩, ⟨by (with_reducible repeat (first | refine blk_drewN ?_ _ | refine blk_drew ?_ | refine blk_alloc ?_ _)); refine blk_put (cs := #[.int .i64 t345, .int .i64 t346, .string t347, .string t348, .bool t349, .bool t350, .slice Ao58 t351.length co58, .slice Ao60 t354.length co60, .slice Ao62 t357.length co62, .slice none 0 0]) ?_ 9 _ rfl; (with_reducible repeat (first | refine blk_drewN ?_ _ | refine blk_drew ?_ | refine blk_alloc ?_ _)); refine blk_put (cs := #[.int .i64 t345, .int .i64 t346, .string t347, .string t348, .bool t349, .bool t350, .slice Ao58 t351.length co58, .slice Ao60 t354.length co60, .slice none 0 0, .slice none 0 0]) ?_ 8 _ rfl; (with_reducible repeat (first | refine blk_drewN ?_ _ | refine blk_drew ?_ | refine blk_alloc ?_ _)); refine blk_put (cs := #[.int .i64 t345, .int .i64 t346, .string t347, .string t348, .bool t349, .bool t350, .slice Ao58 t351.length co58, .slice none 0 0, .slice none 0 0, .slice none 0 0]) ?_ 7 _ rfl; (with_reducible repeat (first | refine blk_drewN ?_ _ | refine blk_drew ?_ | refine blk_alloc ?_ _)); refine blk_put (cs := #[.int .i64 t345, .int .i64 t346, .string t347, .string t348, .bool t349, .bool t350, .slice none 0 0, .slice none 0 0, .slice none 0 0, .slice none 0 0]) ?_ 6 _ rfl; (with_reducible repeat (first | refine blk_drewN ?_ _ | refine blk_drew ?_ | refine blk_alloc ?_ _)); refine blk_put (cs := #[.int .i64 t345, .int .i64 t346, .string t347, .string t348, .bool t349, .bool false, .slice none 0 0, .slice none 0 0, .slice none 0 0, .slice none 0 0]) ?_ 5 _ rfl; (with_reducible repeat (first | refine blk_drewN ?_ _ | refine blk_drew ?_ | refine blk_alloc ?_ _)); refine blk_put (cs := #[.int .i64 t345, .int .i64 t346, .string t347, .string t348, .bool false, .bool false, .slice none 0 0, .slice none 0 0, .slice none 0 0, .slice none 0 0]) ?_ 4 _ rfl; (with_reducible repeat (first | refine blk_drewN ?_ _ | refine blk_drew ?_ | refine blk_alloc ?_ _)); refine blk_put (cs := #[.int .i64 t345, .int .i64 t346, .string t347, .string (⟨#[]⟩ : ByteArray), .bool false, .bool false, .slice none 0 0, .slice none 0 0, .slice none 0 0, .slice none 0 0]) ?_ 3 _ rfl; (with_reducible repeat (first | refine blk_drewN ?_ _ | refine blk_drew ?_ | refine blk_alloc ?_ _)); refine blk_put (cs := #[.int .i64 t345, .int .i64 t346, .string (⟨#[]⟩ : ByteArray), .string (⟨#[]⟩ : ByteArray), .bool false, .bool false, .slice none 0 0, .slice none 0 0, .slice none 0 0, .slice none 0 0]) ?_ 2 _ rfl; (with_reducible repeat (first | refine blk_drewN ?_ _ | refine blk_drew ?_ | refine blk_alloc ?_ _)); refine blk_put (cs := #[.int .i64 t345, .int .i64 0, .string (⟨#[]⟩ : ByteArray), .string (⟨#[]⟩ : ByteArray), .bool false, .bool false, .slice none 0 0, .slice none 0 0, .slice none 0 0, .slice none 0 0]) ?_ 1 _ rfl; (with_reducible repeat (first | refine blk_drewN ?_ _ | refine blk_drew ?_ | refine blk_alloc ?_ _)); refine blk_put (cs := #[.int .i64 0, .int .i64 0, .string (⟨#[]⟩ : ByteArray), .string (⟨#[]⟩ : ByteArray), .bool false, .bool false, .slice none 0 0, .slice none 0 0, .slice none 0 0, .slice none 0 0]) ?_ 0 _ rfl; (with_reducible repeat (first | refine blk_drewN ?_ _ | refine blk_drew ?_ | refine blk_alloc ?_ _)); exact BK364.out⟩, ⟨by repeat (first | (with_reducible first | exact HB.out | apply below_alloc | apply pw_below_drewN | apply below_drew1 | refine below_set ?_ GE310.out | refine below_set ?_ GE341.out | refine below_set ?_ GE364.out) | exact HB.out)⟩⟩
          · rw [if_neg c66] at H
            have c66b0 : (t340 == 0) = false := beq_eq_false_iff_ne.mpr c66
            have c66b1 : (t340 != 0) = true := bne_iff_ne.mpr c66
            (first | rw [c66b0] | (simp only [i64_w, i32_w]; rw [c66b0]) | skip)
            have H' := Aside0.mk H
            clear H
            go_wp2
            go_meet
            case rel => exact ⟨_, (true), (by first | rfl | (simp; done) | (simp [*]; done)), H', ⟨by have := HJ4.out; first | omega | exact Nat.le_refl _⟩, ⟨by (with_reducible repeat (first | apply Kd.R_alloc | apply Kd.R_drewN | apply Kd.R_drew)); exact Kd.R_mono (Kd.R_far (p := ⟨gb364, 9, none⟩) (Kd.R_far (p := ⟨gb364, 8, none⟩) (Kd.R_far (p := ⟨gb364, 7, none⟩) (Kd.R_far (p := ⟨gb364, 6, none⟩) (Kd.R_far (p := ⟨gb364, 5, none⟩) (Kd.R_far (p := ⟨gb364, 4, none⟩) (Kd.R_far (p := ⟨gb364, 3, none⟩) (Kd.R_far (p := ⟨gb364, 2, none⟩) (Kd.R_far (p := ⟨gb364, 1, none⟩) (Kd.R_far (p := ⟨gb364, 0, none⟩) (Kd.R_types HO330.out BK364.out (by decide)) (fun _ hk => hk.2) (.int .i64 t345)) (fun _ hk => hk.2) (.int .i64 t346)) (fun _ hk => hk.2) (.string t347)) (fun _ hk => hk.2) (.string t348)) (fun _ hk => hk.2) (.bool t349)) (fun _ hk => hk.2) (.bool t350)) (fun _ hk => hk.2) (.slice Ao58 t351.length co58)) (fun _ hk => hk.2) (.slice Ao60 t354.length co60)) (fun _ hk => hk.2) (.slice Ao62 t357.length co62)) (fun _ hk => hk.2) (.slice Ao64 t360.length co64)) (fun _ hk => ⟨hk.1.1, ⟨hk.1.2.1, hk.1.2.2⟩⟩)⟩, ⟨by (with_reducible repeat (first | apply Kd.R_alloc | apply Kd.R_drewN | apply Kd.R_drew)); exact Kd.R_mono (Kd.R_far (p := ⟨gb364, 9, none⟩) (Kd.R_far (p := ⟨gb364, 8, none⟩) (Kd.R_far (p := ⟨gb364, 7, none⟩) (Kd.R_far (p := ⟨gb364, 6, none⟩) (Kd.R_far (p := ⟨gb364, 5, none⟩) (Kd.R_far (p := ⟨gb364, 4, none⟩) (Kd.R_far (p := ⟨gb364, 3, none⟩) (Kd.R_far (p := ⟨gb364, 2, none⟩) (Kd.R_far (p := ⟨gb364, 1, none⟩) (Kd.R_far (p := ⟨gb364, 0, none⟩) (Kd.R_types HO333.out BK364.out (by decide)) (fun _ hk => hk.2) (.int .i64 t345)) (fun _ hk => hk.2) (.int .i64 t346)) (fun _ hk => hk.2) (.string t347)) (fun _ hk => hk.2) (.string t348)) (fun _ hk => hk.2) (.bool t349)) (fun _ hk => hk.2) (.bool t350)) (fun _ hk => hk.2) (.slice Ao58 t351.length co58)) (fun _ hk => hk.2) (.slice Ao60 t354.length co60)) (fun _ hk => hk.2) (.slice Ao62 t357.length co62)) (fun _ hk => hk.2) (.slice Ao64 t360.length co64)) (fun _ hk => ⟨hk.1.1, ⟨hk.1.2.1, hk.1.2.2⟩⟩)⟩, ⟨by (with_reducible repeat (first | apply Kd.R_alloc | apply Kd.R_drewN | apply Kd.R_drew)); exact Kd.R_mono (Kd.R_far (p := ⟨gb364, 9, none⟩) (Kd.R_far (p := ⟨gb364, 8, none⟩) (Kd.R_far (p := ⟨gb364, 7, none⟩) (Kd.R_far (p := ⟨gb364, 6, none⟩) (Kd.R_far (p := ⟨gb364, 5, none⟩) (Kd.R_far (p := ⟨gb364, 4, none⟩) (Kd.R_far (p := ⟨gb364, 3, none⟩) (Kd.R_far (p := ⟨gb364, 2, none⟩) (Kd.R_far (p := ⟨gb364, 1, none⟩) (Kd.R_far (p := ⟨gb364, 0, none⟩) (Kd.R_types HO336.out BK364.out (by decide)) (fun _ hk => hk.2) (.int .i64 t345)) (fun _ hk => hk.2) (.int .i64 t346)) (fun _ hk => hk.2) (.string t347)) (fun _ hk => hk.2) (.string t348)) (fun _ hk => hk.2) (.bool t349)) (fun _ hk => hk.2) (.bool t350)) (fun _ hk => hk.2) (.slice Ao58 t351.length co58)) (fun _ hk => hk.2) (.slice Ao60 t354.length co60)) (fun _ hk => hk.2) (.slice Ao62 t357.length co62)) (fun _ hk => hk.2) (.slice Ao64 t360.length co64)) (fun _ hk => hk.1)⟩, ⟨by (with_reducible repeat (first | apply Kd.R_alloc | apply Kd.R_drewN | apply Kd.R_drew)); exact Kd.R_mono (Kd.R_far (p := ⟨gb364, 9, none⟩) (Kd.R_far (p := ⟨gb364, 8, none⟩) (Kd.R_far (p := ⟨gb364, 7, none⟩) (Kd.R_far (p := ⟨gb364, 6, none⟩) (Kd.R_far (p := ⟨gb364, 5, none⟩) (Kd.R_far (p := ⟨gb364, 4, none⟩) (Kd.R_far (p := ⟨gb364, 3, none⟩) (Kd.R_far (p := ⟨gb364, 2, none⟩) (Kd.R_far (p := ⟨gb364, 1, none⟩) (Kd.R_far (p := ⟨gb364, 0, none⟩) (Kd.R_types HO339.out BK364.out (by decide)) (fun _ hk => hk.2) (.int .i64 t345)) (fun _ hk => hk.2) (.int .i64 t346)) (fun _ hk => hk.2) (.string t347)) (fun _ hk => hk.2) (.string t348)) (fun _ hk => hk.2) (.bool t349)) (fun _ hk => hk.2) (.bool t350)) (fun _ hk => hk.2) (.slice Ao58 t351.length co58)) (fun _ hk => hk.2) (.slice Ao60 t354.length co60)) (fun _ hk => hk.2) (.slice Ao62 t357.length co62)) (fun _ hk => hk.2) (.slice Ao64 t360.length co64)) (fun _ hk => hk.1)⟩, ⟨by (with_reducible repeat (first | apply Kd.R_alloc | apply Kd.R_drewN | apply Kd.R_drew)); exact Kd.R_mono (Kd.R_far (p := ⟨gb364, 9, none⟩) (Kd.R_far (p := ⟨gb364, 8, none⟩) (Kd.R_far (p := ⟨gb364, 7, none⟩) (Kd.R_far (p := ⟨gb364, 6, none⟩) (Kd.R_far (p := ⟨gb364, 5, none⟩) (Kd.R_far (p := ⟨gb364, 4, none⟩) (Kd.R_far (p := ⟨gb364, 3, none⟩) (Kd.R_far (p := ⟨gb364, 2, none⟩) (Kd.R_far (p := ⟨gb364, 1, none⟩) (Kd.R_far (p := ⟨gb364, 0, none⟩) (Kd.R_types HO353.out BK364.out (by decide)) (fun _ hk => hk.2) (.int .i64 t345)) (fun _ hk => hk.2) (.int .i64 t346)) (fun _ hk => hk.2) (.string t347)) (fun _ hk => hk.2) (.string t348)) (fun _ hk => hk.2) (.bool t349)) (fun _ hk => hk.2) (.bool t350)) (fun _ hk => hk.2) (.slice Ao58 t351.length co58)) (fun _ hk => hk.2) (.slice Ao60 t354.length co60)) (fun _ hk => hk.2) (.slice Ao62 t357.length co62)) (fun _ hk => hk.2) (.slice Ao64 t360.length co64)) (fun _ hk => ⟨hk.1.1, ⟨hk.1.2.1, hk.1.2.2⟩⟩)⟩, ⟨by (with_reducible repeat (first | apply Kd.R_alloc | apply Kd.R_drewN | apply Kd.R_drew)); exact Kd.R_mono (Kd.R_far (p := ⟨gb364, 9, none⟩) (Kd.R_far (p := ⟨gb364, 8, none⟩) (Kd.R_far (p := ⟨gb364, 7, none⟩) (Kd.R_far (p := ⟨gb364, 6, none⟩) (Kd.R_far (p := ⟨gb364, 5, none⟩) (Kd.R_far (p := ⟨gb364, 4, none⟩) (Kd.R_far (p := ⟨gb364, 3, none⟩) (Kd.R_far (p := ⟨gb364, 2, none⟩) (Kd.R_far (p := ⟨gb364, 1, none⟩) (Kd.R_far (p := ⟨gb364, 0, none⟩) (Kd.R_types HO356.out BK364.out (by decide)) (fun _ hk => hk.2) (.int .i64 t345)) (fun _ hk => hk.2) (.int .i64 t346)) (fun _ hk => hk.2) (.string t347)) (fun _ hk => hk.2) (.string t348)) (fun _ hk => hk.2) (.bool t349)) (fun _ hk => hk.2) (.bool t350)) (fun _ hk => hk.2) (.slice Ao58 t351.length co58)) (fun _ hk => hk.2) (.slice Ao60 t354.length co60)) (fun _ hk => hk.2) (.slice Ao62 t357.length co62)) (fun _ hk => hk.2) (.slice Ao64 t360.length co64)) (fun _ hk => ⟨hk.1.1, ⟨hk.1.2.1, hk.1.2.2⟩⟩)⟩, ⟨by (with_reducible repeat (first | apply Kd.R_alloc | apply Kd.R_drewN | apply Kd.R_drew)); exact Kd.R_mono (Kd.R_far (p := ⟨gb364, 9, none⟩) (Kd.R_far (p := ⟨gb364, 8, none⟩) (Kd.R_far (p := ⟨gb364, 7, none⟩) (Kd.R_far (p := ⟨gb364, 6, none⟩) (Kd.R_far (p := ⟨gb364, 5, none⟩) (Kd.R_far (p := ⟨gb364, 4, none⟩) (Kd.R_far (p := ⟨gb364, 3, none⟩) (Kd.R_far (p := ⟨gb364, 2, none⟩) (Kd.R_far (p := ⟨gb364, 1, none⟩) (Kd.R_far (p := ⟨gb364, 0, none⟩) (Kd.R_types HO359.out BK364.out (by decide)) (fun _ hk => hk.2) (.int .i64 t345)) (fun _ hk => hk.2) (.int .i64 t346)) (fun _ hk => hk.2) (.string t347)) (fun _ hk => hk.2) (.string t348)) (fun _ hk => hk.2) (.bool t349)) (fun _ hk => hk.2) (.bool t350)) (fun _ hk => hk.2) (.slice Ao58 t351.length co58)) (fun _ hk => hk.2) (.slice Ao60 t354.length co60)) (fun _ hk => hk.2) (.slice Ao62 t357.length co62)) (fun _ hk => hk.2) (.slice Ao64 t360.length co64)) (fun _ hk => hk.1)⟩, ⟨by (with_reducible repeat (first | apply Kd.R_alloc | apply Kd.R_drewN | apply Kd.R_drew)); exact Kd.R_mono (Kd.R_far (p := ⟨gb364, 9, none⟩) (Kd.R_far (p := ⟨gb364, 8, none⟩) (Kd.R_far (p := ⟨gb364, 7, none⟩) (Kd.R_far (p := ⟨gb364, 6, none⟩) (Kd.R_far (p := ⟨gb364, 5, none⟩) (Kd.R_far (p := ⟨gb364, 4, none⟩) (Kd.R_far (p := ⟨gb364, 3, none⟩) (Kd.R_far (p := ⟨gb364, 2, none⟩) (Kd.R_far (p := ⟨gb364, 1, none⟩) (Kd.R_far (p := ⟨gb364, 0, none⟩) (Kd.R_types HO362.out BK364.out (by decide)) (fun _ hk => hk.2) (.int .i64 t345)) (fun _ hk => hk.2) (.int .i64 t346)) (fun _ hk => hk.2) (.string t347)) (fun _ hk => hk.2) (.string t348)) (fun _ hk => hk.2) (.bool t349)) (fun _ hk => hk.2) (.bool t350)) (fun _ hk => hk.2) (.slice Ao58 t351.length co58)) (fun _ hk => hk.2) (.slice Ao60 t354.length co60)) (fun _ hk => hk.2) (.slice Ao62 t357.length co62)) (fun _ hk => hk.2) (.slice Ao64 t360.length co64)) (fun _ hk => hk.1)⟩, ⟨by (with_reducible repeat (first | refine blk_drewN ?_ _ | refine blk_drew ?_ | refine blk_alloc ?_ _)); refine blk_far ?_ NB310_364.out _; (with_reducible repeat (first | refine blk_drewN ?_ _ | refine blk_drew ?_ | refine blk_alloc ?_ _)); refine blk_far ?_ NB310_364.out _; (with_reducible repeat (first | refine blk_drewN ?_ _ | refine blk_drew ?_ | refine blk_alloc ?_ _)); refine blk_far ?_ NB310_364.out _; (with_reducible repeat (first | refine blk_drewN ?_ _ | refine blk_drew ?_ | refine blk_alloc ?_ _)); refine blk_far ?_ NB310_364.out _; (with_reducible repeat (first | refine blk_drewN ?_ _ | refine blk_drew ?_ | refine blk_alloc ?_ _)); refine blk_far ?_ NB310_364.out _; (with_reducible repeat (first | refine blk_drewN ?_ _ | refine blk_drew ?_ | refine blk_alloc ?_ _)); refine blk_far ?_ NB310_364.out _; (with_reducible repeat (first | refine blk_drewN ?_ _ | refine blk_drew ?_ | refine blk_alloc ?_ _)); refine blk_far ?_ NB310_364.out _; (with_reducible repeat (first | refine blk_drewN ?_ _ | refine blk_drew ?_ | refine blk_alloc ?_ _)); refine blk_far ?_ NB310_364.out _; (with_reducible repeat (first | refine blk_drewN ?_ _ | refine blk_drew ?_ | refine blk_alloc ?_ _)); refine blk_far ?_ NB310_364.out _; (with_reducible repeat (first | refine blk_drewN ?_ _ | refine blk_drew ?_ | refine blk_alloc ?_ _)); refine blk_far ?_ NB310_364.out _; (with_reducible repeat (first | refine blk_drewN ?_ _ | refine blk_drew ?_ | refine blk_alloc ?_ _)); exact BK310.out⟩, ⟨by (with_reducible repeat (first | refine blk_drewN ?_ _ | refine blk_drew ?_ | refine blk_alloc ?_ _)); refine blk_far ?_ NB341_364.out _; (with_reducible repeat (first | refine blk_drewN ?_ _ | refine blk_drew ?_ | refine blk_alloc ?_ _)); refine blk_far ?_ NB341_364.out _; (with_reducible repeat (first | refine blk_drewN ?_ _ | refine blk_drew ?_ | refine blk_alloc ?_ _)); refine blk_far ?_ NB341_364.out _; (with_reducible repeat (first | refine blk_drewN ?_ _ | refine blk_drew ?_ | refine blk_alloc ?_ _)); refine blk_far ?_ NB341_364.out _; (with_reducible repeat (first | refine blk_drewN ?_ _ | refine blk_drew ?_ | refine blk_alloc ?_ _)); refine blk_far ?_ NB341_364.out _; (with_reducible repeat (first | refine blk_drewN ?_ _ | refine blk_drew ?_ | refine blk_alloc ?_ _)); refine blk_far ?_ NB341_364.out _; (with_reducible repeat (first | refine blk_drewN ?_ _ | refine blk_drew ?_ | refine blk_alloc ?_ _)); refine blk_far ?_ NB341_364.out _; (with_reducible repeat (first | refine blk_drewN ?_ _ | refine blk_drew ?_ | refine blk_alloc ?_ _)); refine blk_far ?_ NB341_364.out _; (with_reducible repeat (first | refine blk_drewN ?_ _ | refine blk_drew ?_ | refine blk_alloc ?_ _)); refine blk_far ?_ NB341_364.out _; (with_reducible repeat (first | refine blk_drewN ?_ _ | refine blk_drew ?_ | refine blk_alloc ?_ _)); refine blk_far ?_ NB341_364.out _; (with_reducible repeat (first | refine blk_drewN ?_ _ | refine blk_drew ?_ | refine blk_alloc ?_ _)); exact BK341.out⟩, ⟨by (with_reducible repeat (first | refine blk_drewN ?_ _ | refine blk_drew ?_ | refine blk_alloc ?_ _)); refine blk_put (cs := #[.int .i64 t345, .int .i64 t346, .string t347, .string t348, .bool t349, .bool t350, .slice Ao58 t351.length co58, .slice Ao60 t354.length co60, .slice Ao62 t357.length co62, .slice none 0 0]) ?_ 9 _ rfl; (with_reducible repeat (first | refine blk_drewN ?_ _ | refine blk_drew ?_ | refine blk_alloc ?_ _)); refine blk_put (cs := #[.int .i64 t345, .int .i64 t346, .string t347, .string t348, .bool t349, .bool t350, .slice Ao58 t351.length co58, .slice Ao60 t354.length co60, .slice none 0 0, .slice none 0 0]) ?_ 8 _ rfl; (with_reducible repeat (first | refine blk_drewN ?_ _ | refine blk_drew ?_ | refine blk_alloc ?_ _)); refine blk_put (cs := #[.int .i64 t345, .int .i64 t346, .string t347, .string t348, .bool t349, .bool t350, .slice Ao58 t351.length co58, .slice none 0 0, .slice none 0 0, .slice none 0 0]) ?_ 7 _ rfl; (with_reducible repeat (first | refine blk_drewN ?_ _ | refine blk_drew ?_ | refine blk_alloc ?_ _)); refine blk_put (cs := #[.int .i64 t345, .int .i64 t346, .string t347, .string t348, .bool t349, .bool t350, .slice none 0 0, .slice none 0 0, .slice none 0 0, .slice none 0 0]) ?_ 6 _ rfl; (with_reducible repeat (first | refine blk_drewN ?_ _ | refine blk_drew ?_ | refine blk_alloc ?_ _)); refine blk_put (cs := #[.int .i64 t345, .int .i64 t346, .string t347, .string t348, .bool t349, .bool false, .slice none 0 0, .slice none 0 0, .slice none 0 0, .slice none 0 0]) ?_ 5 _ rfl; (with_reducible repeat (first | refine blk_drewN ?_ _ | refine blk_drew ?_ | refine blk_alloc ?_ _)); refine blk_put (cs := #[.int .i64 t345, .int .i64 t346, .string t347, .string t348, .bool false, .bool false, .slice none 0 0, .slice none 0 0, .slice none 0 0, .slice none 0 0]) ?_ 4 _ rfl; (with_reducible repeat (first | refine blk_drewN ?_ _ | refine blk_drew ?_ | refine blk_alloc ?_ _)); refine blk_put (cs := #[.int .i64 t345, .int .i64 t346, .string t347, .string (⟨#[]⟩ : ByteArray), .bool false, .bool false, .slice none 0 0, .slice none 0 0, .slice none 0 0, .slice none 0 0]) ?_ 3 _ rfl; (with_reducible repeat (first | refine blk_drewN ?_ _ | refine blk_drew ?_ | refine blk_alloc ?_ _)); refine blk_put (cs := #[.int .i64 t345, .int .i64 t346, .string (⟨#[]⟩ : ByteArray), .string (⟨#[]⟩ : ByteArray), .bool false, .bool false, .slice none 0 0, .slice none 0 0, .slice none 0 0, .slice none 0 0]) ?_ 2 _ rfl; (with_reducible repeat (first | refine blk_drewN ?_ _ | refine blk_drew ?_ | refine blk_alloc ?_ _)); refine blk_put (cs := #[.int .i64 t345, .int .i64 0, .string (⟨#[]⟩ : ByteArray), .string (⟨#[]⟩ : ByteArray), .bool false, .bool false, .slice none 0 0, .slice none 0 0, .slice none 0 0, .slice none 0 0]) ?_ 1 _ rfl; (with_reducible repeat (first | refine blk_drewN ?_ _ | refine blk_drew ?_ | refine blk_alloc ?_ _)); refine blk_put (cs := #[.int .i64 0, .int .i64 0, .string (⟨#[]⟩ : ByteArray), .string (⟨#[]⟩ : ByteArray), .bool false, .bool false, .slice none 0 0, .slice none 0 0, .slice none 0 0, .slice none 0 0]) ?_ 0 _ rfl; (with_reducible repeat (first | refine blk_drewN ?_ _ | refine blk_drew ?_ | refine blk_alloc ?_ _)); exact BK364.out⟩, ⟨by repeat (first | (with_reducible first | exact HB.out | apply below_alloc | apply pw_below_drewN | apply below_drew1 | refine below_set ?_ GE310.out | refine below_set ?_ GE341.out | refine below_set ?_ GE364.out) | exact HB.out)⟩⟩
        case rest =>
          clear HC32
          try clear c1
          try clear c2
          try clear p2
          try clear c6
          try clear c18
          try clear c19
          try clear c66
          try clear c66b0
          try clear c66b1
          obtain ⟨kq, x61_31, rfl, HA, HJ31, HO_342006, HO_342007, HO_342008, HO_342009, HO_365006, HO_365007, HO_365008, HO_365009, BK310, BK341, BK364, HB⟩ := hcut
          cases kq with
          | zero => exact absurd HA.out (by simp [rundlelaw08_RevChanges.j1])
          | succ kj31 =>
            have H := HA.out
            clear HA
            simp only [rundlelaw08_RevChanges.j1] at H
            by_cases c67 : x61_31 = true
            · subst c67
              have H1 : (if t340 = 1 then (some true) else (some (t363 == 1))) = some r := by rw [if_pos rfl] at H; exact H
              clear H
              have H := H1
              clear H1
              by_cases c68 : t340 = 1
              · rw [if_pos c68] at H
                have c68b0 : (t340 == 1) = true := beq_iff_eq.mpr c68
                have c68b1 : (t340 != 1) = false := bne_eq_false_iff_eq.mpr c68
                clear c68
                obtain rfl := Option.some.inj H
                go_wp2
                go_ret
                exact ⟨by first | rfl | (simp [errW_none, errW_some] <;> rfl) | (simp [*, errW_none, errW_some] <;> rfl), by repeat (first | (with_reducible first | exact HB.out | apply below_alloc | apply pw_below_drewN | apply below_drew1 | refine below_set ?_ GE310.out | refine below_set ?_ GE341.out | refine below_set ?_ GE364.out) | exact HB.out)⟩
              · rw [if_neg c68] at H
                have c68b0 : (t340 == 1) = false := beq_eq_false_iff_ne.mpr c68
                have c68b1 : (t340 != 1) = true := bne_iff_ne.mpr c68
                obtain rfl := Option.some.inj H
                go_wp2
                go_ret
                exact ⟨by first | rfl | (simp [errW_none, errW_some] <;> rfl) | (simp [*, errW_none, errW_some] <;> rfl), by repeat (first | (with_reducible first | exact HB.out | apply below_alloc | apply pw_below_drewN | apply below_drew1 | refine below_set ?_ GE310.out | refine below_set ?_ GE341.out | refine below_set ?_ GE364.out) | exact HB.out)⟩
            · replace c67 := Bool.eq_false_iff.mpr c67
              subst c67
              have H1 : ((rev_Get.f kj31 t322 t323 t324 t325 t326 t327 t328 t331 t334 t337 a3).bind fun bt365 => (rundlelaw08_RevChanges.l0 kj31 l2 a3 bt365.1 bt365.2 0 t345 t346 t347 t348 t349 t350 t351 t354 t357 t360)) = some r := by rw [if_neg (show ¬ (false = true) by decide)] at H; exact H
              clear H
              have H := H1
              clear H1
              replace H := Option.bind_eq_some_iff.mp H
              obtain ⟨⟨t365, t366⟩, A690, H⟩ := H
              replace H : (rundlelaw08_RevChanges.l0 kj31 l2 a3 t365 t366 0 t345 t346 t347 t348 t349 t350 t351 t354 t357 t360) = some r := H
              have A69 := Aside0.mk A690
              clear A690
              have H' := Aside0.mk H
              clear H
              have hnb70 := NB341_310.out
              have hnc70 := NB310_341.out
              have hnb71 := NB341_364.out
              have hnc71 := NB364_341.out
              have hcz72_0 : wc.cell? ⟨gb341, 0, none⟩ = some (.int .i64 t322) := (blk_cell BK341.out 0).trans rfl
              have hcz72_1 : wc.cell? ⟨gb341, 1, none⟩ = some (.int .i64 t323) := (blk_cell BK341.out 1).trans rfl
              have hcz72_2 : wc.cell? ⟨gb341, 2, none⟩ = some (.string t324) := (blk_cell BK341.out 2).trans rfl
              have hcz72_3 : wc.cell? ⟨gb341, 3, none⟩ = some (.string t325) := (blk_cell BK341.out 3).trans rfl
              have hcz72_4 : wc.cell? ⟨gb341, 4, none⟩ = some (.bool t326) := (blk_cell BK341.out 4).trans rfl
              have hcz72_5 : wc.cell? ⟨gb341, 5, none⟩ = some (.bool t327) := (blk_cell BK341.out 5).trans rfl
              have hcz72_6 : wc.cell? ⟨gb341, 6, none⟩ = some (.slice Ao41 t328.length co41) := (blk_cell BK341.out 6).trans rfl
              have hcz72_7 : wc.cell? ⟨gb341, 7, none⟩ = some (.slice Ao42 t331.length co42) := (blk_cell BK341.out 7).trans rfl
              have hcz72_8 : wc.cell? ⟨gb341, 8, none⟩ = some (.slice Ao43 t334.length co43) := (blk_cell BK341.out 8).trans rfl
              have hcz72_9 : wc.cell? ⟨gb341, 9, none⟩ = some (.slice Ao44 t337.length co44) := (blk_cell BK341.out 9).trans rfl
              have hfz72_0 := blk_frozen BK341.out 0
              have hfz72_1 := blk_frozen BK341.out 1
              have hfz72_2 := blk_frozen BK341.out 2
              have hfz72_3 := blk_frozen BK341.out 3
              have hfz72_4 := blk_frozen BK341.out 4
              have hfz72_5 := blk_frozen BK341.out 5
              have hfz72_6 := blk_frozen BK341.out 6
              have hfz72_7 := blk_frozen BK341.out 7
              have hfz72_8 := blk_frozen BK341.out 8
              have hfz72_9 := blk_frozen BK341.out 9
              go_wp2_with (first | ((with_reducible refine gate_callee (f := 24) rfl ?_); refine goesL_ (some 71) rfl rfl Try.func24 (by kernel_rfl) rfl #[.agg #[.int .i64 t322, .int .i64 t323, .string t324, .string t325, .bool t326, .bool t327, .slice Ao41 t328.length co41, .slice Ao42 t331.length co42, .slice Ao43 t334.length co43, .slice Ao44 t337.length co44], .string a3] rfl (by (try simp only [List.map_toArray, List.map_cons, List.map_nil]); first | done | rfl | (simp only [List.length_drop, List.length_take]; rfl)) ?_; (with_reducible refine (rev_Get.calls kj31 t322 t323 t324 t325 t326 t327 _ _ t328 _ _ t331 _ _ t334 _ _ t337 a3 t365 t366 _ ?side1 ?side2 ?side3 ?side4 ?side5 ?side6 ?side7 ?side8 A69.out).mono ?_); (case side1 => repeat (first | exact (Kd.R_reads' HO_342006.out).2.2 | (with_reducible refine Kd.C_alloc ?_ _) | (with_reducible refine Kd.C_drewN ?_ _) | (with_reducible refine Kd.C_drew ?_))); (case side2 => exact (Kd.R_reads' HO_342006.out).2.1); (case side3 => repeat (first | exact (Kd.R_reads' HO_342007.out).2.2 | (with_reducible refine Kd.C_alloc ?_ _) | (with_reducible refine Kd.C_drewN ?_ _) | (with_reducible refine Kd.C_drew ?_))); (case side4 => exact (Kd.R_reads' HO_342007.out).2.1); (case side5 => repeat (first | exact (Kd.R_reads' HO_342008.out).2.2 | (with_reducible refine Kd.C_alloc ?_ _) | (with_reducible refine Kd.C_drewN ?_ _) | (with_reducible refine Kd.C_drew ?_))); (case side6 => exact (Kd.R_reads' HO_342008.out).2.1); (case side7 => repeat (first | exact (Kd.R_reads' HO_342009.out).2.2 | (with_reducible refine Kd.C_alloc ?_ _) | (with_reducible refine Kd.C_drewN ?_ _) | (with_reducible refine Kd.C_drew ?_))); (case side8 => exact (Kd.R_reads' HO_342009.out).2.1); rintro e w73 ⟨rfl, hb⟩; refine ⟨_, rfl, ?_⟩; have n0_ := Aside0.mk (Kd.R_below (by (with_reducible repeat (first | apply Kd.R_alloc | apply Kd.R_drewN | apply Kd.R_drew)); exact HO_342006.out) hb); have n1_ := Aside0.mk (Kd.R_below (by (with_reducible repeat (first | apply Kd.R_alloc | apply Kd.R_drewN | apply Kd.R_drew)); exact HO_342007.out) hb); have n2_ := Aside0.mk (Kd.R_below (by (with_reducible repeat (first | apply Kd.R_alloc | apply Kd.R_drewN | apply Kd.R_drew)); exact HO_342008.out) hb); have n3_ := Aside0.mk (Kd.R_below (by (with_reducible repeat (first | apply Kd.R_alloc | apply Kd.R_drewN | apply Kd.R_drew)); exact HO_342009.out) hb); have n4_ := Aside0.mk (Kd.R_below (by (with_reducible repeat (first | apply Kd.R_alloc | apply Kd.R_drewN | apply Kd.R_drew)); exact HO_365006.out) hb); have n5_ := Aside0.mk (Kd.R_below (by (with_reducible repeat (first | apply Kd.R_alloc | apply Kd.R_drewN | apply Kd.R_drew)); exact HO_365007.out) hb); have n6_ := Aside0.mk (Kd.R_below (by (with_reducible repeat (first | apply Kd.R_alloc | apply Kd.R_drewN | apply Kd.R_drew)); exact HO_365008.out) hb); have n7_ := Aside0.mk (Kd.R_below (by (with_reducible repeat (first | apply Kd.R_alloc | apply Kd.R_drewN | apply Kd.R_drew)); exact HO_365009.out) hb); have n8_ := Aside0.mk (blk_below (g := gb310) (o := .cells #[.string a0_0, .string a0_1, .bool a0_2] 23 (0, 0)) (by (with_reducible repeat (first | refine blk_drewN ?_ _ | refine blk_drew ?_ | refine blk_alloc ?_ _)); exact BK310.out) hb); have n9_ := Aside0.mk (blk_below (g := gb341) (o := .cells #[.int .i64 t322, .int .i64 t323, .string t324, .string t325, .bool t326, .bool t327, .slice Ao41 t328.length co41, .slice Ao42 t331.length co42, .slice Ao43 t334.length co43, .slice Ao44 t337.length co44] 37 (0, 0)) (by (with_reducible repeat (first | refine blk_drewN ?_ _ | refine blk_drew ?_ | refine blk_alloc ?_ _)); exact BK341.out) hb); have n10_ := Aside0.mk (blk_below (g := gb364) (o := .cells #[.int .i64 t345, .int .i64 t346, .string t347, .string t348, .bool t349, .bool t350, .slice Ao58 t351.length co58, .slice Ao60 t354.length co60, .slice Ao62 t357.length co62, .slice Ao64 t360.length co64] 37 (0, 0)) (by (with_reducible repeat (first | refine blk_drewN ?_ _ | refine blk_drew ?_ | refine blk_alloc ?_ _)); exact BK364.out) hb); have n11_ := Aside0.mk (below_step (by repeat (first | (with_reducible first | exact HB.out | apply below_alloc | apply pw_below_drewN | apply below_drew1 | refine below_set ?_ GE310.out | refine below_set ?_ GE341.out | refine below_set ?_ GE364.out) | exact HB.out)) hb); clear HO_342006; clear HO_342007; clear HO_342008; clear HO_342009; clear HO_365006; clear HO_365007; clear HO_365008; clear HO_365009; clear BK310; clear BK341; clear BK364; clear HB; have HO_342006 := n0_; have HO_342007 := n1_; have HO_342008 := n2_; have HO_342009 := n3_; have HO_365006 := n4_; have HO_365007 := n5_; have HO_365008 := n6_; have HO_365009 := n7_; have BK310 := n8_; have BK341 := n9_; have BK364 := n10_; have HB := n11_; clear n0_ n1_ n2_ n3_ n4_ n5_ n6_ n7_ n8_ n9_ n10_ n11_; (try clear hb); (try clear hb2); (try clear hk); (try clear hi)))
              go_loopg [13, 14, 15] kj31 (fun kq v13 v14 v15 w' => ∃ (x13_3 : ByteArray) (x14_3 : Bool) (x15_3 : Int), v13 = .string x13_3 ∧ v14 = .bool x14_3 ∧ v15 = .int .i64 x15_3 ∧ Aside0 (rundlelaw08_RevChanges.l0 kq l2 a3 x13_3 x14_3 x15_3 t345 t346 t347 t348 t349 t350 t351 t354 t357 t360 = some r) ∧ Aside0 (kq ≤ kj31) ∧ Aside0 (Kd.R Kd.string 9 w' w.heap.size (fun k_ => some k_ ≠ ((.slice Ao42 t331.length co42) : Value).ownBlock ∧ some k_ ≠ ((.slice Ao58 t351.length co58) : Value).ownBlock ∧ some k_ ≠ ((.slice Ao60 t354.length co60) : Value).ownBlock) (.slice Ao41 t328.length co41) t328) ∧ Aside0 (Kd.R Kd.string 9 w' w.heap.size (fun k_ => some k_ ≠ ((.slice Ao41 t328.length co41) : Value).ownBlock ∧ some k_ ≠ ((.slice Ao58 t351.length co58) : Value).ownBlock ∧ some k_ ≠ ((.slice Ao60 t354.length co60) : Value).ownBlock) (.slice Ao42 t331.length co42) t331) ∧ Aside0 (Kd.R Kd.bool 4 w' w.heap.size (fun k_ => some k_ ≠ ((.slice Ao62 t357.length co62) : Value).ownBlock) (.slice Ao43 t334.length co43) t334) ∧ Aside0 (Kd.R (Kd.int .i64) 3 w' w.heap.size (fun k_ => some k_ ≠ ((.slice Ao64 t360.length co64) : Value).ownBlock) (.slice Ao44 t337.length co44) t337) ∧ Aside0 (Kd.R Kd.string 9 w' w.heap.size (fun k_ => some k_ ≠ ((.slice Ao41 t328.length co41) : Value).ownBlock ∧ some k_ ≠ ((.slice Ao42 t331.length co42) : Value).ownBlock ∧ some k_ ≠ ((.slice Ao60 t354.length co60) : Value).ownBlock) (.slice Ao58 t351.length co58) t351) ∧ Aside0 (Kd.R Kd.string 9 w' w.heap.size (fun k_ => some k_ ≠ ((.slice Ao41 t328.length co41) : Value).ownBlock ∧ some k_ ≠ ((.slice Ao42 t331.length co42) : Value).ownBlock ∧ some k_ ≠ ((.slice Ao58 t351.length co58) : Value).ownBlock) (.slice Ao60 t354.length co60) t354) ∧ Aside0 (Kd.R Kd.bool 4 w' w.heap.size (fun k_ => some k_ ≠ ((.slice Ao43 t334.length co43) : Value).ownBlock) (.slice Ao62 t357.length co62) t357) ∧ Aside0 (Kd.R (Kd.int .i64) 3 w' w.heap.size (fun k_ => some k_ ≠ ((.slice Ao44 t337.length co44) : Value).ownBlock) (.slice Ao64 t360.length co64) t360) ∧ Aside0 (w'.heap[gb310]? = some (.cells #[.string a0_0, .string a0_1, .bool a0_2] 23 (0, 0))) ∧ Aside0 (w'.heap[gb341]? = some (.cells #[.int .i64 t322, .int .i64 t323, .string t324, .string t325, .bool t326, .bool t327, (.slice Ao41 t328.length co41), (.slice Ao42 t331.length co42), (.slice Ao43 t334.length co43), (.slice Ao44 t337.length co44)] 37 (0, 0))) ∧ Aside0 (w'.heap[gb364]? = some (.cells #[.int .i64 t345, .int .i64 t346, .string t347, .string t348, .bool t349, .bool t350, (.slice Ao58 t351.length co58), (.slice Ao60 t354.length co60), (.slice Ao62 t357.length co62), (.slice Ao64 t360.length co64)] 37 (0, 0))) ∧ Aside0 (Below w.heap.size w w'))
              case atStart => exact ⟨(t365), (t366), (0), (by first | rfl | (simp; done) | (simp [*]; done)), (by first | rfl | (simp; done) | (simp [*]; done)), (by first | rfl | (simp; done) | (simp [*]; done)), H', ⟨Nat.le_refl _⟩, ⟨by (with_reducible repeat (first | apply Kd.R_alloc | apply Kd.R_drewN | apply Kd.R_drew)); exact HO_342006.out⟩, ⟨by (with_reducible repeat (first | apply Kd.R_alloc | apply Kd.R_drewN | apply Kd.R_drew)); exact HO_342007.out⟩, ⟨by (with_reducible repeat (first | apply Kd.R_alloc | apply Kd.R_drewN | apply Kd.R_drew)); exact HO_342008.out⟩, ⟨by (with_reducible repeat (first | apply Kd.R_alloc | apply Kd.R_drewN | apply Kd.R_drew)); exact HO_342009.out⟩, ⟨by (with_reducible repeat (first | apply Kd.R_alloc | apply Kd.R_drewN | apply Kd.R_drew)); exact HO_365006.out⟩, ⟨by (with_reducible repeat (first | apply Kd.R_alloc | apply Kd.R_drewN | apply Kd.R_drew)); exact HO_365007.out⟩, ⟨by (with_reducible repeat (first | apply Kd.R_alloc | apply Kd.R_drewN | apply Kd.R_drew)); exact HO_365008.out⟩, ⟨by (with_reducible repeat (first | apply Kd.R_alloc | apply Kd.R_drewN | apply Kd.R_drew)); exact HO_365009.out⟩, ⟨by (with_reducible repeat (first | refine blk_drewN ?_ _ | refine blk_drew ?_ | refine blk_alloc ?_ _)); exact BK310.out⟩, ⟨by (with_reducible repeat (first | refine blk_drewN ?_ _ | refine blk_drew ?_ | refine blk_alloc ?_ _)); exact BK341.out⟩, ⟨by (with_reducible repeat (first | refine blk_drewN ?_ _ | refine blk_drew ?_ | refine blk_alloc ?_ _)); exact BK364.out⟩, ⟨by repeat (first | (with_reducible first | exact HB.out | apply below_alloc | apply pw_below_drewN | apply below_drew1 | refine below_set ?_ GE310.out | refine below_set ?_ GE341.out | refine below_set ?_ GE364.out) | exact HB.out)⟩⟩
              case round =>
                clear H'
                try clear c1
                try clear c2
                try clear p2
                try clear c6
                try clear c7
                try clear c18
                try clear c19
                try clear c24
                try clear c66
                try clear c66b0
                try clear c66b1
                try clear c67
                try clear c68
                try clear c68b0
                try clear c68b1
                try clear c70
                try clear c71
                try clear hcz72_0
                try clear hcz72_1
                try clear hcz72_2
                try clear hcz72_3
                try clear hcz72_4
                try clear hcz72_5
                try clear hcz72_6
                try clear hcz72_7
                try clear hcz72_8
                try clear hcz72_9
                try clear hfz72_0
                try clear hfz72_1
                try clear hfz72_2
                try clear hfz72_3
                try clear hfz72_4
                try clear hfz72_5
                try clear hfz72_6
                try clear hfz72_7
                try clear hfz72_8
                try clear hfz72_9
                try clear p2
                obtain ⟨x13_3, x14_3, x15_3, rfl, rfl, rfl, HA, HK3, HO_342006, HO_342007, HO_342008, HO_342009, HO_365006, HO_365007, HO_365008, HO_365009, BK310, BK341, BK364, HB⟩ := hrel
                cases gk with
                | zero => exact absurd HA.out (by simp [rundlelaw08_RevChanges.l0])
                | succ k3 =>
                  have H := HA.out
                  clear HA
                  simp only [rundlelaw08_RevChanges.l0] at H
                  by_cases c74 : x15_3 < (l2.length : Int)
                  · rw [if_pos c74] at H
                    have c74b0 : decide (x15_3 < (l2.length : Int)) = true := decide_eq_true c74
                    clear c74
                    by_cases c75 : 0 ≤ x15_3
                    · rw [if_pos c75] at H
                      have c75b0 : decide (0 ≤ x15_3) = true := decide_eq_true c75
                      clear c75
                      by_cases c76 : ((rd_T62 l2 x15_3).f0).toList = a3.toList
                      · rw [if_pos c76] at H
                        have c76b0 : (((rd_T62 l2 x15_3).f0).toList == a3.toList) = true := beq_iff_eq.mpr c76
                        have c76b1 : (((rd_T62 l2 x15_3).f0).toList != a3.toList) = false := bne_eq_false_iff_eq.mpr c76
                        clear c76
                        have H' := Aside0.mk H
                        clear H
                        have p367 : 0 ≤ (x15_3 : Int) := of_decide_eq_true (by first | (with_reducible assumption) | assumption)
                        have q367 : x15_3 < (l2.length : Int) := of_decide_eq_true (by first | (with_reducible assumption) | assumption)
                        obtain ⟨ad367, e367, hx367_0, hx367_1, hx367_2⟩ := at_T62 HR2.out x15_3 p367 q367
                        cases e367
                        replace hx367_0 := (HB.out.cell (World.block_lt_of_cell? w _ hx367_0)).trans hx367_0
                        replace hx367_1 := (HB.out.cell (World.block_lt_of_cell? w _ hx367_1)).trans hx367_1
                        replace hx367_2 := (HB.out.cell (World.block_lt_of_cell? w _ hx367_2)).trans hx367_2
                        replace p367 := eq_true p367
                        replace q367 := eq_true q367
                        try go_wp2
                        have n0_ := Aside0.mk (Kd.R_drew HO_342006.out)
                        have n1_ := Aside0.mk (Kd.R_drew HO_342007.out)
                        have n2_ := Aside0.mk (Kd.R_drew HO_342008.out)
                        have n3_ := Aside0.mk (Kd.R_drew HO_342009.out)
                        have n4_ := Aside0.mk (Kd.R_drew HO_365006.out)
                        have n5_ := Aside0.mk (Kd.R_drew HO_365007.out)
                        have n6_ := Aside0.mk (Kd.R_drew HO_365008.out)
                        have n7_ := Aside0.mk (Kd.R_drew HO_365009.out)
                        have n8_ := Aside0.mk (blk_drew BK310.out)
                        have n9_ := Aside0.mk (blk_drew BK341.out)
                        have n10_ := Aside0.mk (blk_drew BK364.out)
                        have n11_ := Aside0.mk (below_drew1 HB.out)
                        clear HO_342006
                        clear HO_342007
                        clear HO_342008
                        clear HO_342009
                        clear HO_365006
                        clear HO_365007
                        clear HO_365008
                        clear HO_365009
                        clear BK310
                        clear BK341
                        clear BK364
                        clear HB
                        have HO_342006 := n0_
                        have HO_342007 := n1_
                        have HO_342008 := n2_
                        have HO_342009 := n3_
                        have HO_365006 := n4_
                        have HO_365007 := n5_
                        have HO_365008 := n6_
                        have HO_365009 := n7_
                        have BK310 := n8_
                        have BK341 := n9_
                        have BK364 := n10_
                        have HB := n11_
                        clear n0_ n1_ n2_ n3_ n4_ n5_ n6_ n7_ n8_ n9_ n10_ n11_
                        have p368 : 0 ≤ (x15_3 : Int) := of_decide_eq_true (by first | (with_reducible assumption) | assumption)
                        have q368 : x15_3 < (l2.length : Int) := of_decide_eq_true (by first | (with_reducible assumption) | assumption)
                        obtain ⟨ad368, e368, hx368_0, hx368_1, hx368_2⟩ := at_T62 HR2.out x15_3 p368 q368
                        have hw368_2 := hx368_2
                        have hw368_1 := hx368_1
                        have hw368_0 := hx368_0
                        obtain rfl : ad367 = ad368 := (by injection e368)
                        replace hx368_0 := (HB.out.cell (World.block_lt_of_cell? w _ hx368_0)).trans hx368_0
                        replace hx368_1 := (HB.out.cell (World.block_lt_of_cell? w _ hx368_1)).trans hx368_1
                        replace hx368_2 := (HB.out.cell (World.block_lt_of_cell? w _ hx368_2)).trans hx368_2
                        replace p368 := eq_true p368
                        replace q368 := eq_true q368
                        have p369 : 0 ≤ (x15_3 : Int) := of_decide_eq_true (by first | (with_reducible assumption) | assumption)
                        have q369 : x15_3 < (l2.length : Int) := of_decide_eq_true (by first | (with_reducible assumption) | assumption)
                        obtain ⟨ad369, e369, hx369_0, hx369_1, hx369_2⟩ := at_T62 HR2.out x15_3 p369 q369
                        have hw369_2 := hx369_2
                        have hw369_1 := hx369_1
                        have hw369_0 := hx369_0
                        obtain rfl : ad367 = ad369 := (by injection e369)
                        replace hx369_0 := (HB.out.cell (World.block_lt_of_cell? w _ hx369_0)).trans hx369_0
                        replace hx369_1 := (HB.out.cell (World.block_lt_of_cell? w _ hx369_1)).trans hx369_1
                        replace hx369_2 := (HB.out.cell (World.block_lt_of_cell? w _ hx369_2)).trans hx369_2
                        replace p369 := eq_true p369
                        replace q369 := eq_true q369
                        refine start_ (n := 13) (S := fun w' => w'.cell? (ad367.add ((x15_3).toNat * 3)) = some (.string ((rd_T62 l2 x15_3).f0)) ∧ w'.cell? ⟨(ad367.add ((x15_3).toNat * 3)).block, (ad367.add ((x15_3).toNat * 3)).off + 1, none⟩ = some (.string ((rd_T62 l2 x15_3).f1)) ∧ w'.cell? ⟨(ad367.add ((x15_3).toNat * 3)).block, (ad367.add ((x15_3).toNat * 3)).off + 2, none⟩ = some (.bool ((rd_T62 l2 x15_3).f2)) ∧ w'.cell? (ad367.add ((x15_3).toNat * 3)) = some (.string ((rd_T62 l2 x15_3).f0)) ∧ w'.cell? ⟨(ad367.add ((x15_3).toNat * 3)).block, (ad367.add ((x15_3).toNat * 3)).off + 1, none⟩ = some (.string ((rd_T62 l2 x15_3).f1)) ∧ w'.cell? ⟨(ad367.add ((x15_3).toNat * 3)).block, (ad367.add ((x15_3).toNat * 3)).off + 2, none⟩ = some (.bool ((rd_T62 l2 x15_3).f2))) (ds := []) #[false, false, false, false, false, false, false, false, false, false, false, false, false] (by kernel_rfl) rfl rfl ⟨((HB.out.cell (World.block_lt_of_cell? w _ hw368_0)).trans hw368_0), ((HB.out.cell (World.block_lt_of_cell? w _ hw368_1)).trans hw368_1), ((HB.out.cell (World.block_lt_of_cell? w _ hw368_2)).trans hw368_2), ((HB.out.cell (World.block_lt_of_cell? w _ hw369_0)).trans hw369_0), ((HB.out.cell (World.block_lt_of_cell? w _ hw369_1)).trans hw369_1), ((HB.out.cell (World.block_lt_of_cell? w _ hw369_2)).trans hw369_2)⟩ (fun hHeld => ?_); refine with_tabW rundlelaw08_RevChanges.tab12 rundlelaw08_RevChanges.bits12 (fun HT_ HW_ => ?_)
                        generalize wr.drew = w77 at HO_342006 HO_342007 HO_342008 HO_342009 HO_365006 HO_365007 HO_365008 HO_365009 BK310 BK341 BK364 HB hx368_0 hx368_1 hx368_2 hx369_0 hx369_1 hx369_2 hHeld ⊢
                        refine pure_ (i := 0) (N := some 87) (v := ?_) (a' := ?_) #[true, false, false, false, false, false, false, false, false, false, false, false, false] rfl rfl (any_of HT_.out (by kernel_rfl)) (fun _ _ _ h => h) (Or.inl ⟨by rfl, ?_⟩) ?_ ?_
                        rotate_left
                        · intro w'
                          go_simp
                          with_reducible rfl
                        rotate_left
                        · simp only [Act.put, List.setIfInBounds_toArray, List.set_cons_zero, List.set_cons_succ, i64_w, i32_w]
                          rfl
                        refine pure_ (i := 1) (N := some 88) (v := ?_) (a' := ?_) #[true, true, false, false, false, false, false, false, false, false, false, false, false] rfl rfl (any_of HT_.out (by kernel_rfl)) (fun _ _ _ h => h) (Or.inl ⟨by rfl, ?_⟩) ?_ ?_
                        rotate_left
                        · intro w'
                          go_simp
                          with_reducible rfl
                        rotate_left
                        · simp only [Act.put, List.setIfInBounds_toArray, List.set_cons_zero, List.set_cons_succ, i64_w, i32_w]
                          rfl
                        refine pure_ (i := 2) (N := some 89) (v := ?_) (a' := ?_) #[true, true, true, false, false, false, false, false, false, false, false, false, false] rfl rfl (any_of HT_.out (by kernel_rfl)) (fun _ _ _ h => h) (Or.inl ⟨by rfl, ?_⟩) ?_ ?_
                        rotate_left
                        · intro w'
                          go_simp
                          with_reducible rfl
                        rotate_left
                        · simp only [Act.put, List.setIfInBounds_toArray, List.set_cons_zero, List.set_cons_succ, i64_w, i32_w]
                          rfl
                        refine pure_ (i := 3) (N := some 90) (v := ?_) (a' := ?_) #[true, true, true, true, false, false, false, false, false, false, false, false, false] rfl rfl (any_of HT_.out (by kernel_rfl)) (fun _ _ _ h => h) (Or.inl ⟨by rfl, ?_⟩) ?_ ?_
                        rotate_left
                        · intro w'
                          go_simp
                          with_reducible rfl
                        rotate_left
                        · simp only [Act.put, List.setIfInBounds_toArray, List.set_cons_zero, List.set_cons_succ, i64_w, i32_w]
                          rfl
                        refine pure_ (i := 5) (N := some 92) (v := ?_) (a' := ?_) #[true, true, true, true, false, true, false, false, false, false, false, false, false] rfl rfl (any_of HT_.out (by kernel_rfl)) (fun _ _ _ h => h) (Or.inl ⟨by rfl, ?_⟩) ?_ ?_
                        rotate_left
                        · intro w'
                          go_simp
                          with_reducible rfl
                        rotate_left
                        · simp only [Act.put, List.setIfInBounds_toArray, List.set_cons_zero, List.set_cons_succ, i64_w, i32_w]
                          rfl
                        refine pure_ (i := 6) (N := some 93) (v := ?_) (a' := ?_) #[true, true, true, true, false, true, true, false, false, false, false, false, false] rfl rfl (any_of HT_.out (by kernel_rfl)) (fun _ _ _ h => h) (Or.inl ⟨by rfl, ?_⟩) ?_ ?_
                        rotate_left
                        · intro w'
                          go_simp
                          with_reducible rfl
                        rotate_left
                        · simp only [Act.put, List.setIfInBounds_toArray, List.set_cons_zero, List.set_cons_succ, i64_w, i32_w]
                          rfl
                        refine pure_ (i := 7) (N := some 94) (v := ?_) (a' := ?_) #[true, true, true, true, false, true, true, true, false, false, false, false, false] rfl rfl (any_of HT_.out (by kernel_rfl)) (fun _ _ _ h => h) (Or.inl ⟨by rfl, ?_⟩) ?_ ?_
                        rotate_left
                        · intro w'
                          go_simp
                          with_reducible rfl
                        rotate_left
                        · simp only [Act.put, List.setIfInBounds_toArray, List.set_cons_zero, List.set_cons_succ, i64_w, i32_w]
                          rfl
                        refine pure_ (i := 8) (N := some 95) (v := ?_) (a' := ?_) #[true, true, true, true, false, true, true, true, true, false, false, false, false] rfl rfl (any_of HT_.out (by kernel_rfl)) (fun _ _ _ h => h) (Or.inl ⟨by rfl, ?_⟩) ?_ ?_
                        rotate_left
                        · intro w'
                          go_simp
                          with_reducible rfl
                        rotate_left
                        · simp only [Act.put, List.setIfInBounds_toArray, List.set_cons_zero, List.set_cons_succ, i64_w, i32_w]
                          rfl
                        refine take_ (i := 4) (N := some 91) (v := ?_) (a' := ?_) #[true, true, true, true, true, true, true, true, true, false, false, false, false] rfl rfl (take_ofW HT_.out HW_.out (by kernel_rfl)) (fun _ _ _ h => h) (Or.inl ⟨by rfl, ?_⟩) hHeld ?_ ?_
                        rotate_left
                        · rintro w' ⟨s0, s1, s2, s3, s4, s5⟩
                          go_simp
                          with_reducible rfl
                        rotate_left
                        · simp only [Act.put, List.setIfInBounds_toArray, List.set_cons_zero, List.set_cons_succ, i64_w, i32_w]
                          rfl
                        refine pure_ (i := 11) (N := some 13) (v := ?_) (a' := ?_) #[true, true, true, true, true, true, true, true, true, false, false, true, false] rfl rfl (any_of HT_.out (by kernel_rfl)) (fun _ _ _ h => h) (Or.inl ⟨by rfl, ?_⟩) ?_ ?_
                        rotate_left
                        · intro w'
                          go_simp
                          with_reducible rfl
                        rotate_left
                        · simp only [Act.put, List.setIfInBounds_toArray, List.set_cons_zero, List.set_cons_succ, i64_w, i32_w]
                          rfl
                        refine take_ (i := 9) (N := some 96) (v := ?_) (a' := ?_) #[true, true, true, true, true, true, true, true, true, true, false, true, false] rfl rfl (take_ofW HT_.out HW_.out (by kernel_rfl)) (fun _ _ _ h => h) (Or.inl ⟨by rfl, ?_⟩) hHeld ?_ ?_
                        rotate_left
                        · rintro w' ⟨s0, s1, s2, s3, s4, s5⟩
                          go_simp
                          with_reducible rfl
                        rotate_left
                        · simp only [Act.put, List.setIfInBounds_toArray, List.set_cons_zero, List.set_cons_succ, i64_w, i32_w]
                          rfl
                        refine pure_ (i := 10) (N := some 97) (v := ?_) (a' := ?_) #[true, true, true, true, true, true, true, true, true, true, true, true, false] rfl rfl (any_of HT_.out (by kernel_rfl)) (fun _ _ _ h => h) (Or.inl ⟨by rfl, ?_⟩) ?_ ?_
                        rotate_left
                        · intro w'
                          go_simp
                          with_reducible rfl
                        rotate_left
                        · simp only [Act.put, List.setIfInBounds_toArray, List.set_cons_zero, List.set_cons_succ, i64_w, i32_w]
                          rfl
                        refine pure_ (i := 12) (N := some 14) (v := ?_) (a' := ?_) #[true, true, true, true, true, true, true, true, true, true, true, true, true] rfl rfl (any_of HT_.out (by kernel_rfl)) (fun _ _ _ h => h) (Or.inl ⟨by rfl, ?_⟩) ?_ ?_
                        rotate_left
                        · intro w'
                          go_simp
                          with_reducible rfl
                        rotate_left
                        · simp only [Act.put, List.setIfInBounds_toArray, List.set_cons_zero, List.set_cons_succ, i64_w, i32_w]
                          rfl
                        refine done_ (done_of HT_.out (by kernel_rfl)) ?_
                        try go_wp2
                        go_roundg k3
                        case measure => have := HJ4.out; have := HJ31.out; have := HK3.out; omega
                        case rel => exact ⟨((rd_T62 l2 x15_3).f1), (!((rd_T62 l2 x15_3).f2)), (wrap64 (x15_3 + 1)), (by first | rfl | (simp; done) | (simp [*]; done)), (by first | rfl | (simp; done) | (simp [*]; done)), (by first | rfl | (simp; done) | (simp [*]; done)), H', ⟨by have := HJ4.out; have := HJ31.out; have := HK3.out; omega⟩, ⟨by (with_reducible repeat (first | apply Kd.R_alloc | apply Kd.R_drewN | apply Kd.R_drew)); exact HO_342006.out⟩, ⟨by (with_reducible repeat (first | apply Kd.R_alloc | apply Kd.R_drewN | apply Kd.R_drew)); exact HO_342007.out⟩, ⟨by (with_reducible repeat (first | apply Kd.R_alloc | apply Kd.R_drewN | apply Kd.R_drew)); exact HO_342008.out⟩, ⟨by (with_reducible repeat (first | apply Kd.R_alloc | apply Kd.R_drewN | apply Kd.R_drew)); exact HO_342009.out⟩, ⟨by (with_reducible repeat (first | apply Kd.R_alloc | apply Kd.R_drewN | apply Kd.R_drew)); exact HO_365006.out⟩, ⟨by (with_reducible repeat (first | apply Kd.R_alloc | apply Kd.R_drewN | apply Kd.R_drew)); exact HO_365007.out⟩, ⟨by (with_reducible repeat (first | apply Kd.R_alloc | apply Kd.R_drewN | apply Kd.R_drew)); exact HO_365008.out⟩, ⟨by (with_reducible repeat (first | apply Kd.R_alloc | apply Kd.R_drewN | apply Kd.R_drew)); exact HO_365009.out⟩, ⟨by (with_reducible repeat (first | refine blk_drewN ?_ _ | refine blk_drew ?_ | refine blk_alloc ?_ _)); exact BK310.out⟩, ⟨by (with_reducible repeat (first | refine blk_drewN ?_ _ | refine blk_drew ?_ | refine blk_alloc ?_ _)); exact BK341.out⟩, ⟨by (with_reducible repeat (first | refine blk_drewN ?_ _ | refine blk_drew ?_ | refine blk_alloc ?_ _)); exact BK364.out⟩, ⟨by repeat (first | (with_reducible first | exact HB.out | apply below_alloc | apply pw_below_drewN | apply below_drew1 | refine below_set ?_ GE310.out | refine below_set ?_ GE341.out | refine below_set ?_ GE364.out) | exact HB.out)⟩⟩
                      · rw [if_neg c76] at H
                        have c76b0 : (((rd_T62 l2 x15_3).f0).toList == a3.toList) = false := beq_eq_false_iff_ne.mpr c76
                        have c76b1 : (((rd_T62 l2 x15_3).f0).toList != a3.toList) = true := bne_iff_ne.mpr c76
                        have H' := Aside0.mk H
                        clear H
                        have p367 : 0 ≤ (x15_3 : Int) := of_decide_eq_true (by first | (with_reducible assumption) | assumption)
                        have q367 : x15_3 < (l2.length : Int) := of_decide_eq_true (by first | (with_reducible assumption) | assumption)
                        obtain ⟨ad367, e367, hx367_0, hx367_1, hx367_2⟩ := at_T62 HR2.out x15_3 p367 q367
                        cases e367
                        replace hx367_0 := (HB.out.cell (World.block_lt_of_cell? w _ hx367_0)).trans hx367_0
                        replace hx367_1 := (HB.out.cell (World.block_lt_of_cell? w _ hx367_1)).trans hx367_1
                        replace hx367_2 := (HB.out.cell (World.block_lt_of_cell? w _ hx367_2)).trans hx367_2
                        replace p367 := eq_true p367
                        replace q367 := eq_true q367
                        go_wp2
                        go_roundg k3
                        case measure => have := HJ4.out; have := HJ31.out; have := HK3.out; omega
                        case rel => exact ⟨(x13_3), (x14_3), (wrap64 (x15_3 + 1)), (by first | rfl | (simp; done) | (simp [*]; done)), (by first | rfl | (simp; done) | (simp [*]; done)), (by first | rfl | (simp; done) | (simp [*]; done)), H', ⟨by have := HJ4.out; have := HJ31.out; have := HK3.out; omega⟩, ⟨by (with_reducible repeat (first | apply Kd.R_alloc | apply Kd.R_drewN | apply Kd.R_drew)); exact HO_342006.out⟩, ⟨by (with_reducible repeat (first | apply Kd.R_alloc | apply Kd.R_drewN | apply Kd.R_drew)); exact HO_342007.out⟩, ⟨by (with_reducible repeat (first | apply Kd.R_alloc | apply Kd.R_drewN | apply Kd.R_drew)); exact HO_342008.out⟩, ⟨by (with_reducible repeat (first | apply Kd.R_alloc | apply Kd.R_drewN | apply Kd.R_drew)); exact HO_342009.out⟩, ⟨by (with_reducible repeat (first | apply Kd.R_alloc | apply Kd.R_drewN | apply Kd.R_drew)); exact HO_365006.out⟩, ⟨by (with_reducible repeat (first | apply Kd.R_alloc | apply Kd.R_drewN | apply Kd.R_drew)); exact HO_365007.out⟩, ⟨by (with_reducible repeat (first | apply Kd.R_alloc | apply Kd.R_drewN | apply Kd.R_drew)); exact HO_365008.out⟩, ⟨by (with_reducible repeat (first | apply Kd.R_alloc | apply Kd.R_drewN | apply Kd.R_drew)); exact HO_365009.out⟩, ⟨by (with_reducible repeat (first | refine blk_drewN ?_ _ | refine blk_drew ?_ | refine blk_alloc ?_ _)); exact BK310.out⟩, ⟨by (with_reducible repeat (first | refine blk_drewN ?_ _ | refine blk_drew ?_ | refine blk_alloc ?_ _)); exact BK341.out⟩, ⟨by (with_reducible repeat (first | refine blk_drewN ?_ _ | refine blk_drew ?_ | refine blk_alloc ?_ _)); exact BK364.out⟩, ⟨by repeat (first | (with_reducible first | exact HB.out | apply below_alloc | apply pw_below_drewN | apply below_drew1 | refine below_set ?_ GE310.out | refine below_set ?_ GE341.out | refine below_set ?_ GE364.out) | exact HB.out)⟩⟩
                    · rw [if_neg c75] at H
                      exact absurd H (by simp)
                  · rw [if_neg c74] at H
                    have c74b0 : decide (x15_3 < (l2.length : Int)) = false := decide_eq_false c74
                    clear c74
                    replace H := Option.bind_eq_some_iff.mp H
                    obtain ⟨⟨t370, t371⟩, A780, H⟩ := H
                    replace H : (if x13_3.toList = t370.toList then (if (x14_3 == t371) = true then ((rev_Live.f k3 t345 t346 t347 t348 t349 t350 t351 t354 t357 t360).bind fun t372 => ((key_Whole.f).bind fun bt373 => ((rev_Pairs.f k3 t345 t346 t347 t348 t349 t350 t351 t354 t357 t360 bt373.1 bt373.2.1 bt373.2.2 1000).bind fun t376 => (some (t372 == (t376.length : Int)))))) else (some false)) else (some false)) = some r := H
                    have A78 := Aside0.mk A780
                    clear A780
                    by_cases c79 : x13_3.toList = t370.toList
                    · rw [if_pos c79] at H
                      have c79b0 : (x13_3.toList == t370.toList) = true := beq_iff_eq.mpr c79
                      have c79b1 : (x13_3.toList != t370.toList) = false := bne_eq_false_iff_eq.mpr c79
                      clear c79
                      by_cases c80 : (x14_3 == t371) = true
                      · rw [if_pos c80] at H
                        have c80b0 : (x14_3 == t371) = true := c80
                        (try (have c80b1 : decide (x14_3 = t371) = true := by simpa using c80))
                        (try (have c80b2 : (x14_3 == t371) = true := by simpa using c80))
                        clear c80
                        replace H := Option.bind_eq_some_iff.mp H
                        obtain ⟨t372, A810, H⟩ := H
                        replace H : ((key_Whole.f).bind fun bt373 => ((rev_Pairs.f k3 t345 t346 t347 t348 t349 t350 t351 t354 t357 t360 bt373.1 bt373.2.1 bt373.2.2 1000).bind fun t376 => (some (t372 == (t376.length : Int))))) = some r := H
                        have A81 := Aside0.mk A810
                        clear A810
                        replace H := Option.bind_eq_some_iff.mp H
                        obtain ⟨⟨t373, t374, t375⟩, A820, H⟩ := H
                        replace H : ((rev_Pairs.f k3 t345 t346 t347 t348 t349 t350 t351 t354 t357 t360 t373 t374 t375 1000).bind fun t376 => (some (t372 == (t376.length : Int)))) = some r := H
                        have A82 := Aside0.mk A820
                        clear A820
                        replace H := Option.bind_eq_some_iff.mp H
                        obtain ⟨t376, A830, H⟩ := H
                        replace H : (some (t372 == (t376.length : Int))) = some r := H
                        have A83 := Aside0.mk A830
                        clear A830
                        obtain rfl := Option.some.inj H
                        have hnb84 := NB364_310.out
                        have hnc84 := NB310_364.out
                        have hnb85 := NB364_341.out
                        have hnc85 := NB341_364.out
                        have hcz86_0 : wr.cell? ⟨gb364, 0, none⟩ = some (.int .i64 t345) := (blk_cell BK364.out 0).trans rfl
                        have hcz86_1 : wr.cell? ⟨gb364, 1, none⟩ = some (.int .i64 t346) := (blk_cell BK364.out 1).trans rfl
                        have hcz86_2 : wr.cell? ⟨gb364, 2, none⟩ = some (.string t347) := (blk_cell BK364.out 2).trans rfl
                        have hcz86_3 : wr.cell? ⟨gb364, 3, none⟩ = some (.string t348) := (blk_cell BK364.out 3).trans rfl
                        have hcz86_4 : wr.cell? ⟨gb364, 4, none⟩ = some (.bool t349) := (blk_cell BK364.out 4).trans rfl
                        have hcz86_5 : wr.cell? ⟨gb364, 5, none⟩ = some (.bool t350) := (blk_cell BK364.out 5).trans rfl
                        have hcz86_6 : wr.cell? ⟨gb364, 6, none⟩ = some (.slice Ao58 t351.length co58) := (blk_cell BK364.out 6).trans rfl
                        have hcz86_7 : wr.cell? ⟨gb364, 7, none⟩ = some (.slice Ao60 t354.length co60) := (blk_cell BK364.out 7).trans rfl
                        have hcz86_8 : wr.cell? ⟨gb364, 8, none⟩ = some (.slice Ao62 t357.length co62) := (blk_cell BK364.out 8).trans rfl
                        have hcz86_9 : wr.cell? ⟨gb364, 9, none⟩ = some (.slice Ao64 t360.length co64) := (blk_cell BK364.out 9).trans rfl
                        have hfz86_0 := blk_frozen BK364.out 0
                        have hfz86_1 := blk_frozen BK364.out 1
                        have hfz86_2 := blk_frozen BK364.out 2
                        have hfz86_3 := blk_frozen BK364.out 3
                        have hfz86_4 := blk_frozen BK364.out 4
                        have hfz86_5 := blk_frozen BK364.out 5
                        have hfz86_6 := blk_frozen BK364.out 6
                        have hfz86_7 := blk_frozen BK364.out 7
                        have hfz86_8 := blk_frozen BK364.out 8
                        have hfz86_9 := blk_frozen BK364.out 9
                        try go_wp2_with (first | ((with_reducible refine gate_callee (f := 24) rfl ?_); refine goesL_ (some 101) rfl rfl Try.func24 (by kernel_rfl) rfl #[.agg #[.int .i64 t345, .int .i64 t346, .string t347, .string t348, .bool t349, .bool t350, .slice Ao58 t351.length co58, .slice Ao60 t354.length co60, .slice Ao62 t357.length co62, .slice Ao64 t360.length co64], .string a3] rfl (by (try simp only [List.map_toArray, List.map_cons, List.map_nil]); first | done | rfl | (simp only [List.length_drop, List.length_take]; rfl)) ?_; (with_reducible refine (rev_Get.calls k3 t345 t346 t347 t348 t349 t350 _ _ t351 _ _ t354 _ _ t357 _ _ t360 a3 t370 t371 _ ?side1 ?side2 ?side3 ?side4 ?side5 ?side6 ?side7 ?side8 A78.out).mono ?_); (case side1 => repeat (first | exact (Kd.R_reads' HO_365006.out).2.2 | (with_reducible refine Kd.C_alloc ?_ _) | (with_reducible refine Kd.C_drewN ?_ _) | (with_reducible refine Kd.C_drew ?_))); (case side2 => exact (Kd.R_reads' HO_365006.out).2.1); (case side3 => repeat (first | exact (Kd.R_reads' HO_365007.out).2.2 | (with_reducible refine Kd.C_alloc ?_ _) | (with_reducible refine Kd.C_drewN ?_ _) | (with_reducible refine Kd.C_drew ?_))); (case side4 => exact (Kd.R_reads' HO_365007.out).2.1); (case side5 => repeat (first | exact (Kd.R_reads' HO_365008.out).2.2 | (with_reducible refine Kd.C_alloc ?_ _) | (with_reducible refine Kd.C_drewN ?_ _) | (with_reducible refine Kd.C_drew ?_))); (case side6 => exact (Kd.R_reads' HO_365008.out).2.1); (case side7 => repeat (first | exact (Kd.R_reads' HO_365009.out).2.2 | (with_reducible refine Kd.C_alloc ?_ _) | (with_reducible refine Kd.C_drewN ?_ _) | (with_reducible refine Kd.C_drew ?_))); (case side8 => exact (Kd.R_reads' HO_365009.out).2.1); rintro e w87 ⟨rfl, hb⟩; refine ⟨_, rfl, ?_⟩; have n0_ := Aside0.mk (Kd.R_below (by (with_reducible repeat (first | apply Kd.R_alloc | apply Kd.R_drewN | apply Kd.R_drew)); exact HO_342006.out) hb); have n1_ := Aside0.mk (Kd.R_below (by (with_reducible repeat (first | apply Kd.R_alloc | apply Kd.R_drewN | apply Kd.R_drew)); exact HO_342007.out) hb); have n2_ := Aside0.mk (Kd.R_below (by (with_reducible repeat (first | apply Kd.R_alloc | apply Kd.R_drewN | apply Kd.R_drew)); exact HO_342008.out) hb); have n3_ := Aside0.mk (Kd.R_below (by (with_reducible repeat (first | apply Kd.R_alloc | apply Kd.R_drewN | apply Kd.R_drew)); exact HO_342009.out) hb); have n4_ := Aside0.mk (Kd.R_below (by (with_reducible repeat (first | apply Kd.R_alloc | apply Kd.R_drewN | apply Kd.R_drew)); exact HO_365006.out) hb); have n5_ := Aside0.mk (Kd.R_below (by (with_reducible repeat (first | apply Kd.R_alloc | apply Kd.R_drewN | apply Kd.R_drew)); exact HO_365007.out) hb); have n6_ := Aside0.mk (Kd.R_below (by (with_reducible repeat (first | apply Kd.R_alloc | apply Kd.R_drewN | apply Kd.R_drew)); exact HO_365008.out) hb); have n7_ := Aside0.mk (Kd.R_below (by (with_reducible repeat (first | apply Kd.R_alloc | apply Kd.R_drewN | apply Kd.R_drew)); exact HO_365009.out) hb); have n8_ := Aside0.mk (blk_below (g := gb310) (o := .cells #[.string a0_0, .string a0_1, .bool a0_2] 23 (0, 0)) (by (with_reducible repeat (first | refine blk_drewN ?_ _ | refine blk_drew ?_ | refine blk_alloc ?_ _)); exact BK310.out) hb); have n9_ := Aside0.mk (blk_below (g := gb341) (o := .cells #[.int .i64 t322, .int .i64 t323, .string t324, .string t325, .bool t326, .bool t327, .slice Ao41 t328.length co41, .slice Ao42 t331.length co42, .slice Ao43 t334.length co43, .slice Ao44 t337.length co44] 37 (0, 0)) (by (with_reducible repeat (first | refine blk_drewN ?_ _ | refine blk_drew ?_ | refine blk_alloc ?_ _)); exact BK341.out) hb); have n10_ := Aside0.mk (blk_below (g := gb364) (o := .cells #[.int .i64 t345, .int .i64 t346, .string t347, .string t348, .bool t349, .bool t350, .slice Ao58 t351.length co58, .slice Ao60 t354.length co60, .slice Ao62 t357.length co62, .slice Ao64 t360.length co64] 37 (0, 0)) (by (with_reducible repeat (first | refine blk_drewN ?_ _ | refine blk_drew ?_ | refine blk_alloc ?_ _)); exact BK364.out) hb); have n11_ := Aside0.mk (below_step (by repeat (first | (with_reducible first | exact HB.out | apply below_alloc | apply pw_below_drewN | apply below_drew1 | refine below_set ?_ GE310.out | refine below_set ?_ GE341.out | refine below_set ?_ GE364.out) | exact HB.out)) hb); clear HO_342006; clear HO_342007; clear HO_342008; clear HO_342009; clear HO_365006; clear HO_365007; clear HO_365008; clear HO_365009; clear BK310; clear BK341; clear BK364; clear HB; have HO_342006 := n0_; have HO_342007 := n1_; have HO_342008 := n2_; have HO_342009 := n3_; have HO_365006 := n4_; have HO_365007 := n5_; have HO_365008 := n6_; have HO_365009 := n7_; have BK310 := n8_; have BK341 := n9_; have BK364 := n10_; have HB := n11_; clear n0_ n1_ n2_ n3_ n4_ n5_ n6_ n7_ n8_ n9_ n10_ n11_; (try clear hb); (try clear hb2); (try clear hk); (try clear hi)))
                        have n0_ := Aside0.mk (Kd.R_drew HO_342006.out)
                        have n1_ := Aside0.mk (Kd.R_drew HO_342007.out)
                        have n2_ := Aside0.mk (Kd.R_drew HO_342008.out)
                        have n3_ := Aside0.mk (Kd.R_drew HO_342009.out)
                        have n4_ := Aside0.mk (Kd.R_drew HO_365006.out)
                        have n5_ := Aside0.mk (Kd.R_drew HO_365007.out)
                        have n6_ := Aside0.mk (Kd.R_drew HO_365008.out)
                        have n7_ := Aside0.mk (Kd.R_drew HO_365009.out)
                        have n8_ := Aside0.mk (blk_drew BK310.out)
                        have n9_ := Aside0.mk (blk_drew BK341.out)
                        have n10_ := Aside0.mk (blk_drew BK364.out)
                        have n11_ := Aside0.mk (below_drew1 HB.out)
                        clear HO_342006
                        clear HO_342007
                        clear HO_342008
                        clear HO_342009
                        clear HO_365006
                        clear HO_365007
                        clear HO_365008
                        clear HO_365009
                        clear BK310
                        clear BK341
                        clear BK364
                        clear HB
                        have HO_342006 := n0_
                        have HO_342007 := n1_
                        have HO_342008 := n2_
                        have HO_342009 := n3_
                        have HO_365006 := n4_
                        have HO_365007 := n5_
                        have HO_365008 := n6_
                        have HO_365009 := n7_
                        have BK310 := n8_
                        have BK341 := n9_
                        have BK364 := n10_
                        have HB := n11_
                        clear n0_ n1_ n2_ n3_ n4_ n5_ n6_ n7_ n8_ n9_ n10_ n11_
                        refine start_ (n := 18) (S := fun w' => w'.cell? ⟨gb364, 0, none⟩ = some (.int .i64 t345) ∧ w'.cell? ⟨gb364, 1, none⟩ = some (.int .i64 t346) ∧ w'.cell? ⟨gb364, 2, none⟩ = some (.string t347) ∧ w'.cell? ⟨gb364, 3, none⟩ = some (.string t348) ∧ w'.cell? ⟨gb364, 4, none⟩ = some (.bool t349) ∧ w'.cell? ⟨gb364, 5, none⟩ = some (.bool t350) ∧ w'.cell? ⟨gb364, 6, none⟩ = some (.slice Ao58 t351.length co58) ∧ w'.cell? ⟨gb364, 7, none⟩ = some (.slice Ao60 t354.length co60) ∧ w'.cell? ⟨gb364, 8, none⟩ = some (.slice Ao62 t357.length co62) ∧ w'.cell? ⟨gb364, 9, none⟩ = some (.slice Ao64 t360.length co64)) (ds := []) #[false, false, false, false, false, false, false, false, false, false, false, false, false, false, false, false, false, false] (by kernel_rfl) rfl rfl ⟨(blk_cell BK364.out 0).trans rfl, (blk_cell BK364.out 1).trans rfl, (blk_cell BK364.out 2).trans rfl, (blk_cell BK364.out 3).trans rfl, (blk_cell BK364.out 4).trans rfl, (blk_cell BK364.out 5).trans rfl, (blk_cell BK364.out 6).trans rfl, (blk_cell BK364.out 7).trans rfl, (blk_cell BK364.out 8).trans rfl, (blk_cell BK364.out 9).trans rfl⟩ (fun hHeld => ?_); refine with_tabW rundlelaw08_RevChanges.tab14 rundlelaw08_RevChanges.bits14 (fun HT_ HW_ => ?_)
                        generalize w87.drew = w88 at HO_342006 HO_342007 HO_342008 HO_342009 HO_365006 HO_365007 HO_365008 HO_365009 BK310 BK341 BK364 HB hHeld ⊢
                        refine pure_ (i := 0) (N := some 104) (v := ?_) (a' := ?_) #[true, false, false, false, false, false, false, false, false, false, false, false, false, false, false, false, false, false] rfl rfl (any_of HT_.out (by kernel_rfl)) (fun _ _ _ h => h) (Or.inl ⟨by rfl, ?_⟩) ?_ ?_
                        rotate_left
                        · intro w'
                          go_simp
                          with_reducible rfl
                        rotate_left
                        · simp only [Act.put, List.setIfInBounds_toArray, List.set_cons_zero, List.set_cons_succ, i64_w, i32_w]
                          rfl
                        refine pure_ (i := 1) (N := some 105) (v := ?_) (a' := ?_) #[true, true, false, false, false, false, false, false, false, false, false, false, false, false, false, false, false, false] rfl rfl (any_of HT_.out (by kernel_rfl)) (fun _ _ _ h => h) (Or.inl ⟨by rfl, ?_⟩) ?_ ?_
                        rotate_left
                        · intro w'
                          go_simp
                          with_reducible rfl
                        rotate_left
                        · simp only [Act.put, List.setIfInBounds_toArray, List.set_cons_zero, List.set_cons_succ, i64_w, i32_w]
                          rfl
                        refine pure_ (i := 2) (N := some 106) (v := ?_) (a' := ?_) #[true, true, true, false, false, false, false, false, false, false, false, false, false, false, false, false, false, false] rfl rfl (any_of HT_.out (by kernel_rfl)) (fun _ _ _ h => h) (Or.inl ⟨by rfl, ?_⟩) ?_ ?_
                        rotate_left
                        · intro w'
                          go_simp
                          with_reducible rfl
                        rotate_left
                        · simp only [Act.put, List.setIfInBounds_toArray, List.set_cons_zero, List.set_cons_succ, i64_w, i32_w]
                          rfl
                        refine pure_ (i := 3) (N := some 107) (v := ?_) (a' := ?_) #[true, true, true, true, false, false, false, false, false, false, false, false, false, false, false, false, false, false] rfl rfl (any_of HT_.out (by kernel_rfl)) (fun _ _ _ h => h) (Or.inl ⟨by rfl, ?_⟩) ?_ ?_
                        rotate_left
                        · intro w'
                          go_simp
                          with_reducible rfl
                        rotate_left
                        · simp only [Act.put, List.setIfInBounds_toArray, List.set_cons_zero, List.set_cons_succ, i64_w, i32_w]
                          rfl
                        refine pure_ (i := 4) (N := some 108) (v := ?_) (a' := ?_) #[true, true, true, true, true, false, false, false, false, false, false, false, false, false, false, false, false, false] rfl rfl (any_of HT_.out (by kernel_rfl)) (fun _ _ _ h => h) (Or.inl ⟨by rfl, ?_⟩) ?_ ?_
                        rotate_left
                        · intro w'
                          go_simp
                          with_reducible rfl
                        rotate_left
                        · simp only [Act.put, List.setIfInBounds_toArray, List.set_cons_zero, List.set_cons_succ, i64_w, i32_w]
                          rfl
                        refine pure_ (i := 5) (N := some 109) (v := ?_) (a' := ?_) #[true, true, true, true, true, true, false, false, false, false, false, false, false, false, false, false, false, false] rfl rfl (any_of HT_.out (by kernel_rfl)) (fun _ _ _ h => h) (Or.inl ⟨by rfl, ?_⟩) ?_ ?_
                        rotate_left
                        · intro w'
                          go_simp
                          with_reducible rfl
                        rotate_left
                        · simp only [Act.put, List.setIfInBounds_toArray, List.set_cons_zero, List.set_cons_succ, i64_w, i32_w]
                          rfl
                        refine pure_ (i := 6) (N := some 110) (v := ?_) (a' := ?_) #[true, true, true, true, true, true, true, false, false, false, false, false, false, false, false, false, false, false] rfl rfl (any_of HT_.out (by kernel_rfl)) (fun _ _ _ h => h) (Or.inl ⟨by rfl, ?_⟩) ?_ ?_
                        rotate_left
                        · intro w'
                          go_simp
                          with_reducible rfl
                        rotate_left
                        · simp only [Act.put, List.setIfInBounds_toArray, List.set_cons_zero, List.set_cons_succ, i64_w, i32_w]
                          rfl
                        refine pure_ (i := 7) (N := some 111) (v := ?_) (a' := ?_) #[true, true, true, true, true, true, true, true, false, false, false, false, false, false, false, false, false, false] rfl rfl (any_of HT_.out (by kernel_rfl)) (fun _ _ _ h => h) (Or.inl ⟨by rfl, ?_⟩) ?_ ?_
                        rotate_left
                        · intro w'
                          go_simp
                          with_reducible rfl
                        rotate_left
                        · simp only [Act.put, List.setIfInBounds_toArray, List.set_cons_zero, List.set_cons_succ, i64_w, i32_w]
                          rfl
                        refine pure_ (i := 8) (N := some 112) (v := ?_) (a' := ?_) #[true, true, true, true, true, true, true, true, true, false, false, false, false, false, false, false, false, false] rfl rfl (any_of HT_.out (by kernel_rfl)) (fun _ _ _ h => h) (Or.inl ⟨by rfl, ?_⟩) ?_ ?_
                        rotate_left
                        · intro w'
                          go_simp
                          with_reducible rfl
                        rotate_left
                        · simp only [Act.put, List.setIfInBounds_toArray, List.set_cons_zero, List.set_cons_succ, i64_w, i32_w]
                          rfl
                        refine take_ (i := 9) (N := some 113) (v := ?_) (a' := ?_) #[true, true, true, true, true, true, true, true, true, true, false, false, false, false, false, false, false, false] rfl rfl (take_ofW HT_.out HW_.out (by kernel_rfl)) (fun _ _ _ h => h) (Or.inl ⟨by rfl, ?_⟩) hHeld ?_ ?_
                        rotate_left
                        · rintro w' ⟨s0, s1, s2, s3, s4, s5, s6, s7, s8, s9⟩
                          go_simp
                          with_reducible rfl
                        rotate_left
                        · simp only [Act.put, List.setIfInBounds_toArray, List.set_cons_zero, List.set_cons_succ, i64_w, i32_w]
                          rfl
                        refine take_ (i := 11) (N := some 115) (v := ?_) (a' := ?_) #[true, true, true, true, true, true, true, true, true, true, false, true, false, false, false, false, false, false] rfl rfl (take_ofW HT_.out HW_.out (by kernel_rfl)) (fun _ _ _ h => h) (Or.inl ⟨by rfl, ?_⟩) hHeld ?_ ?_
                        rotate_left
                        · rintro w' ⟨s0, s1, s2, s3, s4, s5, s6, s7, s8, s9⟩
                          go_simp
                          with_reducible rfl
                        rotate_left
                        · simp only [Act.put, List.setIfInBounds_toArray, List.set_cons_zero, List.set_cons_succ, i64_w, i32_w]
                          rfl
                        refine one_ (i := 10) (N := some 114) #[true, true, true, true, true, true, true, true, true, true, true, true, false, false, false, false, false, false] rfl rfl (one_of HT_.out (by kernel_rfl)) (by decide) (fun K hK => ?_)
                        refine goes_ Try.func26 (by kernel_rfl) rfl #[.agg #[.int .i64 t345, .int .i64 t346, .string t347, .string t348, .bool t349, .bool t350, .slice Ao58 t351.length co58, .slice Ao60 t354.length co60, .slice Ao62 t357.length co62, .slice Ao64 t360.length co64]] (by rfl) rfl rfl (by (try simp only [List.map_toArray, List.map_cons, List.map_nil]); first | done | rfl | (simp only [List.length_drop, List.length_take]; rfl)) ?_
                        with_reducible refine (rev_Live.calls k3 t345 t346 t347 t348 t349 t350 _ _ t351 _ _ t354 _ _ t357 _ _ t360 t372 _ ?side1 ?side2 ?side3 ?side4 ?side5 ?side6 ?side7 ?side8 A81.out).mono ?_
                        (case side1 => repeat (first | exact (Kd.R_reads' HO_365006.out).2.2 | (with_reducible refine Kd.C_alloc ?_ _) | (with_reducible refine Kd.C_drewN ?_ _) | (with_reducible refine Kd.C_drew ?_)))
                        (case side2 => exact (Kd.R_reads' HO_365006.out).2.1)
                        (case side3 => repeat (first | exact (Kd.R_reads' HO_365007.out).2.2 | (with_reducible refine Kd.C_alloc ?_ _) | (with_reducible refine Kd.C_drewN ?_ _) | (with_reducible refine Kd.C_drew ?_)))
                        (case side4 => exact (Kd.R_reads' HO_365007.out).2.1)
                        (case side5 => repeat (first | exact (Kd.R_reads' HO_365008.out).2.2 | (with_reducible refine Kd.C_alloc ?_ _) | (with_reducible refine Kd.C_drewN ?_ _) | (with_reducible refine Kd.C_drew ?_)))
                        (case side6 => exact (Kd.R_reads' HO_365008.out).2.1)
                        (case side7 => repeat (first | exact (Kd.R_reads' HO_365009.out).2.2 | (with_reducible refine Kd.C_alloc ?_ _) | (with_reducible refine Kd.C_drewN ?_ _) | (with_reducible refine Kd.C_drew ?_)))
                        (case side8 => exact (Kd.R_reads' HO_365009.out).2.1)
                        rintro e w89 ⟨rfl, hb⟩
                        refine ⟨_, rfl, ?_⟩
                        have n0_ := Aside0.mk (Kd.R_below (by (with_reducible repeat (first | apply Kd.R_alloc | apply Kd.R_drewN | apply Kd.R_drew)); exact HO_342006.out) hb)
                        have n1_ := Aside0.mk (Kd.R_below (by (with_reducible repeat (first | apply Kd.R_alloc | apply Kd.R_drewN | apply Kd.R_drew)); exact HO_342007.out) hb)
                        have n2_ := Aside0.mk (Kd.R_below (by (with_reducible repeat (first | apply Kd.R_alloc | apply Kd.R_drewN | apply Kd.R_drew)); exact HO_342008.out) hb)
                        have n3_ := Aside0.mk (Kd.R_below (by (with_reducible repeat (first | apply Kd.R_alloc | apply Kd.R_drewN | apply Kd.R_drew)); exact HO_342009.out) hb)
                        have n4_ := Aside0.mk (Kd.R_below (by (with_reducible repeat (first | apply Kd.R_alloc | apply Kd.R_drewN | apply Kd.R_drew)); exact HO_365006.out) hb)
                        have n5_ := Aside0.mk (Kd.R_below (by (with_reducible repeat (first | apply Kd.R_alloc | apply Kd.R_drewN | apply Kd.R_drew)); exact HO_365007.out) hb)
                        have n6_ := Aside0.mk (Kd.R_below (by (with_reducible repeat (first | apply Kd.R_alloc | apply Kd.R_drewN | apply Kd.R_drew)); exact HO_365008.out) hb)
                        have n7_ := Aside0.mk (Kd.R_below (by (with_reducible repeat (first | apply Kd.R_alloc | apply Kd.R_drewN | apply Kd.R_drew)); exact HO_365009.out) hb)
                        have n8_ := Aside0.mk (blk_below (g := gb310) (o := .cells #[.string a0_0, .string a0_1, .bool a0_2] 23 (0, 0)) (by (with_reducible repeat (first | refine blk_drewN ?_ _ | refine blk_drew ?_ | refine blk_alloc ?_ _)); exact BK310.out) hb)
                        have n9_ := Aside0.mk (blk_below (g := gb341) (o := .cells #[.int .i64 t322, .int .i64 t323, .string t324, .string t325, .bool t326, .bool t327, .slice Ao41 t328.length co41, .slice Ao42 t331.length co42, .slice Ao43 t334.length co43, .slice Ao44 t337.length co44] 37 (0, 0)) (by (with_reducible repeat (first | refine blk_drewN ?_ _ | refine blk_drew ?_ | refine blk_alloc ?_ _)); exact BK341.out) hb)
                        have n10_ := Aside0.mk (blk_below (g := gb364) (o := .cells #[.int .i64 t345, .int .i64 t346, .string t347, .string t348, .bool t349, .bool t350, .slice Ao58 t351.length co58, .slice Ao60 t354.length co60, .slice Ao62 t357.length co62, .slice Ao64 t360.length co64] 37 (0, 0)) (by (with_reducible repeat (first | refine blk_drewN ?_ _ | refine blk_drew ?_ | refine blk_alloc ?_ _)); exact BK364.out) hb)
                        have n11_ := Aside0.mk (below_step (by repeat (first | (with_reducible first | exact HB.out | apply below_alloc | apply pw_below_drewN | apply below_drew1 | refine below_set ?_ GE310.out | refine below_set ?_ GE341.out | refine below_set ?_ GE364.out) | exact HB.out)) hb)
                        clear HO_342006
                        clear HO_342007
                        clear HO_342008
                        clear HO_342009
                        clear HO_365006
                        clear HO_365007
                        clear HO_365008
                        clear HO_365009
                        clear BK310
                        clear BK341
                        clear BK364
                        clear HB
                        have HO_342006 := n0_
                        have HO_342007 := n1_
                        have HO_342008 := n2_
                        have HO_342009 := n3_
                        have HO_365006 := n4_
                        have HO_365007 := n5_
                        have HO_365008 := n6_
                        have HO_365009 := n7_
                        have BK310 := n8_
                        have BK341 := n9_
                        have BK364 := n10_
                        have HB := n11_
                        clear n0_ n1_ n2_ n3_ n4_ n5_ n6_ n7_ n8_ n9_ n10_ n11_
                        (try clear hb)
                        (try clear hb2)
                        (try clear hk)
                        (try clear hi)
                        refine hK.out _ _ ⟨(blk_cell BK364.out 0).trans rfl, (blk_cell BK364.out 1).trans rfl, (blk_cell BK364.out 2).trans rfl, (blk_cell BK364.out 3).trans rfl, (blk_cell BK364.out 4).trans rfl, (blk_cell BK364.out 5).trans rfl, (blk_cell BK364.out 6).trans rfl, (blk_cell BK364.out 7).trans rfl, (blk_cell BK364.out 8).trans rfl, (blk_cell BK364.out 9).trans rfl⟩ (fun hHeld => ?_)
                        clear hK K
                        refine norm_ (a' := ?_) ?_ ?_
                        rotate_left
                        · show Act.put _ (some 114) _ = _
                          simp only [Act.put, List.setIfInBounds_toArray, List.set_cons_zero, List.set_cons_succ, i64_w, i32_w]
                          rfl
                        refine one_ (i := 12) (N := some 116) #[true, true, true, true, true, true, true, true, true, true, true, true, true, false, false, false, false, false] rfl rfl (one_of HT_.out (by kernel_rfl)) (by decide) (fun K hK => ?_)
                        refine goes_ Try.func31 (by kernel_rfl) rfl #[] (by rfl) rfl rfl (by (try simp only [List.map_toArray, List.map_cons, List.map_nil]); first | done | rfl | (simp only [List.length_drop, List.length_take]; rfl)) ?_
                        with_reducible refine (key_Whole.calls  t373 t374 t375 _ A82.out).mono ?_
                        rintro e w90 ⟨rfl, hb⟩
                        refine ⟨_, rfl, ?_⟩
                        have n0_ := Aside0.mk (Kd.R_below (by (with_reducible repeat (first | apply Kd.R_alloc | apply Kd.R_drewN | apply Kd.R_drew)); exact HO_342006.out) hb)
                        have n1_ := Aside0.mk (Kd.R_below (by (with_reducible repeat (first | apply Kd.R_alloc | apply Kd.R_drewN | apply Kd.R_drew)); exact HO_342007.out) hb)
                        have n2_ := Aside0.mk (Kd.R_below (by (with_reducible repeat (first | apply Kd.R_alloc | apply Kd.R_drewN | apply Kd.R_drew)); exact HO_342008.out) hb)
                        have n3_ := Aside0.mk (Kd.R_below (by (with_reducible repeat (first | apply Kd.R_alloc | apply Kd.R_drewN | apply Kd.R_drew)); exact HO_342009.out) hb)
                        have n4_ := Aside0.mk (Kd.R_below (by (with_reducible repeat (first | apply Kd.R_alloc | apply Kd.R_drewN | apply Kd.R_drew)); exact HO_365006.out) hb)
                        have n5_ := Aside0.mk (Kd.R_below (by (with_reducible repeat (first | apply Kd.R_alloc | apply Kd.R_drewN | apply Kd.R_drew)); exact HO_365007.out) hb)
                        have n6_ := Aside0.mk (Kd.R_below (by (with_reducible repeat (first | apply Kd.R_alloc | apply Kd.R_drewN | apply Kd.R_drew)); exact HO_365008.out) hb)
                        have n7_ := Aside0.mk (Kd.R_below (by (with_reducible repeat (first | apply Kd.R_alloc | apply Kd.R_drewN | apply Kd.R_drew)); exact HO_365009.out) hb)
                        have n8_ := Aside0.mk (blk_below (g := gb310) (o := .cells #[.string a0_0, .string a0_1, .bool a0_2] 23 (0, 0)) (by (with_reducible repeat (first | refine blk_drewN ?_ _ | refine blk_drew ?_ | refine blk_alloc ?_ _)); exact BK310.out) hb)
                        have n9_ := Aside0.mk (blk_below (g := gb341) (o := .cells #[.int .i64 t322, .int .i64 t323, .string t324, .string t325, .bool t326, .bool t327, .slice Ao41 t328.length co41, .slice Ao42 t331.length co42, .slice Ao43 t334.length co43, .slice Ao44 t337.length co44] 37 (0, 0)) (by (with_reducible repeat (first | refine blk_drewN ?_ _ | refine blk_drew ?_ | refine blk_alloc ?_ _)); exact BK341.out) hb)
                        have n10_ := Aside0.mk (blk_below (g := gb364) (o := .cells #[.int .i64 t345, .int .i64 t346, .string t347, .string t348, .bool t349, .bool t350, .slice Ao58 t351.length co58, .slice Ao60 t354.length co60, .slice Ao62 t357.length co62, .slice Ao64 t360.length co64] 37 (0, 0)) (by (with_reducible repeat (first | refine blk_drewN ?_ _ | refine blk_drew ?_ | refine blk_alloc ?_ _)); exact BK364.out) hb)
                        have n11_ := Aside0.mk (below_step (by repeat (first | (with_reducible first | exact HB.out | apply below_alloc | apply pw_below_drewN | apply below_drew1 | refine below_set ?_ GE310.out | refine below_set ?_ GE341.out | refine below_set ?_ GE364.out) | exact HB.out)) hb)
                        clear HO_342006
                        clear HO_342007
                        clear HO_342008
                        clear HO_342009
                        clear HO_365006
                        clear HO_365007
                        clear HO_365008
                        clear HO_365009
                        clear BK310
                        clear BK341
                        clear BK364
                        clear HB
                        have HO_342006 := n0_
                        have HO_342007 := n1_
                        have HO_342008 := n2_
                        have HO_342009 := n3_
                        have HO_365006 := n4_
                        have HO_365007 := n5_
                        have HO_365008 := n6_
                        have HO_365009 := n7_
                        have BK310 := n8_
                        have BK341 := n9_
                        have BK364 := n10_
                        have HB := n11_
                        clear n0_ n1_ n2_ n3_ n4_ n5_ n6_ n7_ n8_ n9_ n10_ n11_
                        (try clear hb)
                        (try clear hb2)
                        (try clear hk)
                        (try clear hi)
                        refine hK.out _ _ ⟨(blk_cell BK364.out 0).trans rfl, (blk_cell BK364.out 1).trans rfl, (blk_cell BK364.out 2).trans rfl, (blk_cell BK364.out 3).trans rfl, (blk_cell BK364.out 4).trans rfl, (blk_cell BK364.out 5).trans rfl, (blk_cell BK364.out 6).trans rfl, (blk_cell BK364.out 7).trans rfl, (blk_cell BK364.out 8).trans rfl, (blk_cell BK364.out 9).trans rfl⟩ (fun hHeld => ?_)
                        clear hK K
                        refine norm_ (a' := ?_) ?_ ?_
                        rotate_left
                        · show Act.put _ (some 116) _ = _
                          simp only [Act.put, List.setIfInBounds_toArray, List.set_cons_zero, List.set_cons_succ, i64_w, i32_w]
                          rfl
                        refine one_ (i := 13) (N := some 117) #[true, true, true, true, true, true, true, true, true, true, true, true, true, true, false, false, false, false] rfl rfl (one_of HT_.out (by kernel_rfl)) (by decide) (fun K hK => ?_)
                        refine goes_ Try.func29 (by kernel_rfl) rfl #[.agg #[.int .i64 t345, .int .i64 t346, .string t347, .string t348, .bool t349, .bool t350, .slice Ao58 t351.length co58, .slice Ao60 t354.length co60, .slice Ao62 t357.length co62, .slice Ao64 t360.length co64], .agg #[.string t373, .string t374, .bool t375], .int .i64 1000] (by rfl) rfl rfl (by (try simp only [List.map_toArray, List.map_cons, List.map_nil]); first | done | rfl | (simp only [List.length_drop, List.length_take]; rfl)) ?_
                        with_reducible refine (rev_Pairs.calls k3 t345 t346 t347 t348 t349 t350 _ _ t351 _ _ t354 _ _ t357 _ _ t360 t373 t374 t375 1000 t376 _ ?side1 ?side2 ?side3 ?side4 ?side5 ?side6 ?side7 ?side8 A83.out).mono ?_
                        (case side1 => repeat (first | exact (Kd.R_reads' HO_365006.out).2.2 | (with_reducible refine Kd.C_alloc ?_ _) | (with_reducible refine Kd.C_drewN ?_ _) | (with_reducible refine Kd.C_drew ?_)))
                        (case side2 => exact (Kd.R_reads' HO_365006.out).2.1)
                        (case side3 => repeat (first | exact (Kd.R_reads' HO_365007.out).2.2 | (with_reducible refine Kd.C_alloc ?_ _) | (with_reducible refine Kd.C_drewN ?_ _) | (with_reducible refine Kd.C_drew ?_)))
                        (case side4 => exact (Kd.R_reads' HO_365007.out).2.1)
                        (case side5 => repeat (first | exact (Kd.R_reads' HO_365008.out).2.2 | (with_reducible refine Kd.C_alloc ?_ _) | (with_reducible refine Kd.C_drewN ?_ _) | (with_reducible refine Kd.C_drew ?_)))
                        (case side6 => exact (Kd.R_reads' HO_365008.out).2.1)
                        (case side7 => repeat (first | exact (Kd.R_reads' HO_365009.out).2.2 | (with_reducible refine Kd.C_alloc ?_ _) | (with_reducible refine Kd.C_drewN ?_ _) | (with_reducible refine Kd.C_drew ?_)))
                        (case side8 => exact (Kd.R_reads' HO_365009.out).2.1)
                        rintro e w91 ⟨v377, rfl, ho0, hb⟩
                        refine ⟨_, rfl, ?_⟩
                        have n0_ := Aside0.mk (Kd.R_below (by (with_reducible repeat (first | apply Kd.R_alloc | apply Kd.R_drewN | apply Kd.R_drew)); exact HO_342006.out) hb)
                        have n1_ := Aside0.mk (Kd.R_below (by (with_reducible repeat (first | apply Kd.R_alloc | apply Kd.R_drewN | apply Kd.R_drew)); exact HO_342007.out) hb)
                        have n2_ := Aside0.mk (Kd.R_below (by (with_reducible repeat (first | apply Kd.R_alloc | apply Kd.R_drewN | apply Kd.R_drew)); exact HO_342008.out) hb)
                        have n3_ := Aside0.mk (Kd.R_below (by (with_reducible repeat (first | apply Kd.R_alloc | apply Kd.R_drewN | apply Kd.R_drew)); exact HO_342009.out) hb)
                        have n4_ := Aside0.mk (Kd.R_below (by (with_reducible repeat (first | apply Kd.R_alloc | apply Kd.R_drewN | apply Kd.R_drew)); exact HO_365006.out) hb)
                        have n5_ := Aside0.mk (Kd.R_below (by (with_reducible repeat (first | apply Kd.R_alloc | apply Kd.R_drewN | apply Kd.R_drew)); exact HO_365007.out) hb)
                        have n6_ := Aside0.mk (Kd.R_below (by (with_reducible repeat (first | apply Kd.R_alloc | apply Kd.R_drewN | apply Kd.R_drew)); exact HO_365008.out) hb)
                        have n7_ := Aside0.mk (Kd.R_below (by (with_reducible repeat (first | apply Kd.R_alloc | apply Kd.R_drewN | apply Kd.R_drew)); exact HO_365009.out) hb)
                        have n8_ := Aside0.mk (Kd.R_lower ho0 (below_size (by repeat (first | (with_reducible first | exact HB.out | apply below_alloc | apply pw_below_drewN | apply below_drew1 | refine below_set ?_ GE310.out | refine below_set ?_ GE341.out | refine below_set ?_ GE364.out) | exact HB.out))))
                        have n9_ := Aside0.mk (blk_below (g := gb310) (o := .cells #[.string a0_0, .string a0_1, .bool a0_2] 23 (0, 0)) (by (with_reducible repeat (first | refine blk_drewN ?_ _ | refine blk_drew ?_ | refine blk_alloc ?_ _)); exact BK310.out) hb)
                        have n10_ := Aside0.mk (blk_below (g := gb341) (o := .cells #[.int .i64 t322, .int .i64 t323, .string t324, .string t325, .bool t326, .bool t327, .slice Ao41 t328.length co41, .slice Ao42 t331.length co42, .slice Ao43 t334.length co43, .slice Ao44 t337.length co44] 37 (0, 0)) (by (with_reducible repeat (first | refine blk_drewN ?_ _ | refine blk_drew ?_ | refine blk_alloc ?_ _)); exact BK341.out) hb)
                        have n11_ := Aside0.mk (blk_below (g := gb364) (o := .cells #[.int .i64 t345, .int .i64 t346, .string t347, .string t348, .bool t349, .bool t350, .slice Ao58 t351.length co58, .slice Ao60 t354.length co60, .slice Ao62 t357.length co62, .slice Ao64 t360.length co64] 37 (0, 0)) (by (with_reducible repeat (first | refine blk_drewN ?_ _ | refine blk_drew ?_ | refine blk_alloc ?_ _)); exact BK364.out) hb)
                        have n12_ := Aside0.mk (below_step (by repeat (first | (with_reducible first | exact HB.out | apply below_alloc | apply pw_below_drewN | apply below_drew1 | refine below_set ?_ GE310.out | refine below_set ?_ GE341.out | refine below_set ?_ GE364.out) | exact HB.out)) hb)
                        clear HO_342006
                        clear HO_342007
                        clear HO_342008
                        clear HO_342009
                        clear HO_365006
                        clear HO_365007
                        clear HO_365008
                        clear HO_365009
                        clear BK310
                        clear BK341
                        clear BK364
                        clear HB
                        have HO_342006 := n0_
                        have HO_342007 := n1_
                        have HO_342008 := n2_
                        have HO_342009 := n3_
                        have HO_365006 := n4_
                        have HO_365007 := n5_
                        have HO_365008 := n6_
                        have HO_365009 := n7_
                        have HO378 := n8_
                        have BK310 := n9_
                        have BK341 := n10_
                        have BK364 := n11_
                        have HB := n12_
                        clear n0_ n1_ n2_ n3_ n4_ n5_ n6_ n7_ n8_ n9_ n10_ n11_ n12_
                        (try clear hb)
                        (try clear hb2)
                        (try clear hk)
                        (try clear hi)
                        (try clear ho0)
                        obtain ⟨Ao92, co92, eo92⟩ := Kd.R_slice HO378.out
                        (first | subst eo92 | (injection eo92 with f1_ f2_ f3_; have f4_ := f1_.symm; have f5_ := f3_.symm; clear f1_ f2_ f3_; subst f4_; subst f5_))
                        refine hK.out _ _ ⟨(blk_cell BK364.out 0).trans rfl, (blk_cell BK364.out 1).trans rfl, (blk_cell BK364.out 2).trans rfl, (blk_cell BK364.out 3).trans rfl, (blk_cell BK364.out 4).trans rfl, (blk_cell BK364.out 5).trans rfl, (blk_cell BK364.out 6).trans rfl, (blk_cell BK364.out 7).trans rfl, (blk_cell BK364.out 8).trans rfl, (blk_cell BK364.out 9).trans rfl⟩ (fun hHeld => ?_)
                        clear hK K
                        refine norm_ (a' := ?_) ?_ ?_
                        rotate_left
                        · show Act.put _ (some 117) _ = _
                          simp only [Act.put, List.setIfInBounds_toArray, List.set_cons_zero, List.set_cons_succ, i64_w, i32_w]
                          rfl
                        refine pure_ (i := 14) (N := some 118) (v := ?_) (a' := ?_) #[true, true, true, true, true, true, true, true, true, true, true, true, true, true, true, false, false, false] rfl rfl (any_of HT_.out (by kernel_rfl)) (fun _ _ _ h => h) (Or.inl ⟨by rfl, ?_⟩) ?_ ?_
                        rotate_left
                        · intro w'
                          go_simp
                          with_reducible rfl
                        rotate_left
                        · simp only [Act.put, List.setIfInBounds_toArray, List.set_cons_zero, List.set_cons_succ, i64_w, i32_w]
                          rfl
                        refine pure_ (i := 15) (N := some 119) (v := ?_) (a' := ?_) #[true, true, true, true, true, true, true, true, true, true, true, true, true, true, true, true, false, false] rfl rfl (any_of HT_.out (by kernel_rfl)) (fun _ _ _ h => h) (Or.inl ⟨by rfl, ?_⟩) ?_ ?_
                        rotate_left
                        · intro w'
                          go_simp
                          with_reducible rfl
                        rotate_left
                        · simp only [Act.put, List.setIfInBounds_toArray, List.set_cons_zero, List.set_cons_succ, i64_w, i32_w]
                          rfl
                        refine pure_ (i := 16) (N := some 120) (v := ?_) (a' := ?_) #[true, true, true, true, true, true, true, true, true, true, true, true, true, true, true, true, true, false] rfl rfl (any_of HT_.out (by kernel_rfl)) (fun _ _ _ h => h) (Or.inl ⟨by rfl, ?_⟩) ?_ ?_
                        rotate_left
                        · intro w'
                          go_simp
                          with_reducible rfl
                        rotate_left
                        · simp only [Act.put, List.setIfInBounds_toArray, List.set_cons_zero, List.set_cons_succ, i64_w, i32_w]
                          rfl
                        refine pure_ (i := 17) (N := some 8) (v := ?_) (a' := ?_) #[true, true, true, true, true, true, true, true, true, true, true, true, true, true, true, true, true, true] rfl rfl (any_of HT_.out (by kernel_rfl)) (fun _ _ _ h => h) (Or.inl ⟨by rfl, ?_⟩) ?_ ?_
                        rotate_left
                        · intro w'
                          go_simp
                          with_reducible rfl
                        rotate_left
                        · simp only [Act.put, List.setIfInBounds_toArray, List.set_cons_zero, List.set_cons_succ, i64_w, i32_w]
                          rfl
                        refine done_ (done_of HT_.out (by kernel_rfl)) ?_
                        try go_wp2
                        go_ret
                        exact ⟨by first | rfl | (simp [errW_none, errW_some] <;> rfl) | (simp [*, errW_none, errW_some] <;> rfl), by repeat (first | (with_reducible first | exact HB.out | apply below_alloc | apply pw_below_drewN | apply below_drew1 | refine below_set ?_ GE310.out | refine below_set ?_ GE341.out | refine below_set ?_ GE364.out) | exact HB.out)⟩
                      · rw [if_neg c80] at H
                        have c80b0 : (x14_3 == t371) = false := by simpa using c80
                        (try (have c80b1 : decide (x14_3 = t371) = false := by simpa using c80))
                        (try (have c80b2 : (x14_3 == t371) = false := by simpa using c80))
                        (try (have c80b3 : ¬ (x14_3 = t371) := by simpa using c80))
                        clear c80
                        exact absurd (H.trans (congrArg some HRT.out)) (by simp)
                    · rw [if_neg c79] at H
                      have c79b0 : (x13_3.toList == t370.toList) = false := beq_eq_false_iff_ne.mpr c79
                      have c79b1 : (x13_3.toList != t370.toList) = true := bne_iff_ne.mpr c79
                      exact absurd (H.trans (congrArg some HRT.out)) (by simp)
end Go.Proofs.Ytoaacdjcjicemaa.PRevChanges
