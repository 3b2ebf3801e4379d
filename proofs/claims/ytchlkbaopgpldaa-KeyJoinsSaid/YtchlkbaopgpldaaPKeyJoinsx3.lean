-- written by a program of this session (the print, turned)
import Derived.Test.YtchlkbaopgpldaaPKeyJoinsx0
import Derived.Test.YtchlkbaopgpldaaPKeyJoinsx2
namespace Go.Proofs.Ytchlkbaopgpldaa.PKeyJoins
open Go.RowKit Go.Proofs.YtchlkbaopgpldaaW.PrintWords Go.Proofs.YtchlkbaopgpldaaW.PrintLast Go.Proofs.YtchlkbaopgpldaaW.PrintMore
attribute [local go_sem] cell_self cell_there leq_str geq_str gtr_str max2_str max2_int min2_int max_two min_two max_three min_three max_four min_four   -- for this text's walks alone
set_option linter.unusedVariables false
set_option linter.unusedSimpArgs false

/-! ### rundlelaw04_KeyJoins: function 6 -/
mutual
def rundlelaw04_KeyJoins.j0 : Nat → ByteArray → Bool → ByteArray → ByteArray → Bool → ByteArray → ByteArray → Bool → Option (Bool)
  | 0, _, _, _, _, _, _, _, _ => none
  | k + 1, x2, x23, x124000, x124001, x124002, x125000, x125001, x125002 => if x23 = true then ((rundlelaw04_awake.f).bind fun t130 => (some t130)) else ((rundlelaw04_Of.f x124000 x124001 x124002).bind fun bt131 => ((rundlelaw04_Of.f x125000 x125001 x125002).bind fun bt134 => ((key_Joins.f bt131.1 bt131.2.1 bt131.2.2 bt134.1 bt134.2.1 bt134.2.2).bind fun t139 => (if t139 = true then ((key_Good.f bt131.1 bt131.2.1 bt131.2.2).bind fun t140 => (if t140 = true then ((key_Good.f bt134.1 bt134.2.1 bt134.2.2).bind fun t141 => (rundlelaw04_KeyJoins.j1 k x2 (!t141) x124000 x124001 x124002 x125000 x125001 x125002 bt131.1 bt131.2.1 bt131.2.2 bt134.1 bt134.2.1 bt134.2.2)) else (rundlelaw04_KeyJoins.j1 k x2 true x124000 x124001 x124002 x125000 x125001 x125002 bt131.1 bt131.2.1 bt131.2.2 bt134.1 bt134.2.1 bt134.2.2))) else (if x124002 = true then (some true) else (some (x124001.toList != x125000.toList)))))))
def rundlelaw04_KeyJoins.j1 : Nat → ByteArray → Bool → ByteArray → ByteArray → Bool → ByteArray → ByteArray → Bool → ByteArray → ByteArray → Bool → ByteArray → ByteArray → Bool → Option (Bool)
  | 0, _, _, _, _, _, _, _, _, _, _, _, _, _, _ => none
  | k + 1, x2, x49, x124000, x124001, x124002, x125000, x125001, x125002, x138000, x138001, x138002, x139000, x139001, x139002 => if x49 = true then (some (x124001.toList == x125000.toList)) else ((key_Has.f x124000 x125001 x125002 x2).bind fun t143 => ((key_Has.f x138000 x138001 x138002 x2).bind fun t144 => (if t144 = true then (if (t143 == true) = true then ((key_Has.f x138000 x138001 x138002 x2).bind fun t145 => (if t145 = true then ((key_Has.f x139000 x139001 x139002 x2).bind fun t146 => (some (!t146))) else (some (!false)))) else (some false)) else ((key_Has.f x139000 x139001 x139002 x2).bind fun t147 => (if (t143 == t147) = true then ((key_Has.f x138000 x138001 x138002 x2).bind fun t148 => (if t148 = true then ((key_Has.f x139000 x139001 x139002 x2).bind fun t149 => (some (!t149))) else (some (!false)))) else (some false))))))
end
def rundlelaw04_KeyJoins.f (k : Nat) (a0_0 : ByteArray) (a0_1 : ByteArray) (a0_2 : Bool) (a1_0 : ByteArray) (a1_1 : ByteArray) (a1_2 : Bool) (a2 : ByteArray) : Option (Bool) := (rundlelaw04_awake.f).bind fun t125 => (if t125 = true then ((rundlelaw04_Short.f k (([(⟨a0_0, a0_1, a0_2⟩ : S23), (⟨a1_0, a1_1, a1_2⟩ : S23)] : List (S23)))).bind fun t129 => (if t129 = 0 then (rundlelaw04_KeyJoins.j0 k a2 true a0_0 a0_1 a0_2 a1_0 a1_1 a1_2) else (rundlelaw04_KeyJoins.j0 k a2 (decide ((a2.size : Int) > 1100)) a0_0 a0_1 a0_2 a1_0 a1_1 a1_2))) else (rundlelaw04_KeyJoins.j0 k a2 true a0_0 a0_1 a0_2 a1_0 a1_1 a1_2))
theorem rundlelaw04_KeyJoins.mono_l : ∀ k, (∀ y0 y1 y2 y3 y4 y5 y6 y7, LeO (rundlelaw04_KeyJoins.j0 k y0 y1 y2 y3 y4 y5 y6 y7) (rundlelaw04_KeyJoins.j0 (k + 1) y0 y1 y2 y3 y4 y5 y6 y7)) ∧ (∀ y0 y1 y2 y3 y4 y5 y6 y7 y8 y9 y10 y11 y12 y13, LeO (rundlelaw04_KeyJoins.j1 k y0 y1 y2 y3 y4 y5 y6 y7 y8 y9 y10 y11 y12 y13) (rundlelaw04_KeyJoins.j1 (k + 1) y0 y1 y2 y3 y4 y5 y6 y7 y8 y9 y10 y11 y12 y13))
  | 0 => ⟨fun _ _ _ _ _ _ _ _ r h => by simp [rundlelaw04_KeyJoins.j0] at h, fun _ _ _ _ _ _ _ _ _ _ _ _ _ _ r h => by simp [rundlelaw04_KeyJoins.j1] at h⟩
  | k + 1 => by
    obtain ⟨ih0, ih1⟩ := rundlelaw04_KeyJoins.mono_l k
    refine ⟨?_, ?_⟩
    · intro y0 y1 y2 y3 y4 y5 y6 y7
      unfold rundlelaw04_KeyJoins.j0
      repeat' first
      | (with_reducible exact ih0 _ _ _ _ _ _ _ _)
      | (with_reducible exact ih1 _ _ _ _ _ _ _ _ _ _ _ _ _ _)
      | (with_reducible exact rundlelaw04_Short.mono _ _)
      | (with_reducible exact LeO.refl _)
      | (with_reducible exact LeO.none _)
      | (with_reducible refine LeO.ite ?_ ?_)
      | (with_reducible refine LeO.bind ?_ (fun _ => ?_))
      | exact ih0 _ _ _ _ _ _ _ _
      | exact ih1 _ _ _ _ _ _ _ _ _ _ _ _ _ _
      | exact rundlelaw04_Short.mono _ _
      | exact LeO.none _
      | refine LeO.ite ?_ ?_
      | refine LeO.bind ?_ (fun _ => ?_)
    · intro y0 y1 y2 y3 y4 y5 y6 y7 y8 y9 y10 y11 y12 y13
      unfold rundlelaw04_KeyJoins.j1
      repeat' first
      | (with_reducible exact ih0 _ _ _ _ _ _ _ _)
      | (with_reducible exact ih1 _ _ _ _ _ _ _ _ _ _ _ _ _ _)
      | (with_reducible exact rundlelaw04_Short.mono _ _)
      | (with_reducible exact LeO.refl _)
      | (with_reducible exact LeO.none _)
      | (with_reducible refine LeO.ite ?_ ?_)
      | (with_reducible refine LeO.bind ?_ (fun _ => ?_))
      | exact ih0 _ _ _ _ _ _ _ _
      | exact ih1 _ _ _ _ _ _ _ _ _ _ _ _ _ _
      | exact rundlelaw04_Short.mono _ _
      | exact LeO.none _
      | refine LeO.ite ?_ ?_
      | refine LeO.bind ?_ (fun _ => ?_)
theorem rundlelaw04_KeyJoins.mono : ∀ a0 a1 a2 a3 a4 a5 a6 k, LeO (rundlelaw04_KeyJoins.f k a0 a1 a2 a3 a4 a5 a6) (rundlelaw04_KeyJoins.f (k + 1) a0 a1 a2 a3 a4 a5 a6) := by
  intro a0 a1 a2 a3 a4 a5 a6 k
  obtain ⟨ih0, ih1⟩ := rundlelaw04_KeyJoins.mono_l k
  unfold rundlelaw04_KeyJoins.f
  repeat' first
      | (with_reducible exact ih0 _ _ _ _ _ _ _ _)
      | (with_reducible exact ih1 _ _ _ _ _ _ _ _ _ _ _ _ _ _)
      | (with_reducible exact rundlelaw04_Short.mono _ _)
      | (with_reducible exact LeO.refl _)
      | (with_reducible exact LeO.none _)
      | (with_reducible refine LeO.ite ?_ ?_)
      | (with_reducible refine LeO.bind ?_ (fun _ => ?_))
      | exact ih0 _ _ _ _ _ _ _ _
      | exact ih1 _ _ _ _ _ _ _ _ _ _ _ _ _ _
      | exact rundlelaw04_Short.mono _ _
      | exact LeO.none _
      | refine LeO.ite ?_ ?_
      | refine LeO.bind ?_ (fun _ => ?_)
def rundlelaw04_KeyJoins.T3 : Bool × List (List Nat × List Nat) := (true, [([], []), ([0], [0]), ([], []), ([2, 1], [2]), ([], []), ([], []), ([4, 1, 3, 0, 1, 4, 5], [1, 4]), ([5, 3, 6, 0, 1, 2, 3, 4, 5, 6], [3, 5])])
def rundlelaw04_KeyJoins.B3 : List Nat := [0, 1, 0, 7, 0, 0, 63, 127]
theorem rundlelaw04_KeyJoins.tab3 : rtab .any (opsOf Try.f6 3) = rundlelaw04_KeyJoins.T3 := by kernel_rfl
theorem rundlelaw04_KeyJoins.bits3 : waitsOk rundlelaw04_KeyJoins.T3.2 rundlelaw04_KeyJoins.B3 = true := by kernel_rfl
def rundlelaw04_KeyJoins.T9 : Bool × List (List Nat × List Nat) := (true, [([], []), ([], []), ([0, 1], [0, 1]), ([], []), ([], []), ([3, 4, 2], [3, 4]), ([5, 5], [5]), ([6], [6]), ([6], [6]), ([7, 8, 6, 6], [6, 7, 8]), ([6, 9], [6, 9]), ([2, 10], [2, 10]), ([11, 9], [11]), ([12], [12]), ([12], [12]), ([13, 14, 12, 12], [12, 13, 14]), ([15, 15, 12], [12, 15]), ([16], [16]), ([16], [16]), ([17, 18, 16, 16], [16, 17, 18]), ([16, 19, 12], [12, 16, 19]), ([20, 12], [12, 20]), ([12, 21], [12, 21]), ([22, 19, 0, 1, 2, 3, 4, 5, 6, 7, 8, 9, 10, 11, 12, 13, 14, 15, 16, 17, 18, 19, 20, 21, 22], [22])])
def rundlelaw04_KeyJoins.B9 : List Nat := [0, 0, 3, 0, 0, 31, 63, 127, 127, 511, 1023, 2047, 4095, 8191, 8191, 32767, 65535, 131071, 131071, 524287, 1048575, 2097151, 4194303, 8388607]
theorem rundlelaw04_KeyJoins.tab9 : rtab .any (opsOf Try.f6 9) = rundlelaw04_KeyJoins.T9 := by kernel_rfl
theorem rundlelaw04_KeyJoins.bits9 : waitsOk rundlelaw04_KeyJoins.T9.2 rundlelaw04_KeyJoins.B9 = true := by kernel_rfl
end Go.Proofs.Ytchlkbaopgpldaa.PKeyJoins
