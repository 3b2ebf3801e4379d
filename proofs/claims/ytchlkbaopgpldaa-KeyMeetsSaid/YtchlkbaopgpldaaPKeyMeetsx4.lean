-- written by a program of this session (the print, turned)
import Derived.Test.YtchlkbaopgpldaaPKeyMeetsx0
import Derived.Test.YtchlkbaopgpldaaPKeyMeetsx3
namespace Go.Proofs.Ytchlkbaopgpldaa.PKeyMeets
open Go.RowKit Go.Proofs.YtchlkbaopgpldaaW.PrintWords Go.Proofs.YtchlkbaopgpldaaW.PrintLast Go.Proofs.YtchlkbaopgpldaaW.PrintMore
attribute [local go_sem] cell_self cell_there leq_str geq_str gtr_str max2_str max2_int min2_int max_two min_two max_three min_three max_four min_four   -- for this text's walks alone
set_option linter.unusedVariables false
set_option linter.unusedSimpArgs false

/-! ### rundleref04_Meet: function 14 -/
mutual
def rundleref04_Meet.j0 : Nat → ByteArray → ByteArray → Bool → ByteArray → ByteArray → Bool → ByteArray → ByteArray → Bool → Option (ByteArray × ByteArray × Bool)
  | 0, _, _, _, _, _, _, _, _, _ => none
  | k + 1, x122000, x122001, x122002, x123000, x123001, x123002, x125000, x125001, x125002 => if x122002 = true then (rundleref04_Meet.j1 k (!x123002) x122000 x122001 x122002 x123000 x123001 x123002 x125000 x125001 x125002) else (rundleref04_Meet.j1 k false x122000 x122001 x122002 x123000 x123001 x123002 x125000 x125001 x125002)
def rundleref04_Meet.j1 : Nat → Bool → ByteArray → ByteArray → Bool → ByteArray → ByteArray → Bool → ByteArray → ByteArray → Bool → Option (ByteArray × ByteArray × Bool)
  | 0, _, _, _, _, _, _, _, _, _, _ => none
  | k + 1, x29, x122000, x122001, x122002, x123000, x123001, x123002, x125000, x125001, x125002 => if x29 = true then (rundleref04_Meet.j2 k x122000 x122001 x122002 x123000 x123001 x123002 x125000 x123001 x125002) else (rundleref04_Meet.j2 k x122000 x122001 x122002 x123000 x123001 x123002 x125000 x125001 x125002)
def rundleref04_Meet.j2 : Nat → ByteArray → ByteArray → Bool → ByteArray → ByteArray → Bool → ByteArray → ByteArray → Bool → Option (ByteArray × ByteArray × Bool)
  | 0, _, _, _, _, _, _, _, _, _ => none
  | k + 1, x122000, x122001, x122002, x123000, x123001, x123002, x125000, x125001, x125002 => if x123002 = true then (rundleref04_Meet.j3 k (!x122002) x122000 x122001 x122002 x123000 x123001 x123002 x125000 x125001 x125002) else (rundleref04_Meet.j3 k false x122000 x122001 x122002 x123000 x123001 x123002 x125000 x125001 x125002)
def rundleref04_Meet.j3 : Nat → Bool → ByteArray → ByteArray → Bool → ByteArray → ByteArray → Bool → ByteArray → ByteArray → Bool → Option (ByteArray × ByteArray × Bool)
  | 0, _, _, _, _, _, _, _, _, _, _ => none
  | k + 1, x39, x122000, x122001, x122002, x123000, x123001, x123002, x125000, x125001, x125002 => if x39 = true then (rundleref04_Meet.j4 k x122000 x122001 x122002 x123000 x123001 x123002 x125000 x122001 x125002) else (rundleref04_Meet.j4 k x122000 x122001 x122002 x123000 x123001 x123002 x125000 x125001 x125002)
def rundleref04_Meet.j4 : Nat → ByteArray → ByteArray → Bool → ByteArray → ByteArray → Bool → ByteArray → ByteArray → Bool → Option (ByteArray × ByteArray × Bool)
  | 0, _, _, _, _, _, _, _, _, _ => none
  | k + 1, x122000, x122001, x122002, x123000, x123001, x123002, x125000, x125001, x125002 => if x122002 = true then (rundleref04_Meet.j5 k false x122000 x122001 x122002 x123000 x123001 x123002 x125000 x125001 x125002) else (rundleref04_Meet.j5 k (!x123002) x122000 x122001 x122002 x123000 x123001 x123002 x125000 x125001 x125002)
def rundleref04_Meet.j5 : Nat → Bool → ByteArray → ByteArray → Bool → ByteArray → ByteArray → Bool → ByteArray → ByteArray → Bool → Option (ByteArray × ByteArray × Bool)
  | 0, _, _, _, _, _, _, _, _, _, _ => none
  | k + 1, x50, x122000, x122001, x122002, x123000, x123001, x123002, x125000, x125001, x125002 => if x50 = true then ((rundleref04_Less.f k x123001 x122001).bind fun t126 => (if t126 = true then (some (x125000, x123001, x125002)) else (some (x125000, x122001, x125002)))) else (some (x125000, x125001, x125002))
def rundleref04_Meet.j6 : Nat → ByteArray → ByteArray → Bool → ByteArray → ByteArray → Bool → ByteArray → ByteArray → Bool → Option (ByteArray × ByteArray × Bool)
  | 0, _, _, _, _, _, _, _, _, _ => none
  | k + 1, x122000, x122001, x122002, x123000, x123001, x123002, x125000, x125001, x125002 => if x122002 = true then (rundleref04_Meet.j7 k (!x123002) x122000 x122001 x122002 x123000 x123001 x123002 x125000 x125001 x125002) else (rundleref04_Meet.j7 k false x122000 x122001 x122002 x123000 x123001 x123002 x125000 x125001 x125002)
def rundleref04_Meet.j7 : Nat → Bool → ByteArray → ByteArray → Bool → ByteArray → ByteArray → Bool → ByteArray → ByteArray → Bool → Option (ByteArray × ByteArray × Bool)
  | 0, _, _, _, _, _, _, _, _, _, _ => none
  | k + 1, x29, x122000, x122001, x122002, x123000, x123001, x123002, x125000, x125001, x125002 => if x29 = true then (rundleref04_Meet.j8 k x122000 x122001 x122002 x123000 x123001 x123002 x125000 x123001 x125002) else (rundleref04_Meet.j8 k x122000 x122001 x122002 x123000 x123001 x123002 x125000 x125001 x125002)
def rundleref04_Meet.j8 : Nat → ByteArray → ByteArray → Bool → ByteArray → ByteArray → Bool → ByteArray → ByteArray → Bool → Option (ByteArray × ByteArray × Bool)
  | 0, _, _, _, _, _, _, _, _, _ => none
  | k + 1, x122000, x122001, x122002, x123000, x123001, x123002, x125000, x125001, x125002 => if x123002 = true then (rundleref04_Meet.j9 k (!x122002) x122000 x122001 x122002 x123000 x123001 x123002 x125000 x125001 x125002) else (rundleref04_Meet.j9 k false x122000 x122001 x122002 x123000 x123001 x123002 x125000 x125001 x125002)
def rundleref04_Meet.j9 : Nat → Bool → ByteArray → ByteArray → Bool → ByteArray → ByteArray → Bool → ByteArray → ByteArray → Bool → Option (ByteArray × ByteArray × Bool)
  | 0, _, _, _, _, _, _, _, _, _, _ => none
  | k + 1, x39, x122000, x122001, x122002, x123000, x123001, x123002, x125000, x125001, x125002 => if x39 = true then (rundleref04_Meet.j10 k x122000 x122001 x122002 x123000 x123001 x123002 x125000 x122001 x125002) else (rundleref04_Meet.j10 k x122000 x122001 x122002 x123000 x123001 x123002 x125000 x125001 x125002)
def rundleref04_Meet.j10 : Nat → ByteArray → ByteArray → Bool → ByteArray → ByteArray → Bool → ByteArray → ByteArray → Bool → Option (ByteArray × ByteArray × Bool)
  | 0, _, _, _, _, _, _, _, _, _ => none
  | k + 1, x122000, x122001, x122002, x123000, x123001, x123002, x125000, x125001, x125002 => if x122002 = true then (rundleref04_Meet.j11 k false x122000 x122001 x122002 x123000 x123001 x123002 x125000 x125001 x125002) else (rundleref04_Meet.j11 k (!x123002) x122000 x122001 x122002 x123000 x123001 x123002 x125000 x125001 x125002)
def rundleref04_Meet.j11 : Nat → Bool → ByteArray → ByteArray → Bool → ByteArray → ByteArray → Bool → ByteArray → ByteArray → Bool → Option (ByteArray × ByteArray × Bool)
  | 0, _, _, _, _, _, _, _, _, _, _ => none
  | k + 1, x50, x122000, x122001, x122002, x123000, x123001, x123002, x125000, x125001, x125002 => if x50 = true then ((rundleref04_Less.f k x123001 x122001).bind fun t128 => (if t128 = true then (some (x125000, x123001, x125002)) else (some (x125000, x122001, x125002)))) else (some (x125000, x125001, x125002))
end
def rundleref04_Meet.f (k : Nat) (a0_0 : ByteArray) (a0_1 : ByteArray) (a0_2 : Bool) (a1_0 : ByteArray) (a1_1 : ByteArray) (a1_2 : Bool) : Option (ByteArray × ByteArray × Bool) := if a0_2 = true then ((rundleref04_Less.f k a0_0 a1_0).bind fun t125 => (if t125 = true then (rundleref04_Meet.j0 k a0_0 a0_1 a0_2 a1_0 a1_1 a1_2 a1_0 (⟨#[]⟩ : ByteArray) a1_2) else (rundleref04_Meet.j0 k a0_0 a0_1 a0_2 a1_0 a1_1 a1_2 a0_0 (⟨#[]⟩ : ByteArray) a1_2))) else ((rundleref04_Less.f k a0_0 a1_0).bind fun t127 => (if t127 = true then (rundleref04_Meet.j6 k a0_0 a0_1 a0_2 a1_0 a1_1 a1_2 a1_0 (⟨#[]⟩ : ByteArray) false) else (rundleref04_Meet.j6 k a0_0 a0_1 a0_2 a1_0 a1_1 a1_2 a0_0 (⟨#[]⟩ : ByteArray) false)))
theorem rundleref04_Meet.mono_l : ∀ k, (∀ y0 y1 y2 y3 y4 y5 y6 y7 y8, LeO (rundleref04_Meet.j0 k y0 y1 y2 y3 y4 y5 y6 y7 y8) (rundleref04_Meet.j0 (k + 1) y0 y1 y2 y3 y4 y5 y6 y7 y8)) ∧ (∀ y0 y1 y2 y3 y4 y5 y6 y7 y8 y9, LeO (rundleref04_Meet.j1 k y0 y1 y2 y3 y4 y5 y6 y7 y8 y9) (rundleref04_Meet.j1 (k + 1) y0 y1 y2 y3 y4 y5 y6 y7 y8 y9)) ∧ (∀ y0 y1 y2 y3 y4 y5 y6 y7 y8, LeO (rundleref04_Meet.j2 k y0 y1 y2 y3 y4 y5 y6 y7 y8) (rundleref04_Meet.j2 (k + 1) y0 y1 y2 y3 y4 y5 y6 y7 y8)) ∧ (∀ y0 y1 y2 y3 y4 y5 y6 y7 y8 y9, LeO (rundleref04_Meet.j3 k y0 y1 y2 y3 y4 y5 y6 y7 y8 y9) (rundleref04_Meet.j3 (k + 1) y0 y1 y2 y3 y4 y5 y6 y7 y8 y9)) ∧ (∀ y0 y1 y2 y3 y4 y5 y6 y7 y8, LeO (rundleref04_Meet.j4 k y0 y1 y2 y3 y4 y5 y6 y7 y8) (rundleref04_Meet.j4 (k + 1) y0 y1 y2 y3 y4 y5 y6 y7 y8)) ∧ (∀ y0 y1 y2 y3 y4 y5 y6 y7 y8 y9, LeO (rundleref04_Meet.j5 k y0 y1 y2 y3 y4 y5 y6 y7 y8 y9) (rundleref04_Meet.j5 (k + 1) y0 y1 y2 y3 y4 y5 y6 y7 y8 y9)) ∧ (∀ y0 y1 y2 y3 y4 y5 y6 y7 y8, LeO (rundleref04_Meet.j6 k y0 y1 y2 y3 y4 y5 y6 y7 y8) (rundleref04_Meet.j6 (k + 1) y0 y1 y2 y3 y4 y5 y6 y7 y8)) ∧ (∀ y0 y1 y2 y3 y4 y5 y6 y7 y8 y9, LeO (rundleref04_Meet.j7 k y0 y1 y2 y3 y4 y5 y6 y7 y8 y9) (rundleref04_Meet.j7 (k + 1) y0 y1 y2 y3 y4 y5 y6 y7 y8 y9)) ∧ (∀ y0 y1 y2 y3 y4 y5 y6 y7 y8, LeO (rundleref04_Meet.j8 k y0 y1 y2 y3 y4 y5 y6 y7 y8) (rundleref04_Meet.j8 (k + 1) y0 y1 y2 y3 y4 y5 y6 y7 y8)) ∧ (∀ y0 y1 y2 y3 y4 y5 y6 y7 y8 y9, LeO (rundleref04_Meet.j9 k y0 y1 y2 y3 y4 y5 y6 y7 y8 y9) (rundleref04_Meet.j9 (k + 1) y0 y1 y2 y3 y4 y5 y6 y7 y8 y9)) ∧ (∀ y0 y1 y2 y3 y4 y5 y6 y7 y8, LeO (rundleref04_Meet.j10 k y0 y1 y2 y3 y4 y5 y6 y7 y8) (rundleref04_Meet.j10 (k + 1) y0 y1 y2 y3 y4 y5 y6 y7 y8)) ∧ (∀ y0 y1 y2 y3 y4 y5 y6 y7 y8 y9, LeO (rundleref04_Meet.j11 k y0 y1 y2 y3 y4 y5 y6 y7 y8 y9) (rundleref04_Meet.j11 (k + 1) y0 y1 y2 y3 y4 y5 y6 y7 y8 y9))
  | 0 => ⟨fun _ _ _ _ _ _ _ _ _ r h => by simp [rundleref04_Meet.j0] at h, fun _ _ _ _ _ _ _ _ _ _ r h => by simp [rundleref04_Meet.j1] at h, fun _ _ _ _ _ _ _ _ _ r h => by simp [rundleref04_Meet.j2] at h, fun _ _ _ _ _ _ _ _ _ _ r h => by simp [rundleref04_Meet.j3] at h, fun _ _ _ _ _ _ _ _ _ r h => by simp [rundleref04_Meet.j4] at h, fun _ _ _ _ _ _ _ _ _ _ r h => by simp [rundleref04_Meet.j5] at h, fun _ _ _ _ _ _ _ _ _ r h => by simp [rundleref04_Meet.j6] at h, fun _ _ _ _ _ _ _ _ _ _ r h => by simp [rundleref04_Meet.j7] at h, fun _ _ _ _ _ _ _ _ _ r h => by simp [rundleref04_Meet.j8] at h, fun _ _ _ _ _ _ _ _ _ _ r h => by simp [rundleref04_Meet.j9] at h, fun _ _ _ _ _ _ _ _ _ r h => by simp [rundleref04_Meet.j10] at h, fun _ _ _ _ _ _ _ _ _ _ r h => by simp [rundleref04_Meet.j11] at h⟩
  | k + 1 => by
    obtain ⟨ih0, ih1, ih2, ih3, ih4, ih5, ih6, ih7, ih8, ih9, ih10, ih11⟩ := rundleref04_Meet.mono_l k
    refine ⟨?_, ?_, ?_, ?_, ?_, ?_, ?_, ?_, ?_, ?_, ?_, ?_⟩
    · intro y0 y1 y2 y3 y4 y5 y6 y7 y8
      unfold rundleref04_Meet.j0
      repeat' first
      | (with_reducible exact ih0 _ _ _ _ _ _ _ _ _)
      | (with_reducible exact ih1 _ _ _ _ _ _ _ _ _ _)
      | (with_reducible exact ih2 _ _ _ _ _ _ _ _ _)
      | (with_reducible exact ih3 _ _ _ _ _ _ _ _ _ _)
      | (with_reducible exact ih4 _ _ _ _ _ _ _ _ _)
      | (with_reducible exact ih5 _ _ _ _ _ _ _ _ _ _)
      | (with_reducible exact ih6 _ _ _ _ _ _ _ _ _)
      | (with_reducible exact ih7 _ _ _ _ _ _ _ _ _ _)
      | (with_reducible exact ih8 _ _ _ _ _ _ _ _ _)
      | (with_reducible exact ih9 _ _ _ _ _ _ _ _ _ _)
      | (with_reducible exact ih10 _ _ _ _ _ _ _ _ _)
      | (with_reducible exact ih11 _ _ _ _ _ _ _ _ _ _)
      | (with_reducible exact rundleref04_Less.mono _ _ _)
      | (with_reducible exact LeO.refl _)
      | (with_reducible exact LeO.none _)
      | (with_reducible refine LeO.ite ?_ ?_)
      | (with_reducible refine LeO.bind ?_ (fun _ => ?_))
      | exact ih0 _ _ _ _ _ _ _ _ _
      | exact ih1 _ _ _ _ _ _ _ _ _ _
      | exact ih2 _ _ _ _ _ _ _ _ _
      | exact ih3 _ _ _ _ _ _ _ _ _ _
      | exact ih4 _ _ _ _ _ _ _ _ _
      | exact ih5 _ _ _ _ _ _ _ _ _ _
      | exact ih6 _ _ _ _ _ _ _ _ _
      | exact ih7 _ _ _ _ _ _ _ _ _ _
      | exact ih8 _ _ _ _ _ _ _ _ _
      | exact ih9 _ _ _ _ _ _ _ _ _ _
      | exact ih10 _ _ _ _ _ _ _ _ _
      | exact ih11 _ _ _ _ _ _ _ _ _ _
      | exact rundleref04_Less.mono _ _ _
      | exact LeO.none _
      | refine LeO.ite ?_ ?_
      | refine LeO.bind ?_ (fun _ => ?_)
    · intro y0 y1 y2 y3 y4 y5 y6 y7 y8 y9
      unfold rundleref04_Meet.j1
      repeat' first
      | (with_reducible exact ih0 _ _ _ _ _ _ _ _ _)
      | (with_reducible exact ih1 _ _ _ _ _ _ _ _ _ _)
      | (with_reducible exact ih2 _ _ _ _ _ _ _ _ _)
      | (with_reducible exact ih3 _ _ _ _ _ _ _ _ _ _)
      | (with_reducible exact ih4 _ _ _ _ _ _ _ _ _)
      | (with_reducible exact ih5 _ _ _ _ _ _ _ _ _ _)
      | (with_reducible exact ih6 _ _ _ _ _ _ _ _ _)
      | (with_reducible exact ih7 _ _ _ _ _ _ _ _ _ _)
      | (with_reducible exact ih8 _ _ _ _ _ _ _ _ _)
      | (with_reducible exact ih9 _ _ _ _ _ _ _ _ _ _)
      | (with_reducible exact ih10 _ _ _ _ _ _ _ _ _)
      | (with_reducible exact ih11 _ _ _ _ _ _ _ _ _ _)
      | (with_reducible exact rundleref04_Less.mono _ _ _)
      | (with_reducible exact LeO.refl _)
      | (with_reducible exact LeO.none _)
      | (with_reducible refine LeO.ite ?_ ?_)
      | (with_reducible refine LeO.bind ?_ (fun _ => ?_))
      | exact ih0 _ _ _ _ _ _ _ _ _
      | exact ih1 _ _ _ _ _ _ _ _ _ _
      | exact ih2 _ _ _ _ _ _ _ _ _
      | exact ih3 _ _ _ _ _ _ _ _ _ _
      | exact ih4 _ _ _ _ _ _ _ _ _
      | exact ih5 _ _ _ _ _ _ _ _ _ _
      | exact ih6 _ _ _ _ _ _ _ _ _
      | exact ih7 _ _ _ _ _ _ _ _ _ _
      | exact ih8 _ _ _ _ _ _ _ _ _
      | exact ih9 _ _ _ _ _ _ _ _ _ _
      | exact ih10 _ _ _ _ _ _ _ _ _
      | exact ih11 _ _ _ _ _ _ _ _ _ _
      | exact rundleref04_Less.mono _ _ _
      | exact LeO.none _
      | refine LeO.ite ?_ ?_
      | refine LeO.bind ?_ (fun _ => ?_)
    · intro y0 y1 y2 y3 y4 y5 y6 y7 y8
      unfold rundleref04_Meet.j2
      repeat' first
      | (with_reducible exact ih0 _ _ _ _ _ _ _ _ _)
      | (with_reducible exact ih1 _ _ _ _ _ _ _ _ _ _)
      | (with_reducible exact ih2 _ _ _ _ _ _ _ _ _)
      | (with_reducible exact ih3 _ _ _ _ _ _ _ _ _ _)
      | (with_reducible exact ih4 _ _ _ _ _ _ _ _ _)
      | (with_reducible exact ih5 _ _ _ _ _ _ _ _ _ _)
      | (with_reducible exact ih6 _ _ _ _ _ _ _ _ _)
      | (with_reducible exact ih7 _ _ _ _ _ _ _ _ _ _)
      | (with_reducible exact ih8 _ _ _ _ _ _ _ _ _)
      | (with_reducible exact ih9 _ _ _ _ _ _ _ _ _ _)
      | (with_reducible exact ih10 _ _ _ _ _ _ _ _ _)
      | (with_reducible exact ih11 _ _ _ _ _ _ _ _ _ _)
      | (with_reducible exact rundleref04_Less.mono _ _ _)
      | (with_reducible exact LeO.refl _)
      | (with_reducible exact LeO.none _)
      | (with_reducible refine LeO.ite ?_ ?_)
      | (with_reducible refine LeO.bind ?_ (fun _ => ?_))
      | exact ih0 _ _ _ _ _ _ _ _ _
      | exact ih1 _ _ _ _ _ _ _ _ _ _
      | exact ih2 _ _ _ _ _ _ _ _ _
      | exact ih3 _ _ _ _ _ _ _ _ _ _
      | exact ih4 _ _ _ _ _ _ _ _ _
      | exact ih5 _ _ _ _ _ _ _ _ _ _
      | exact ih6 _ _ _ _ _ _ _ _ _
      | exact ih7 _ _ _ _ _ _ _ _ _ _
      | exact ih8 _ _ _ _ _ _ _ _ _
      | exact ih9 _ _ _ _ _ _ _ _ _ _
      | exact ih10 _ _ _ _ _ _ _ _ _
      | exact ih11 _ _ _ _ _ _ _ _ _ _
      | exact rundleref04_Less.mono _ _ _
      | exact LeO.none _
      | refine LeO.ite ?_ ?_
      | refine LeO.bind ?_ (fun _ => ?_)
    · intro y0 y1 y2 y3 y4 y5 y6 y7 y8 y9
      unfold rundleref04_Meet.j3
      repeat' first
      | (with_reducible exact ih0 _ _ _ _ _ _ _ _ _)
      | (with_reducible exact ih1 _ _ _ _ _ _ _ _ _ _)
      | (with_reducible exact ih2 _ _ _ _ _ _ _ _ _)
      | (with_reducible exact ih3 _ _ _ _ _ _ _ _ _ _)
      | (with_reducible exact ih4 _ _ _ _ _ _ _ _ _)
      | (with_reducible exact ih5 _ _ _ _ _ _ _ _ _ _)
      | (with_reducible exact ih6 _ _ _ _ _ _ _ _ _)
      | (with_reducible exact ih7 _ _ _ _ _ _ _ _ _ _)
      | (with_reducible exact ih8 _ _ _ _ _ _ _ _ _)
      | (with_reducible exact ih9 _ _ _ _ _ _ _ _ _ _)
      | (with_reducible exact ih10 _ _ _ _ _ _ _ _ _)
      | (with_reducible exact ih11 _ _ _ _ _ _ _ _ _ _)
      | (with_reducible exact rundleref04_Less.mono _ _ _)
      | (with_reducible exact LeO.refl _)
      | (with_reducible exact LeO.none _)
      | (with_reducible refine LeO.ite ?_ ?_)
      | (with_reducible refine LeO.bind ?_ (fun _ => ?_))
      | exact ih0 _ _ _ _ _ _ _ _ _
      | exact ih1 _ _ _ _ _ _ _ _ _ _
      | exact ih2 _ _ _ _ _ _ _ _ _
      | exact ih3 _ _ _ _ _ _ _ _ _ _
      | exact ih4 _ _ _ _ _ _ _ _ _
      | exact ih5 _ _ _ _ _ _ _ _ _ _
      | exact ih6 _ _ _ _ _ _ _ _ _
      | exact ih7 _ _ _ _ _ _ _ _ _ _
      | exact ih8 _ _ _ _ _ _ _ _ _
      | exact ih9 _ _ _ _ _ _ _ _ _ _
      | exact ih10 _ _ _ _ _ _ _ _ _
      | exact ih11 _ _ _ _ _ _ _ _ _ _
      | exact rundleref04_Less.mono _ _ _
      | exact LeO.none _
      | refine LeO.ite ?_ ?_
      | refine LeO.bind ?_ (fun _ => ?_)
    · intro y0 y1 y2 y3 y4 y5 y6 y7 y8
      unfold rundleref04_Meet.j4
      repeat' first
      | (with_reducible exact ih0 _ _ _ _ _ _ _ _ _)
      | (with_reducible exact ih1 _ _ _ _ _ _ _ _ _ _)
      | (with_reducible exact ih2 _ _ _ _ _ _ _ _ _)
      | (with_reducible exact ih3 _ _ _ _ _ _ _ _ _ _)
      | (with_reducible exact ih4 _ _ _ _ _ _ _ _ _)
      | (with_reducible exact ih5 _ _ _ _ _ _ _ _ _ _)
      | (with_reducible exact ih6 _ _ _ _ _ _ _ _ _)
      | (with_reducible exact ih7 _ _ _ _ _ _ _ _ _ _)
      | (with_reducible exact ih8 _ _ _ _ _ _ _ _ _)
      | (with_reducible exact ih9 _ _ _ _ _ _ _ _ _ _)
      | (with_reducible exact ih10 _ _ _ _ _ _ _ _ _)
      | (with_reducible exact ih11 _ _ _ _ _ _ _ _ _ _)
      | (with_reducible exact rundleref04_Less.mono _ _ _)
      | (with_reducible exact LeO.refl _)
      | (with_reducible exact LeO.none _)
      | (with_reducible refine LeO.ite ?_ ?_)
      | (with_reducible refine LeO.bind ?_ (fun _ => ?_))
      | exact ih0 _ _ _ _ _ _ _ _ _
      | exact ih1 _ _ _ _ _ _ _ _ _ _
      | exact ih2 _ _ _ _ _ _ _ _ _
      | exact ih3 _ _ _ _ _ _ _ _ _ _
      | exact ih4 _ _ _ _ _ _ _ _ _
      | exact ih5 _ _ _ _ _ _ _ _ _ _
      | exact ih6 _ _ _ _ _ _ _ _ _
      | exact ih7 _ _ _ _ _ _ _ _ _ _
      | exact ih8 _ _ _ _ _ _ _ _ _
      | exact ih9 _ _ _ _ _ _ _ _ _ _
      | exact ih10 _ _ _ _ _ _ _ _ _
      | exact ih11 _ _ _ _ _ _ _ _ _ _
      | exact rundleref04_Less.mono _ _ _
      | exact LeO.none _
      | refine LeO.ite ?_ ?_
      | refine LeO.bind ?_ (fun _ => ?_)
    · intro y0 y1 y2 y3 y4 y5 y6 y7 y8 y9
      unfold rundleref04_Meet.j5
      repeat' first
      | (with_reducible exact ih0 _ _ _ _ _ _ _ _ _)
      | (with_reducible exact ih1 _ _ _ _ _ _ _ _ _ _)
      | (with_reducible exact ih2 _ _ _ _ _ _ _ _ _)
      | (with_reducible exact ih3 _ _ _ _ _ _ _ _ _ _)
      | (with_reducible exact ih4 _ _ _ _ _ _ _ _ _)
      | (with_reducible exact ih5 _ _ _ _ _ _ _ _ _ _)
      | (with_reducible exact ih6 _ _ _ _ _ _ _ _ _)
      | (with_reducible exact ih7 _ _ _ _ _ _ _ _ _ _)
      | (with_reducible exact ih8 _ _ _ _ _ _ _ _ _)
      | (with_reducible exact ih9 _ _ _ _ _ _ _ _ _ _)
      | (with_reducible exact ih10 _ _ _ _ _ _ _ _ _)
      | (with_reducible exact ih11 _ _ _ _ _ _ _ _ _ _)
      | (with_reducible exact rundleref04_Less.mono _ _ _)
      | (with_reducible exact LeO.refl _)
      | (with_reducible exact LeO.none _)
      | (with_reducible refine LeO.ite ?_ ?_)
      | (with_reducible refine LeO.bind ?_ (fun _ => ?_))
      | exact ih0 _ _ _ _ _ _ _ _ _
      | exact ih1 _ _ _ _ _ _ _ _ _ _
      | exact ih2 _ _ _ _ _ _ _ _ _
      | exact ih3 _ _ _ _ _ _ _ _ _ _
      | exact ih4 _ _ _ _ _ _ _ _ _
      | exact ih5 _ _ _ _ _ _ _ _ _ _
      | exact ih6 _ _ _ _ _ _ _ _ _
      | exact ih7 _ _ _ _ _ _ _ _ _ _
      | exact ih8 _ _ _ _ _ _ _ _ _
      | exact ih9 _ _ _ _ _ _ _ _ _ _
      | exact ih10 _ _ _ _ _ _ _ _ _
      | exact ih11 _ _ _ _ _ _ _ _ _ _
      | exact rundleref04_Less.mono _ _ _
      | exact LeO.none _
      | refine LeO.ite ?_ ?_
      | refine LeO.bind ?_ (fun _ => ?_)
    · intro y0 y1 y2 y3 y4 y5 y6 y7 y8
      unfold rundleref04_Meet.j6
      repeat' first
      | (with_reducible exact ih0 _ _ _ _ _ _ _ _ _)
      | (with_reducible exact ih1 _ _ _ _ _ _ _ _ _ _)
      | (with_reducible exact ih2 _ _ _ _ _ _ _ _ _)
      | (with_reducible exact ih3 _ _ _ _ _ _ _ _ _ _)
      | (with_reducible exact ih4 _ _ _ _ _ _ _ _ _)
      | (with_reducible exact ih5 _ _ _ _ _ _ _ _ _ _)
      | (with_reducible exact ih6 _ _ _ _ _ _ _ _ _)
      | (with_reducible exact ih7 _ _ _ _ _ _ _ _ _ _)
      | (with_reducible exact ih8 _ _ _ _ _ _ _ _ _)
      | (with_reducible exact ih9 _ _ _ _ _ _ _ _ _ _)
      | (with_reducible exact ih10 _ _ _ _ _ _ _ _ _)
      | (with_reducible exact ih11 _ _ _ _ _ _ _ _ _ _)
      | (with_reducible exact rundleref04_Less.mono _ _ _)
      | (with_reducible exact LeO.refl _)
      | (with_reducible exact LeO.none _)
      | (with_reducible refine LeO.ite ?_ ?_)
      | (with_reducible refine LeO.bind ?_ (fun _ => ?_))
      | exact ih0 _ _ _ _ _ _ _ _ _
      | exact ih1 _ _ _ _ _ _ _ _ _ _
      | exact ih2 _ _ _ _ _ _ _ _ _
      | exact ih3 _ _ _ _ _ _ _ _ _ _
      | exact ih4 _ _ _ _ _ _ _ _ _
      | exact ih5 _ _ _ _ _ _ _ _ _ _
      | exact ih6 _ _ _ _ _ _ _ _ _
      | exact ih7 _ _ _ _ _ _ _ _ _ _
      | exact ih8 _ _ _ _ _ _ _ _ _
      | exact ih9 _ _ _ _ _ _ _ _ _ _
      | exact ih10 _ _ _ _ _ _ _ _ _
      | exact ih11 _ _ _ _ _ _ _ _ _ _
      | exact rundleref04_Less.mono _ _ _
      | exact LeO.none _
      | refine LeO.ite ?_ ?_
      | refine LeO.bind ?_ (fun _ => ?_)
    · intro y0 y1 y2 y3 y4 y5 y6 y7 y8 y9
      unfold rundleref04_Meet.j7
      repeat' first
      | (with_reducible exact ih0 _ _ _ _ _ _ _ _ _)
      | (with_reducible exact ih1 _ _ _ _ _ _ _ _ _ _)
      | (with_reducible exact ih2 _ _ _ _ _ _ _ _ _)
      | (with_reducible exact ih3 _ _ _ _ _ _ _ _ _ _)
      | (with_reducible exact ih4 _ _ _ _ _ _ _ _ _)
      | (with_reducible exact ih5 _ _ _ _ _ _ _ _ _ _)
      | (with_reducible exact ih6 _ _ _ _ _ _ _ _ _)
      | (with_reducible exact ih7 _ _ _ _ _ _ _ _ _ _)
      | (with_reducible exact ih8 _ _ _ _ _ _ _ _ _)
      | (with_reducible exact ih9 _ _ _ _ _ _ _ _ _ _)
      | (with_reducible exact ih10 _ _ _ _ _ _ _ _ _)
      | (with_reducible exact ih11 _ _ _ _ _ _ _ _ _ _)
      | (with_reducible exact rundleref04_Less.mono _ _ _)
      | (with_reducible exact LeO.refl _)
      | (with_reducible exact LeO.none _)
      | (with_reducible refine LeO.ite ?_ ?_)
      | (with_reducible refine LeO.bind ?_ (fun _ => ?_))
      | exact ih0 _ _ _ _ _ _ _ _ _
      | exact ih1 _ _ _ _ _ _ _ _ _ _
      | exact ih2 _ _ _ _ _ _ _ _ _
      | exact ih3 _ _ _ _ _ _ _ _ _ _
      | exact ih4 _ _ _ _ _ _ _ _ _
      | exact ih5 _ _ _ _ _ _ _ _ _ _
      | exact ih6 _ _ _ _ _ _ _ _ _
      | exact ih7 _ _ _ _ _ _ _ _ _ _
      | exact ih8 _ _ _ _ _ _ _ _ _
      | exact ih9 _ _ _ _ _ _ _ _ _ _
      | exact ih10 _ _ _ _ _ _ _ _ _
      | exact ih11 _ _ _ _ _ _ _ _ _ _
      | exact rundleref04_Less.mono _ _ _
      | exact LeO.none _
      | refine LeO.ite ?_ ?_
      | refine LeO.bind ?_ (fun _ => ?_)
    · intro y0 y1 y2 y3 y4 y5 y6 y7 y8
      unfold rundleref04_Meet.j8
      repeat' first
      | (with_reducible exact ih0 _ _ _ _ _ _ _ _ _)
      | (with_reducible exact ih1 _ _ _ _ _ _ _ _ _ _)
      | (with_reducible exact ih2 _ _ _ _ _ _ _ _ _)
      | (with_reducible exact ih3 _ _ _ _ _ _ _ _ _ _)
      | (with_reducible exact ih4 _ _ _ _ _ _ _ _ _)
      | (with_reducible exact ih5 _ _ _ _ _ _ _ _ _ _)
      | (with_reducible exact ih6 _ _ _ _ _ _ _ _ _)
      | (with_reducible exact ih7 _ _ _ _ _ _ _ _ _ _)
      | (with_reducible exact ih8 _ _ _ _ _ _ _ _ _)
      | (with_reducible exact ih9 _ _ _ _ _ _ _ _ _ _)
      | (with_reducible exact ih10 _ _ _ _ _ _ _ _ _)
      | (with_reducible exact ih11 _ _ _ _ _ _ _ _ _ _)
      | (with_reducible exact rundleref04_Less.mono _ _ _)
      | (with_reducible exact LeO.refl _)
      | (with_reducible exact LeO.none _)
      | (with_reducible refine LeO.ite ?_ ?_)
      | (with_reducible refine LeO.bind ?_ (fun _ => ?_))
      | exact ih0 _ _ _ _ _ _ _ _ _
      | exact ih1 _ _ _ _ _ _ _ _ _ _
      | exact ih2 _ _ _ _ _ _ _ _ _
      | exact ih3 _ _ _ _ _ _ _ _ _ _
      | exact ih4 _ _ _ _ _ _ _ _ _
      | exact ih5 _ _ _ _ _ _ _ _ _ _
      | exact ih6 _ _ _ _ _ _ _ _ _
      | exact ih7 _ _ _ _ _ _ _ _ _ _
      | exact ih8 _ _ _ _ _ _ _ _ _
      | exact ih9 _ _ _ _ _ _ _ _ _ _
      | exact ih10 _ _ _ _ _ _ _ _ _
      | exact ih11 _ _ _ _ _ _ _ _ _ _
      | exact rundleref04_Less.mono _ _ _
      | exact LeO.none _
      | refine LeO.ite ?_ ?_
      | refine LeO.bind ?_ (fun _ => ?_)
    · intro y0 y1 y2 y3 y4 y5 y6 y7 y8 y9
      unfold rundleref04_Meet.j9
      repeat' first
      | (with_reducible exact ih0 _ _ _ _ _ _ _ _ _)
      | (with_reducible exact ih1 _ _ _ _ _ _ _ _ _ _)
      | (with_reducible exact ih2 _ _ _ _ _ _ _ _ _)
      | (with_reducible exact ih3 _ _ _ _ _ _ _ _ _ _)
      | (with_reducible exact ih4 _ _ _ _ _ _ _ _ _)
      | (with_reducible exact ih5 _ _ _ _ _ _ _ _ _ _)
      | (with_reducible exact ih6 _ _ _ _ _ _ _ _ _)
      | (with_reducible exact ih7 _ _ _ _ _ _ _ _ _ _)
      | (with_reducible exact ih8 _ _ _ _ _ _ _ _ _)
      | (with_reducible exact ih9 _ _ _ _ _ _ _ _ _ _)
      | (with_reducible exact ih10 _ _ _ _ _ _ _ _ _)
      | (with_reducible exact ih11 _ _ _ _ _ _ _ _ _ _)
      | (with_reducible exact rundleref04_Less.mono _ _ _)
      | (with_reducible exact LeO.refl _)
      | (with_reducible exact LeO.none _)
      | (with_reducible refine LeO.ite ?_ ?_)
      | (with_reducible refine LeO.bind ?_ (fun _ => ?_))
      | exact ih0 _ _ _ _ _ _ _ _ _
      | exact ih1 _ _ _ _ _ _ _ _ _ _
      | exact ih2 _ _ _ _ _ _ _ _ _
      | exact ih3 _ _ _ _ _ _ _ _ _ _
      | exact ih4 _ _ _ _ _ _ _ _ _
      | exact ih5 _ _ _ _ _ _ _ _ _ _
      | exact ih6 _ _ _ _ _ _ _ _ _
      | exact ih7 _ _ _ _ _ _ _ _ _ _
      | exact ih8 _ _ _ _ _ _ _ _ _
      | exact ih9 _ _ _ _ _ _ _ _ _ _
      | exact ih10 _ _ _ _ _ _ _ _ _
      | exact ih11 _ _ _ _ _ _ _ _ _ _
      | exact rundleref04_Less.mono _ _ _
      | exact LeO.none _
      | refine LeO.ite ?_ ?_
      | refine LeO.bind ?_ (fun _ => ?_)
    · intro y0 y1 y2 y3 y4 y5 y6 y7 y8
      unfold rundleref04_Meet.j10
      repeat' first
      | (with_reducible exact ih0 _ _ _ _ _ _ _ _ _)
      | (with_reducible exact ih1 _ _ _ _ _ _ _ _ _ _)
      | (with_reducible exact ih2 _ _ _ _ _ _ _ _ _)
      | (with_reducible exact ih3 _ _ _ _ _ _ _ _ _ _)
      | (with_reducible exact ih4 _ _ _ _ _ _ _ _ _)
      | (with_reducible exact ih5 _ _ _ _ _ _ _ _ _ _)
      | (with_reducible exact ih6 _ _ _ _ _ _ _ _ _)
      | (with_reducible exact ih7 _ _ _ _ _ _ _ _ _ _)
      | (with_reducible exact ih8 _ _ _ _ _ _ _ _ _)
      | (with_reducible exact ih9 _ _ _ _ _ _ _ _ _ _)
      | (with_reducible exact ih10 _ _ _ _ _ _ _ _ _)
      | (with_reducible exact ih11 _ _ _ _ _ _ _ _ _ _)
      | (with_reducible exact rundleref04_Less.mono _ _ _)
      | (with_reducible exact LeO.refl _)
      | (with_reducible exact LeO.none _)
      | (with_reducible refine LeO.ite ?_ ?_)
      | (with_reducible refine LeO.bind ?_ (fun _ => ?_))
      | exact ih0 _ _ _ _ _ _ _ _ _
      | exact ih1 _ _ _ _ _ _ _ _ _ _
      | exact ih2 _ _ _ _ _ _ _ _ _
      | exact ih3 _ _ _ _ _ _ _ _ _ _
      | exact ih4 _ _ _ _ _ _ _ _ _
      | exact ih5 _ _ _ _ _ _ _ _ _ _
      | exact ih6 _ _ _ _ _ _ _ _ _
      | exact ih7 _ _ _ _ _ _ _ _ _ _
      | exact ih8 _ _ _ _ _ _ _ _ _
      | exact ih9 _ _ _ _ _ _ _ _ _ _
      | exact ih10 _ _ _ _ _ _ _ _ _
      | exact ih11 _ _ _ _ _ _ _ _ _ _
      | exact rundleref04_Less.mono _ _ _
      | exact LeO.none _
      | refine LeO.ite ?_ ?_
      | refine LeO.bind ?_ (fun _ => ?_)
    · intro y0 y1 y2 y3 y4 y5 y6 y7 y8 y9
      unfold rundleref04_Meet.j11
      repeat' first
      | (with_reducible exact ih0 _ _ _ _ _ _ _ _ _)
      | (with_reducible exact ih1 _ _ _ _ _ _ _ _ _ _)
      | (with_reducible exact ih2 _ _ _ _ _ _ _ _ _)
      | (with_reducible exact ih3 _ _ _ _ _ _ _ _ _ _)
      | (with_reducible exact ih4 _ _ _ _ _ _ _ _ _)
      | (with_reducible exact ih5 _ _ _ _ _ _ _ _ _ _)
      | (with_reducible exact ih6 _ _ _ _ _ _ _ _ _)
      | (with_reducible exact ih7 _ _ _ _ _ _ _ _ _ _)
      | (with_reducible exact ih8 _ _ _ _ _ _ _ _ _)
      | (with_reducible exact ih9 _ _ _ _ _ _ _ _ _ _)
      | (with_reducible exact ih10 _ _ _ _ _ _ _ _ _)
      | (with_reducible exact ih11 _ _ _ _ _ _ _ _ _ _)
      | (with_reducible exact rundleref04_Less.mono _ _ _)
      | (with_reducible exact LeO.refl _)
      | (with_reducible exact LeO.none _)
      | (with_reducible refine LeO.ite ?_ ?_)
      | (with_reducible refine LeO.bind ?_ (fun _ => ?_))
      | exact ih0 _ _ _ _ _ _ _ _ _
      | exact ih1 _ _ _ _ _ _ _ _ _ _
      | exact ih2 _ _ _ _ _ _ _ _ _
      | exact ih3 _ _ _ _ _ _ _ _ _ _
      | exact ih4 _ _ _ _ _ _ _ _ _
      | exact ih5 _ _ _ _ _ _ _ _ _ _
      | exact ih6 _ _ _ _ _ _ _ _ _
      | exact ih7 _ _ _ _ _ _ _ _ _ _
      | exact ih8 _ _ _ _ _ _ _ _ _
      | exact ih9 _ _ _ _ _ _ _ _ _ _
      | exact ih10 _ _ _ _ _ _ _ _ _
      | exact ih11 _ _ _ _ _ _ _ _ _ _
      | exact rundleref04_Less.mono _ _ _
      | exact LeO.none _
      | refine LeO.ite ?_ ?_
      | refine LeO.bind ?_ (fun _ => ?_)
theorem rundleref04_Meet.mono : ∀ a0 a1 a2 a3 a4 a5 k, LeO (rundleref04_Meet.f k a0 a1 a2 a3 a4 a5) (rundleref04_Meet.f (k + 1) a0 a1 a2 a3 a4 a5) := by
  intro a0 a1 a2 a3 a4 a5 k
  obtain ⟨ih0, ih1, ih2, ih3, ih4, ih5, ih6, ih7, ih8, ih9, ih10, ih11⟩ := rundleref04_Meet.mono_l k
  unfold rundleref04_Meet.f
  repeat' first
      | (with_reducible exact ih0 _ _ _ _ _ _ _ _ _)
      | (with_reducible exact ih1 _ _ _ _ _ _ _ _ _ _)
      | (with_reducible exact ih2 _ _ _ _ _ _ _ _ _)
      | (with_reducible exact ih3 _ _ _ _ _ _ _ _ _ _)
      | (with_reducible exact ih4 _ _ _ _ _ _ _ _ _)
      | (with_reducible exact ih5 _ _ _ _ _ _ _ _ _ _)
      | (with_reducible exact ih6 _ _ _ _ _ _ _ _ _)
      | (with_reducible exact ih7 _ _ _ _ _ _ _ _ _ _)
      | (with_reducible exact ih8 _ _ _ _ _ _ _ _ _)
      | (with_reducible exact ih9 _ _ _ _ _ _ _ _ _ _)
      | (with_reducible exact ih10 _ _ _ _ _ _ _ _ _)
      | (with_reducible exact ih11 _ _ _ _ _ _ _ _ _ _)
      | (with_reducible exact rundleref04_Less.mono _ _ _)
      | (with_reducible exact LeO.refl _)
      | (with_reducible exact LeO.none _)
      | (with_reducible refine LeO.ite ?_ ?_)
      | (with_reducible refine LeO.bind ?_ (fun _ => ?_))
      | exact ih0 _ _ _ _ _ _ _ _ _
      | exact ih1 _ _ _ _ _ _ _ _ _ _
      | exact ih2 _ _ _ _ _ _ _ _ _
      | exact ih3 _ _ _ _ _ _ _ _ _ _
      | exact ih4 _ _ _ _ _ _ _ _ _
      | exact ih5 _ _ _ _ _ _ _ _ _ _
      | exact ih6 _ _ _ _ _ _ _ _ _
      | exact ih7 _ _ _ _ _ _ _ _ _ _
      | exact ih8 _ _ _ _ _ _ _ _ _
      | exact ih9 _ _ _ _ _ _ _ _ _ _
      | exact ih10 _ _ _ _ _ _ _ _ _
      | exact ih11 _ _ _ _ _ _ _ _ _ _
      | exact rundleref04_Less.mono _ _ _
      | exact LeO.none _
      | refine LeO.ite ?_ ?_
      | refine LeO.bind ?_ (fun _ => ?_)
set_option maxHeartbeats 8000000 in
set_option maxRecDepth 100000 in
theorem rundleref04_Meet.calls (k : Nat) (a0_0 : ByteArray) (a0_1 : ByteArray) (a0_2 : Bool) (a1_0 : ByteArray) (a1_1 : ByteArray) (a1_2 : Bool) (r1 : ByteArray) (r2 : ByteArray) (r3 : Bool) (w : World) (h : rundleref04_Meet.f k a0_0 a0_1 a0_2 a1_0 a1_1 a1_2 = some (r1, r2, r3)) :
    Calls Try.prog 14 #[.agg #[.string a0_0, .string a0_1, .bool a0_2], .agg #[.string a1_0, .string a1_1, .bool a1_2]] w fun e w' => e = .returned (.agg #[.string r1, .string r2, .bool r3]) ∧ Below w.heap.size w w' := by
  have hu23 := Try.underlying23
  have HB := Aside0.mk (Below.refl w.heap.size w)
  have H : (if a0_2 = true then ((rundleref04_Less.f k a0_0 a1_0).bind fun t125 => (if t125 = true then (rundleref04_Meet.j0 k a0_0 a0_1 a0_2 a1_0 a1_1 a1_2 a1_0 (⟨#[]⟩ : ByteArray) a1_2) else (rundleref04_Meet.j0 k a0_0 a0_1 a0_2 a1_0 a1_1 a1_2 a0_0 (⟨#[]⟩ : ByteArray) a1_2))) else ((rundleref04_Less.f k a0_0 a1_0).bind fun t127 => (if t127 = true then (rundleref04_Meet.j6 k a0_0 a0_1 a0_2 a1_0 a1_1 a1_2 a1_0 (⟨#[]⟩ : ByteArray) false) else (rundleref04_Meet.j6 k a0_0 a0_1 a0_2 a1_0 a1_1 a1_2 a0_0 (⟨#[]⟩ : ByteArray) false)))) = some (r1, r2, r3) := h
  clear h
  by_cases c3 : a0_2 = true
  · subst c3
    have H1 : ((rundleref04_Less.f k a0_0 a1_0).bind fun t125 => (if t125 = true then (rundleref04_Meet.j0 k a0_0 a0_1 true a1_0 a1_1 a1_2 a1_0 (⟨#[]⟩ : ByteArray) a1_2) else (rundleref04_Meet.j0 k a0_0 a0_1 true a1_0 a1_1 a1_2 a0_0 (⟨#[]⟩ : ByteArray) a1_2))) = some (r1, r2, r3) := by rw [if_pos rfl] at H; exact H
    clear H
    have H := H1
    clear H1
    replace H := Option.bind_eq_some_iff.mp H
    obtain ⟨t125, A40, H⟩ := H
    replace H : (if t125 = true then (rundleref04_Meet.j0 k a0_0 a0_1 true a1_0 a1_1 a1_2 a1_0 (⟨#[]⟩ : ByteArray) a1_2) else (rundleref04_Meet.j0 k a0_0 a0_1 true a1_0 a1_1 a1_2 a0_0 (⟨#[]⟩ : ByteArray) a1_2)) = some (r1, r2, r3) := H
    have A4 := Aside0.mk A40
    clear A40
    have HC5 := Aside0.mk H
    clear H
    go_enter Try.func14, Try.ntmps14
    go_upto_if 19 with (first | ((with_reducible refine gate_dst (N := 2) rfl ?_); refine box_event ?hg (N := 2) ?hd (cs := #[.string a0_0, .string a0_1, .bool true]) (t := 23) ?hr ?_; (case hd => rfl); (case hg => rfl); (case hr => first | (go_simp; done) | (go_simp; rfl)); intro gb121 hg w6 hbox hb; have n0_ := Aside0.mk (below_step (by repeat (first | (with_reducible first | exact HB.out | apply below_alloc | apply pw_below_drewN | apply below_drew1) | exact HB.out)) hb); have n1_ := Aside0.mk (hbox); have n2_ := Aside0.mk ((by rw [hg]; exact (below_size (by repeat (first | (with_reducible first | exact HB.out | apply below_alloc | apply pw_below_drewN | apply below_drew1) | exact HB.out))) : w.heap.size ≤ gb121)); have n3_ := Aside0.mk ((by rw [hg]; exact (below_size (by repeat (first | (with_reducible first | exact HB.out | apply below_alloc | apply pw_below_drewN | apply below_drew1) | exact HB.out))) : w.heap.size ≤ gb121)); clear HB; have HB := n0_; have BK121 := n1_; have GW121 := n2_; have GE121 := n3_; clear n0_ n1_ n2_ n3_; clear hb hbox hg) | ((with_reducible refine gate_dst (N := 3) rfl ?_); refine box_event ?hg (N := 3) ?hd (cs := #[.string a1_0, .string a1_1, .bool a1_2]) (t := 23) ?hr ?_; (case hd => rfl); (case hg => rfl); (case hr => first | (go_simp; done) | (go_simp; rfl)); intro gb122 hg w7 hbox hb; have n0_ := Aside0.mk (blk_below (g := gb121) (o := .cells #[.string a0_0, .string a0_1, .bool true] 23 (0, 0)) (by (with_reducible repeat (first | refine blk_drewN ?_ _ | refine blk_drew ?_ | refine blk_alloc ?_ _)); exact BK121.out) hb); have n1_ := Aside0.mk (below_step (by repeat (first | (with_reducible first | exact HB.out | apply below_alloc | apply pw_below_drewN | apply below_drew1 | refine below_set ?_ GE121.out) | exact HB.out)) hb); have n2_ := Aside0.mk (hbox); have n3_ := Aside0.mk ((by rw [hg]; exact (below_size (by repeat (first | (with_reducible first | exact HB.out | apply below_alloc | apply pw_below_drewN | apply below_drew1 | refine below_set ?_ GE121.out) | exact HB.out))) : w.heap.size ≤ gb122)); have n4_ := Aside0.mk ((by rw [hg]; exact (below_size (by repeat (first | (with_reducible first | exact HB.out | apply below_alloc | apply pw_below_drewN | apply below_drew1 | refine below_set ?_ GE121.out) | exact HB.out))) : w.heap.size ≤ gb122)); have n5_ := Aside0.mk ((by rw [hg]; exact Nat.ne_of_lt (blk_lt (g := gb121) (o := .cells #[.string a0_0, .string a0_1, .bool true] 23 (0, 0)) (by (with_reducible repeat (first | refine blk_drewN ?_ _ | refine blk_drew ?_ | refine blk_alloc ?_ _)); exact BK121.out)) : gb121 ≠ gb122)); have n6_ := Aside0.mk ((by rw [hg]; exact Nat.ne_of_gt (blk_lt (g := gb121) (o := .cells #[.string a0_0, .string a0_1, .bool true] 23 (0, 0)) (by (with_reducible repeat (first | refine blk_drewN ?_ _ | refine blk_drew ?_ | refine blk_alloc ?_ _)); exact BK121.out)) : gb122 ≠ gb121)); clear BK121; clear HB; have BK121 := n0_; have HB := n1_; have BK122 := n2_; have GW122 := n3_; have GE122 := n4_; have NB121_122 := n5_; have NB122_121 := n6_; clear n0_ n1_ n2_ n3_ n4_ n5_ n6_; clear hb hbox hg) | ((with_reducible refine gate_dst (N := 4) rfl ?_); refine box_event ?hg (N := 4) ?hd (cs := #[.string (⟨#[]⟩ : ByteArray), .string (⟨#[]⟩ : ByteArray), .bool false]) (t := 23) ?hr ?_; (case hd => rfl); (case hg => rfl); (case hr => first | (go_simp; done) | (go_simp; rfl)); intro gb123 hg w8 hbox hb; have n0_ := Aside0.mk (blk_below (g := gb121) (o := .cells #[.string a0_0, .string a0_1, .bool true] 23 (0, 0)) (by (with_reducible repeat (first | refine blk_drewN ?_ _ | refine blk_drew ?_ | refine blk_alloc ?_ _)); exact BK121.out) hb); have n1_ := Aside0.mk (blk_below (g := gb122) (o := .cells #[.string a1_0, .string a1_1, .bool a1_2] 23 (0, 0)) (by (with_reducible repeat (first | refine blk_drewN ?_ _ | refine blk_drew ?_ | refine blk_alloc ?_ _)); exact BK122.out) hb); have n2_ := Aside0.mk (below_step (by repeat (first | (with_reducible first | exact HB.out | apply below_alloc | apply pw_below_drewN | apply below_drew1 | refine below_set ?_ GE121.out | refine below_set ?_ GE122.out) | exact HB.out)) hb); have n3_ := Aside0.mk (hbox); have n4_ := Aside0.mk ((by rw [hg]; exact (below_size (by repeat (first | (with_reducible first | exact HB.out | apply below_alloc | apply pw_below_drewN | apply below_drew1 | refine below_set ?_ GE121.out | refine below_set ?_ GE122.out) | exact HB.out))) : w.heap.size ≤ gb123)); have n5_ := Aside0.mk ((by rw [hg]; exact (below_size (by repeat (first | (with_reducible first | exact HB.out | apply below_alloc | apply pw_below_drewN | apply below_drew1 | refine below_set ?_ GE121.out | refine below_set ?_ GE122.out) | exact HB.out))) : w.heap.size ≤ gb123)); have n6_ := Aside0.mk ((by rw [hg]; exact Nat.ne_of_lt (blk_lt (g := gb121) (o := .cells #[.string a0_0, .string a0_1, .bool true] 23 (0, 0)) (by (with_reducible repeat (first | refine blk_drewN ?_ _ | refine blk_drew ?_ | refine blk_alloc ?_ _)); exact BK121.out)) : gb121 ≠ gb123)); have n7_ := Aside0.mk ((by rw [hg]; exact Nat.ne_of_gt (blk_lt (g := gb121) (o := .cells #[.string a0_0, .string a0_1, .bool true] 23 (0, 0)) (by (with_reducible repeat (first | refine blk_drewN ?_ _ | refine blk_drew ?_ | refine blk_alloc ?_ _)); exact BK121.out)) : gb123 ≠ gb121)); have n8_ := Aside0.mk ((by rw [hg]; exact Nat.ne_of_lt (blk_lt (g := gb122) (o := .cells #[.string a1_0, .string a1_1, .bool a1_2] 23 (0, 0)) (by (with_reducible repeat (first | refine blk_drewN ?_ _ | refine blk_drew ?_ | refine blk_alloc ?_ _)); exact BK122.out)) : gb122 ≠ gb123)); have n9_ := Aside0.mk ((by rw [hg]; exact Nat.ne_of_gt (blk_lt (g := gb122) (o := .cells #[.string a1_0, .string a1_1, .bool a1_2] 23 (0, 0)) (by (with_reducible repeat (first | refine blk_drewN ?_ _ | refine blk_drew ?_ | refine blk_alloc ?_ _)); exact BK122.out)) : gb123 ≠ gb122)); clear BK121; clear BK122; clear HB; have BK121 := n0_; have BK122 := n1_; have HB := n2_; have BK123 := n3_; have GW123 := n4_; have GE123 := n5_; have NB121_123 := n6_; have NB123_121 := n7_; have NB122_123 := n8_; have NB123_122 := n9_; clear n0_ n1_ n2_ n3_ n4_ n5_ n6_ n7_ n8_ n9_; clear hb hbox hg; have hnb9 := NB121_122.out; have hnc9 := NB122_121.out; have hnb10 := NB121_123.out; have hnc10 := NB123_121.out; have hcz11_0 : w8.cell? ⟨gb121, 0, none⟩ = some (.string a0_0) := (blk_cell BK121.out 0).trans rfl; have hcz11_1 : w8.cell? ⟨gb121, 1, none⟩ = some (.string a0_1) := (blk_cell BK121.out 1).trans rfl; have hcz11_2 : w8.cell? ⟨gb121, 2, none⟩ = some (.bool true) := (blk_cell BK121.out 2).trans rfl; have hfz11_0 := blk_frozen BK121.out 0; have hfz11_1 := blk_frozen BK121.out 1; have hfz11_2 := blk_frozen BK121.out 2; have hnb12 := NB122_123.out; have hnc12 := NB123_122.out; have hcz13_0 : w8.cell? ⟨gb122, 0, none⟩ = some (.string a1_0) := (blk_cell BK122.out 0).trans rfl; have hcz13_1 : w8.cell? ⟨gb122, 1, none⟩ = some (.string a1_1) := (blk_cell BK122.out 1).trans rfl; have hcz13_2 : w8.cell? ⟨gb122, 2, none⟩ = some (.bool a1_2) := (blk_cell BK122.out 2).trans rfl; have hfz13_0 := blk_frozen BK122.out 0; have hfz13_1 := blk_frozen BK122.out 1; have hfz13_2 := blk_frozen BK122.out 2) | ((with_reducible refine gate_dst (N := 5) rfl ?_); refine box_event ?hg (N := 5) ?hd (cs := #[.string (⟨#[]⟩ : ByteArray), .string (⟨#[]⟩ : ByteArray), .bool false]) (t := 23) ?hr ?_; (case hd => rfl); (case hg => rfl); (case hr => first | (go_simp; done) | (go_simp; rfl)); intro gb124 hg w14 hbox hb; have n0_ := Aside0.mk (blk_below (g := gb121) (o := .cells #[.string a0_0, .string a0_1, .bool true] 23 (0, 0)) (by (with_reducible repeat (first | refine blk_drewN ?_ _ | refine blk_drew ?_ | refine blk_alloc ?_ _)); exact BK121.out) hb); have n1_ := Aside0.mk (blk_below (g := gb122) (o := .cells #[.string a1_0, .string a1_1, .bool a1_2] 23 (0, 0)) (by (with_reducible repeat (first | refine blk_drewN ?_ _ | refine blk_drew ?_ | refine blk_alloc ?_ _)); exact BK122.out) hb); have n2_ := Aside0.mk (blk_below (g := gb123) (o := .cells #[.string (⟨#[]⟩ : ByteArray), .string (⟨#[]⟩ : ByteArray), .bool false] 23 (0, 0)) (by (with_reducible repeat (first | refine blk_drewN ?_ _ | refine blk_drew ?_ | refine blk_alloc ?_ _)); exact BK123.out) hb); have n3_ := Aside0.mk (below_step (by repeat (first | (with_reducible first | exact HB.out | apply below_alloc | apply pw_below_drewN | apply below_drew1 | refine below_set ?_ GE121.out | refine below_set ?_ GE122.out | refine below_set ?_ GE123.out) | exact HB.out)) hb); have n4_ := Aside0.mk (hbox); have n5_ := Aside0.mk ((by rw [hg]; exact (below_size (by repeat (first | (with_reducible first | exact HB.out | apply below_alloc | apply pw_below_drewN | apply below_drew1 | refine below_set ?_ GE121.out | refine below_set ?_ GE122.out | refine below_set ?_ GE123.out) | exact HB.out))) : w.heap.size ≤ gb124)); have n6_ := Aside0.mk ((by rw [hg]; exact (below_size (by repeat (first | (with_reducible first | exact HB.out | apply below_alloc | apply pw_below_drewN | apply below_drew1 | refine below_set ?_ GE121.out | refine below_set ?_ GE122.out | refine below_set ?_ GE123.out) | exact HB.out))) : w.heap.size ≤ gb124)); have n7_ := Aside0.mk ((by rw [hg]; exact Nat.ne_of_lt (blk_lt (g := gb121) (o := .cells #[.string a0_0, .string a0_1, .bool true] 23 (0, 0)) (by (with_reducible repeat (first | refine blk_drewN ?_ _ | refine blk_drew ?_ | refine blk_alloc ?_ _)); exact BK121.out)) : gb121 ≠ gb124)); have n8_ := Aside0.mk ((by rw [hg]; exact Nat.ne_of_gt (blk_lt (g := gb121) (o := .cells #[.string a0_0, .string a0_1, .bool true] 23 (0, 0)) (by (with_reducible repeat (first | refine blk_drewN ?_ _ | refine blk_drew ?_ | refine blk_alloc ?_ _)); exact BK121.out)) : gb124 ≠ gb121)); have n9_ := Aside0.mk ((by rw [hg]; exact Nat.ne_of_lt (blk_lt (g := gb122) (o := .cells #[.string a1_0, .string a1_1, .bool a1_2] 23 (0, 0)) (by (with_reducible repeat (first | refine blk_drewN ?_ _ | refine blk_drew ?_ | refine blk_alloc ?_ _)); exact BK122.out)) : gb122 ≠ gb124)); have n10_ := Aside0.mk ((by rw [hg]; exact Nat.ne_of_gt (blk_lt (g := gb122) (o := .cells #[.string a1_0, .string a1_1, .bool a1_2] 23 (0, 0)) (by (with_reducible repeat (first | refine blk_drewN ?_ _ | refine blk_drew ?_ | refine blk_alloc ?_ _)); exact BK122.out)) : gb124 ≠ gb122)); have n11_ := Aside0.mk ((by rw [hg]; exact Nat.ne_of_lt (blk_lt (g := gb123) (o := .cells #[.string (⟨#[]⟩ : ByteArray), .string (⟨#[]⟩ : ByteArray), .bool false] 23 (0, 0)) (by (with_reducible repeat (first | refine blk_drewN ?_ _ | refine blk_drew ?_ | refine blk_alloc ?_ _)); exact BK123.out)) : gb123 ≠ gb124)); have n12_ := Aside0.mk ((by rw [hg]; exact Nat.ne_of_gt (blk_lt (g := gb123) (o := .cells #[.string (⟨#[]⟩ : ByteArray), .string (⟨#[]⟩ : ByteArray), .bool false] 23 (0, 0)) (by (with_reducible repeat (first | refine blk_drewN ?_ _ | refine blk_drew ?_ | refine blk_alloc ?_ _)); exact BK123.out)) : gb124 ≠ gb123)); clear BK121; clear BK122; clear BK123; clear HB; have BK121 := n0_; have BK122 := n1_; have BK123 := n2_; have HB := n3_; have BK124 := n4_; have GW124 := n5_; have GE124 := n6_; have NB121_124 := n7_; have NB124_121 := n8_; have NB122_124 := n9_; have NB124_122 := n10_; have NB123_124 := n11_; have NB124_123 := n12_; clear n0_ n1_ n2_ n3_ n4_ n5_ n6_ n7_ n8_ n9_ n10_ n11_ n12_; clear hb hbox hg; have hnb15 := NB124_121.out; have hnc15 := NB121_124.out; have hnb16 := NB124_122.out; have hnc16 := NB122_124.out; have hnb17 := NB124_123.out; have hnc17 := NB123_124.out; have hcz18_0 : w14.cell? ⟨gb124, 0, none⟩ = some (.string (⟨#[]⟩ : ByteArray)) := (blk_cell BK124.out 0).trans rfl; have hcz18_1 : w14.cell? ⟨gb124, 1, none⟩ = some (.string (⟨#[]⟩ : ByteArray)) := (blk_cell BK124.out 1).trans rfl; have hcz18_2 : w14.cell? ⟨gb124, 2, none⟩ = some (.bool false) := (blk_cell BK124.out 2).trans rfl; have hfz18_0 := blk_frozen BK124.out 0; have hfz18_1 := blk_frozen BK124.out 1; have hfz18_2 := blk_frozen BK124.out 2; have hcz19_0 : w14.cell? ⟨gb121, 0, none⟩ = some (.string a0_0) := (blk_cell BK121.out 0).trans rfl; have hcz19_1 : w14.cell? ⟨gb121, 1, none⟩ = some (.string a0_1) := (blk_cell BK121.out 1).trans rfl; have hcz19_2 : w14.cell? ⟨gb121, 2, none⟩ = some (.bool true) := (blk_cell BK121.out 2).trans rfl; have hfz19_0 := blk_frozen BK121.out 0; have hfz19_1 := blk_frozen BK121.out 1; have hfz19_2 := blk_frozen BK121.out 2; have hcz20_0 : w14.cell? ⟨gb122, 0, none⟩ = some (.string a1_0) := (blk_cell BK122.out 0).trans rfl; have hcz20_1 : w14.cell? ⟨gb122, 1, none⟩ = some (.string a1_1) := (blk_cell BK122.out 1).trans rfl; have hcz20_2 : w14.cell? ⟨gb122, 2, none⟩ = some (.bool a1_2) := (blk_cell BK122.out 2).trans rfl; have hfz20_0 := blk_frozen BK122.out 0; have hfz20_1 := blk_frozen BK122.out 1; have hfz20_2 := blk_frozen BK122.out 2) | ((with_reducible refine gate_callee (f := 23) rfl ?_); refine goesL_ (some 19) rfl rfl Try.func23 (by kernel_rfl) rfl #[.string a0_0, .string a1_0] rfl (by (try simp only [List.map_toArray, List.map_cons, List.map_nil]); first | done | rfl | (simp only [List.length_drop, List.length_take]; rfl)) ?_; (with_reducible refine (rundleref04_Less.calls k a0_0 a1_0 t125 _ A4.out).mono ?_); rintro e w' ⟨rfl, ⟨nd, rfl⟩⟩; refine ⟨_, rfl, ?_⟩))
    (try simp only [Act.put, List.setIfInBounds_toArray, List.set_cons_zero, List.set_cons_succ])
    go_cut [] (fun wc => ∃ (kq : Nat) (x125000_4 : ByteArray), Aside0 (rundleref04_Meet.j0 kq a0_0 a0_1 true a1_0 a1_1 a1_2 x125000_4 (⟨#[]⟩ : ByteArray) a1_2 = some (r1, r2, r3)) ∧ Aside0 (kq ≤ k) ∧ Aside0 (wc.heap[gb121]? = some (.cells #[.string a0_0, .string a0_1, .bool true] 23 (0, 0))) ∧ Aside0 (wc.heap[gb122]? = some (.cells #[.string a1_0, .string a1_1, .bool a1_2] 23 (0, 0))) ∧ Aside0 (wc.heap[gb123]? = some (.cells #[.string (⟨#[]⟩ : ByteArray), .string (⟨#[]⟩ : ByteArray), .bool false] 23 (0, 0))) ∧ Aside0 (wc.heap[gb124]? = some (.cells #[.string x125000_4, .string (⟨#[]⟩ : ByteArray), .bool a1_2] 23 (0, 0))) ∧ Aside0 (Below w.heap.size w wc))
    case first =>
      have H := HC5.out
      clear HC5
      by_cases c21 : t125 = true
      · subst c21
        have H1 : (rundleref04_Meet.j0 k a0_0 a0_1 true a1_0 a1_1 a1_2 a1_0 (⟨#[]⟩ : ByteArray) a1_2) = some (r1, r2, r3) := by rw [if_pos rfl] at H; exact H
        clear H
        have H := H1
        clear H1
        have H' := Aside0.mk H
        clear H
        have hnb22 := NB122_121.out
        have hnc22 := NB121_122.out
        have hnb23 := NB122_123.out
        have hnc23 := NB123_122.out
        have hnb24 := NB122_124.out
        have hnc24 := NB124_122.out
        have hcz25_0 : w14.cell? ⟨gb122, 0, none⟩ = some (.string a1_0) := (blk_cell BK122.out 0).trans rfl
        have hcz25_1 : w14.cell? ⟨gb122, 1, none⟩ = some (.string a1_1) := (blk_cell BK122.out 1).trans rfl
        have hcz25_2 : w14.cell? ⟨gb122, 2, none⟩ = some (.bool a1_2) := (blk_cell BK122.out 2).trans rfl
        have hfz25_0 := blk_frozen BK122.out 0
        have hfz25_1 := blk_frozen BK122.out 1
        have hfz25_2 := blk_frozen BK122.out 2
        have hnb26 := NB124_121.out
        have hnc26 := NB121_124.out
        have hnb27 := NB124_123.out
        have hnc27 := NB123_124.out
        have hcz28_0 : w14.cell? ⟨gb124, 0, none⟩ = some (.string (⟨#[]⟩ : ByteArray)) := (blk_cell BK124.out 0).trans rfl
        have hcz28_1 : w14.cell? ⟨gb124, 1, none⟩ = some (.string (⟨#[]⟩ : ByteArray)) := (blk_cell BK124.out 1).trans rfl
        have hcz28_2 : w14.cell? ⟨gb124, 2, none⟩ = some (.bool false) := (blk_cell BK124.out 2).trans rfl
        have hfz28_0 := blk_frozen BK124.out 0
        have hfz28_1 := blk_frozen BK124.out 1
        have hfz28_2 := blk_frozen BK124.out 2
        go_wp2
        go_meet
        case rel => exact ⟨_, (a1_0), H', ⟨by first | omega | exact Nat.le_refl _⟩, ⟨by (with_reducible repeat (first | refine blk_drewN ?_ _ | refine blk_drew ?_ | refine blk_alloc ?_ _)); refine blk_far ?_ NB121_124.out _; (with_reducible repeat (first | refine blk_drewN ?_ _ | refine blk_drew ?_ | refine blk_alloc ?_ _)); refine blk_far ?_ NB121_124.out _; (with_reducible repeat (first | refine blk_drewN ?_ _ | refine blk_drew ?_ | refine blk_alloc ?_ _)); refine blk_far ?_ NB121_124.out _; (with_reducible repeat (first | refine blk_drewN ?_ _ | refine blk_drew ?_ | refine blk_alloc ?_ _)); refine blk_far ?_ NB121_124.out _; (with_reducible repeat (first | refine blk_drewN ?_ _ | refine blk_drew ?_ | refine blk_alloc ?_ _)); exact BK121.out⟩, ⟨by (with_reducible repeat (first | refine blk_drewN ?_ _ | refine blk_drew ?_ | refine blk_alloc ?_ _)); refine blk_far ?_ NB122_124.out _; (with_reducible repeat (first | refine blk_drewN ?_ _ | refine blk_drew ?_ | refine blk_alloc ?_ _)); refine blk_far ?_ NB122_124.out _; (with_reducible repeat (first | refine blk_drewN ?_ _ | refine blk_drew ?_ | refine blk_alloc ?_ _)); refine blk_far ?_ NB122_124.out _; (with_reducible repeat (first | refine blk_drewN ?_ _ | refine blk_drew ?_ | refine blk_alloc ?_ _)); refine blk_far ?_ NB122_124.out _; (with_reducible repeat (first | refine blk_drewN ?_ _ | refine blk_drew ?_ | refine blk_alloc ?_ _)); exact BK122.out⟩, ⟨by (with_reducible repeat (first | refine blk_drewN ?_ _ | refine blk_drew ?_ | refine blk_alloc ?_ _)); refine blk_far ?_ NB123_124.out _; (with_reducible repeat (first | refine blk_drewN ?_ _ | refine blk_drew ?_ | refine blk_alloc ?_ _)); refine blk_far ?_ NB123_124.out _; (with_reducible repeat (first | refine blk_drewN ?_ _ | refine blk_drew ?_ | refine blk_alloc ?_ _)); refine blk_far ?_ NB123_124.out _; (with_reducible repeat (first | refine blk_drewN ?_ _ | refine blk_drew ?_ | refine blk_alloc ?_ _)); refine blk_far ?_ NB123_124.out _; (with_reducible repeat (first | refine blk_drewN ?_ _ | refine blk_drew ?_ | refine blk_alloc ?_ _)); exact BK123.out⟩, ⟨by (with_reducible repeat (first | refine blk_drewN ?_ _ | refine blk_drew ?_ | refine blk_alloc ?_ _)); refine blk_put (cs := #[.string a0_0, .string (⟨#[]⟩ : ByteArray), .bool a1_2]) ?_ 0 _ rfl; (with_reducible repeat (first | refine blk_drewN ?_ _ | refine blk_drew ?_ | refine blk_alloc ?_ _)); refine blk_put (cs := #[.string a0_0, .string (⟨#[]⟩ : ByteArray), .bool false]) ?_ 2 _ rfl; (with_reducible repeat (first | refine blk_drewN ?_ _ | refine blk_drew ?_ | refine blk_alloc ?_ _)); refine blk_put (cs := #[.string a0_0, .string (⟨#[]⟩ : ByteArray), .bool false]) ?_ 1 _ rfl; (with_reducible repeat (first | refine blk_drewN ?_ _ | refine blk_drew ?_ | refine blk_alloc ?_ _)); refine blk_put (cs := #[.string (⟨#[]⟩ : ByteArray), .string (⟨#[]⟩ : ByteArray), .bool false]) ?_ 0 _ rfl; (with_reducible repeat (first | refine blk_drewN ?_ _ | refine blk_drew ?_ | refine blk_alloc ?_ _)); exact BK124.out⟩, ⟨by repeat (first | (with_reducible first | exact HB.out | apply below_alloc | apply pw_below_drewN | apply below_drew1 | refine below_set ?_ GE121.out | refine below_set ?_ GE122.out | refine below_set ?_ GE123.out | refine below_set ?_ GE124.out) | exact HB.out)⟩⟩
      · replace c21 := Bool.eq_false_iff.mpr c21
        subst c21
        have H1 : (rundleref04_Meet.j0 k a0_0 a0_1 true a1_0 a1_1 a1_2 a0_0 (⟨#[]⟩ : ByteArray) a1_2) = some (r1, r2, r3) := by rw [if_neg (show ¬ (false = true) by decide)] at H; exact H
        clear H
        have H := H1
        clear H1
        have H' := Aside0.mk H
        clear H
        go_wp2
        go_meet
        case rel => exact ⟨_, (a0_0), H', ⟨by first | omega | exact Nat.le_refl _⟩, ⟨by (with_reducible repeat (first | refine blk_drewN ?_ _ | refine blk_drew ?_ | refine blk_alloc ?_ _)); refine blk_far ?_ NB121_124.out _; (with_reducible repeat (first | refine blk_drewN ?_ _ | refine blk_drew ?_ | refine blk_alloc ?_ _)); refine blk_far ?_ NB121_124.out _; (with_reducible repeat (first | refine blk_drewN ?_ _ | refine blk_drew ?_ | refine blk_alloc ?_ _)); refine blk_far ?_ NB121_124.out _; (with_reducible repeat (first | refine blk_drewN ?_ _ | refine blk_drew ?_ | refine blk_alloc ?_ _)); exact BK121.out⟩, ⟨by (with_reducible repeat (first | refine blk_drewN ?_ _ | refine blk_drew ?_ | refine blk_alloc ?_ _)); refine blk_far ?_ NB122_124.out _; (with_reducible repeat (first | refine blk_drewN ?_ _ | refine blk_drew ?_ | refine blk_alloc ?_ _)); refine blk_far ?_ NB122_124.out _; (with_reducible repeat (first | refine blk_drewN ?_ _ | refine blk_drew ?_ | refine blk_alloc ?_ _)); refine blk_far ?_ NB122_124.out _; (with_reducible repeat (first | refine blk_drewN ?_ _ | refine blk_drew ?_ | refine blk_alloc ?_ _)); exact BK122.out⟩, ⟨by (with_reducible repeat (first | refine blk_drewN ?_ _ | refine blk_drew ?_ | refine blk_alloc ?_ _)); refine blk_far ?_ NB123_124.out _; (with_reducible repeat (first | refine blk_drewN ?_ _ | refine blk_drew ?_ | refine blk_alloc ?_ _)); refine blk_far ?_ NB123_124.out _; (with_reducible repeat (first | refine blk_drewN ?_ _ | refine blk_drew ?_ | refine blk_alloc ?_ _)); refine blk_far ?_ NB123_124.out _; (with_reducible repeat (first | refine blk_drewN ?_ _ | refine blk_drew ?_ | refine blk_alloc ?_ _)); exact BK123.out⟩, ⟨by (with_reducible repeat (first | refine blk_drewN ?_ _ | refine blk_drew ?_ | refine blk_alloc ?_ _)); refine blk_put (cs := #[.string a0_0, .string (⟨#[]⟩ : ByteArray), .bool false]) ?_ 2 _ rfl; (with_reducible repeat (first | refine blk_drewN ?_ _ | refine blk_drew ?_ | refine blk_alloc ?_ _)); refine blk_put (cs := #[.string a0_0, .string (⟨#[]⟩ : ByteArray), .bool false]) ?_ 1 _ rfl; (with_reducible repeat (first | refine blk_drewN ?_ _ | refine blk_drew ?_ | refine blk_alloc ?_ _)); refine blk_put (cs := #[.string (⟨#[]⟩ : ByteArray), .string (⟨#[]⟩ : ByteArray), .bool false]) ?_ 0 _ rfl; (with_reducible repeat (first | refine blk_drewN ?_ _ | refine blk_drew ?_ | refine blk_alloc ?_ _)); exact BK124.out⟩, ⟨by repeat (first | (with_reducible first | exact HB.out | apply below_alloc | apply pw_below_drewN | apply below_drew1 | refine below_set ?_ GE121.out | refine below_set ?_ GE122.out | refine below_set ?_ GE123.out | refine below_set ?_ GE124.out) | exact HB.out)⟩⟩
    case rest =>
      clear HC5
      try clear c1
      try clear c2
      try clear p2
      try clear c3
      try clear c9
      try clear c10
      try clear c12
      try clear c14
      try clear c15
      try clear c16
      try clear c17
      try clear c21
      try clear c22
      try clear c23
      try clear c24
      try clear c26
      try clear c27
      try clear hcz11_0
      try clear hcz11_1
      try clear hcz11_2
      try clear hcz13_0
      try clear hcz13_1
      try clear hcz13_2
      try clear hcz18_0
      try clear hcz18_1
      try clear hcz18_2
      try clear hcz19_0
      try clear hcz19_1
      try clear hcz19_2
      try clear hcz20_0
      try clear hcz20_1
      try clear hcz20_2
      try clear hcz25_0
      try clear hcz25_1
      try clear hcz25_2
      try clear hcz28_0
      try clear hcz28_1
      try clear hcz28_2
      try clear hfz11_0
      try clear hfz11_1
      try clear hfz11_2
      try clear hfz13_0
      try clear hfz13_1
      try clear hfz13_2
      try clear hfz18_0
      try clear hfz18_1
      try clear hfz18_2
      try clear hfz19_0
      try clear hfz19_1
      try clear hfz19_2
      try clear hfz20_0
      try clear hfz20_1
      try clear hfz20_2
      try clear hfz25_0
      try clear hfz25_1
      try clear hfz25_2
      try clear hfz28_0
      try clear hfz28_1
      try clear hfz28_2
      obtain ⟨kq, x125000_4, HA, HJ4, BK121, BK122, BK123, BK124, HB⟩ := hcut
      cases kq with
      | zero => exact absurd HA.out (by simp [rundleref04_Meet.j0])
      | succ kj4 =>
        have H := HA.out
        clear HA
        simp only [rundleref04_Meet.j0] at H
        have HC29 := Aside0.mk H
        clear H
        go_upto_region 4 with (fail)
        go_cut [29] (fun v29 wc => ∃ (kq : Nat) (x29_28 : Bool), v29 = .bool x29_28 ∧ Aside0 (rundleref04_Meet.j1 kq x29_28 a0_0 a0_1 true a1_0 a1_1 a1_2 x125000_4 (⟨#[]⟩ : ByteArray) a1_2 = some (r1, r2, r3)) ∧ Aside0 (kq ≤ kj4) ∧ Aside0 (wc.heap[gb121]? = some (.cells #[.string a0_0, .string a0_1, .bool true] 23 (0, 0))) ∧ Aside0 (wc.heap[gb122]? = some (.cells #[.string a1_0, .string a1_1, .bool a1_2] 23 (0, 0))) ∧ Aside0 (wc.heap[gb123]? = some (.cells #[.string (⟨#[]⟩ : ByteArray), .string (⟨#[]⟩ : ByteArray), .bool false] 23 (0, 0))) ∧ Aside0 (wc.heap[gb124]? = some (.cells #[.string x125000_4, .string (⟨#[]⟩ : ByteArray), .bool a1_2] 23 (0, 0))) ∧ Aside0 (Below w.heap.size w wc))
        case first =>
          have H := HC29.out
          clear HC29
          have H1 : (rundleref04_Meet.j1 kj4 (!a1_2) a0_0 a0_1 true a1_0 a1_1 a1_2 x125000_4 (⟨#[]⟩ : ByteArray) a1_2) = some (r1, r2, r3) := by first | (rw [if_pos rfl] at H; exact H) | (simp only [if_true, Bool.false_eq_true, if_false] at H; exact H)
          clear H
          have H := H1
          clear H1
          have H' := Aside0.mk H
          clear H
          have hnb30 := NB121_122.out
          have hnc30 := NB122_121.out
          have hnb31 := NB121_123.out
          have hnc31 := NB123_121.out
          have hnb32 := NB121_124.out
          have hnc32 := NB124_121.out
          have hcz33_0 : wc.cell? ⟨gb121, 0, none⟩ = some (.string a0_0) := (blk_cell BK121.out 0).trans rfl
          have hcz33_1 : wc.cell? ⟨gb121, 1, none⟩ = some (.string a0_1) := (blk_cell BK121.out 1).trans rfl
          have hcz33_2 : wc.cell? ⟨gb121, 2, none⟩ = some (.bool true) := (blk_cell BK121.out 2).trans rfl
          have hfz33_0 := blk_frozen BK121.out 0
          have hfz33_1 := blk_frozen BK121.out 1
          have hfz33_2 := blk_frozen BK121.out 2
          have hnb34 := NB122_123.out
          have hnc34 := NB123_122.out
          have hnb35 := NB122_124.out
          have hnc35 := NB124_122.out
          have hcz36_0 : wc.cell? ⟨gb122, 0, none⟩ = some (.string a1_0) := (blk_cell BK122.out 0).trans rfl
          have hcz36_1 : wc.cell? ⟨gb122, 1, none⟩ = some (.string a1_1) := (blk_cell BK122.out 1).trans rfl
          have hcz36_2 : wc.cell? ⟨gb122, 2, none⟩ = some (.bool a1_2) := (blk_cell BK122.out 2).trans rfl
          have hfz36_0 := blk_frozen BK122.out 0
          have hfz36_1 := blk_frozen BK122.out 1
          have hfz36_2 := blk_frozen BK122.out 2
          go_wp2
          go_meet
          case rel => exact ⟨_, (!a1_2), (by first | rfl | (simp; done) | (simp [*]; done)), H', ⟨by have := HJ4.out; first | omega | exact Nat.le_refl _⟩, ⟨by (with_reducible repeat (first | refine blk_drewN ?_ _ | refine blk_drew ?_ | refine blk_alloc ?_ _)); exact BK121.out⟩, ⟨by (with_reducible repeat (first | refine blk_drewN ?_ _ | refine blk_drew ?_ | refine blk_alloc ?_ _)); exact BK122.out⟩, ⟨by (with_reducible repeat (first | refine blk_drewN ?_ _ | refine blk_drew ?_ | refine blk_alloc ?_ _)); exact BK123.out⟩, ⟨by (with_reducible repeat (first | refine blk_drewN ?_ _ | refine blk_drew ?_ | refine blk_alloc ?_ _)); exact BK124.out⟩, ⟨by repeat (first | (with_reducible first | exact HB.out | apply below_alloc | apply pw_below_drewN | apply below_drew1 | refine below_set ?_ GE121.out | refine below_set ?_ GE122.out | refine below_set ?_ GE123.out | refine below_set ?_ GE124.out) | exact HB.out)⟩⟩
        case rest =>
          clear HC29
          try clear c1
          try clear c2
          try clear p2
          try clear c3
          try clear c9
          try clear c10
          try clear c12
          try clear c14
          try clear c15
          try clear c16
          try clear c17
          try clear c21
          try clear c22
          try clear c23
          try clear c24
          try clear c26
          try clear c27
          try clear c30
          try clear c31
          try clear c32
          try clear c34
          try clear c35
          try clear hcz11_0
          try clear hcz11_1
          try clear hcz11_2
          try clear hcz13_0
          try clear hcz13_1
          try clear hcz13_2
          try clear hcz18_0
          try clear hcz18_1
          try clear hcz18_2
          try clear hcz19_0
          try clear hcz19_1
          try clear hcz19_2
          try clear hcz20_0
          try clear hcz20_1
          try clear hcz20_2
          try clear hcz25_0
          try clear hcz25_1
          try clear hcz25_2
          try clear hcz28_0
          try clear hcz28_1
          try clear hcz28_2
          try clear hcz33_0
          try clear hcz33_1
          try clear hcz33_2
          try clear hcz36_0
          try clear hcz36_1
          try clear hcz36_2
          try clear hfz11_0
          try clear hfz11_1
          try clear hfz11_2
          try clear hfz13_0
          try clear hfz13_1
          try clear hfz13_2
          try clear hfz18_0
          try clear hfz18_1
          try clear hfz18_2
          try clear hfz19_0
          try clear hfz19_1
          try clear hfz19_2
          try clear hfz20_0
          try clear hfz20_1
          try clear hfz20_2
          try clear hfz25_0
          try clear hfz25_1
          try clear hfz25_2
          try clear hfz28_0
          try clear hfz28_1
          try clear hfz28_2
          try clear hfz33_0
          try clear hfz33_1
          try clear hfz33_2
          try clear hfz36_0
          try clear hfz36_1
          try clear hfz36_2
          try clear p2
          obtain ⟨kq, x29_28, rfl, HA, HJ28, BK121, BK122, BK123, BK124, HB⟩ := hcut
          cases kq with
          | zero => exact absurd HA.out (by simp [rundleref04_Meet.j1])
          | succ kj28 =>
            have H := HA.out
            clear HA
            simp only [rundleref04_Meet.j1] at H
            have HC37 := Aside0.mk H
            clear H
            go_upto_if 29 with (fail)
            go_cut [] (fun wc => ∃ (kq : Nat) (x125001_36 : ByteArray), Aside0 (rundleref04_Meet.j2 kq a0_0 a0_1 true a1_0 a1_1 a1_2 x125000_4 x125001_36 a1_2 = some (r1, r2, r3)) ∧ Aside0 (kq ≤ kj28) ∧ Aside0 (wc.heap[gb121]? = some (.cells #[.string a0_0, .string a0_1, .bool true] 23 (0, 0))) ∧ Aside0 (wc.heap[gb122]? = some (.cells #[.string a1_0, .string a1_1, .bool a1_2] 23 (0, 0))) ∧ Aside0 (wc.heap[gb123]? = some (.cells #[.string (⟨#[]⟩ : ByteArray), .string (⟨#[]⟩ : ByteArray), .bool false] 23 (0, 0))) ∧ Aside0 (wc.heap[gb124]? = some (.cells #[.string x125000_4, .string x125001_36, .bool a1_2] 23 (0, 0))) ∧ Aside0 (Below w.heap.size w wc))
            case first =>
              have H := HC37.out
              clear HC37
              by_cases c38 : x29_28 = true
              · subst c38
                have H1 : (rundleref04_Meet.j2 kj28 a0_0 a0_1 true a1_0 a1_1 a1_2 x125000_4 a1_1 a1_2) = some (r1, r2, r3) := by rw [if_pos rfl] at H; exact H
                clear H
                have H := H1
                clear H1
                have H' := Aside0.mk H
                clear H
                have hnb39 := NB122_121.out
                have hnc39 := NB121_122.out
                have hnb40 := NB122_123.out
                have hnc40 := NB123_122.out
                have hnb41 := NB122_124.out
                have hnc41 := NB124_122.out
                have hcz42_0 : wc.cell? ⟨gb122, 0, none⟩ = some (.string a1_0) := (blk_cell BK122.out 0).trans rfl
                have hcz42_1 : wc.cell? ⟨gb122, 1, none⟩ = some (.string a1_1) := (blk_cell BK122.out 1).trans rfl
                have hcz42_2 : wc.cell? ⟨gb122, 2, none⟩ = some (.bool a1_2) := (blk_cell BK122.out 2).trans rfl
                have hfz42_0 := blk_frozen BK122.out 0
                have hfz42_1 := blk_frozen BK122.out 1
                have hfz42_2 := blk_frozen BK122.out 2
                have hnb43 := NB124_121.out
                have hnc43 := NB121_124.out
                have hnb44 := NB124_123.out
                have hnc44 := NB123_124.out
                have hcz45_0 : wc.cell? ⟨gb124, 0, none⟩ = some (.string x125000_4) := (blk_cell BK124.out 0).trans rfl
                have hcz45_1 : wc.cell? ⟨gb124, 1, none⟩ = some (.string (⟨#[]⟩ : ByteArray)) := (blk_cell BK124.out 1).trans rfl
                have hcz45_2 : wc.cell? ⟨gb124, 2, none⟩ = some (.bool a1_2) := (blk_cell BK124.out 2).trans rfl
                have hfz45_0 := blk_frozen BK124.out 0
                have hfz45_1 := blk_frozen BK124.out 1
                have hfz45_2 := blk_frozen BK124.out 2
                go_wp2
                go_meet
                case rel => exact ⟨_, (a1_1), H', ⟨by have := HJ4.out; have := HJ28.out; first | omega | exact Nat.le_refl _⟩, ⟨by (with_reducible repeat (first | refine blk_drewN ?_ _ | refine blk_drew ?_ | refine blk_alloc ?_ _)); refine blk_far ?_ NB121_124.out _; (with_reducible repeat (first | refine blk_drewN ?_ _ | refine blk_drew ?_ | refine blk_alloc ?_ _)); exact BK121.out⟩, ⟨by (with_reducible repeat (first | refine blk_drewN ?_ _ | refine blk_drew ?_ | refine blk_alloc ?_ _)); refine blk_far ?_ NB122_124.out _; (with_reducible repeat (first | refine blk_drewN ?_ _ | refine blk_drew ?_ | refine blk_alloc ?_ _)); exact BK122.out⟩, ⟨by (with_reducible repeat (first | refine blk_drewN ?_ _ | refine blk_drew ?_ | refine blk_alloc ?_ _)); refine blk_far ?_ NB123_124.out _; (with_reducible repeat (first | refine blk_drewN ?_ _ | refine blk_drew ?_ | refine blk_alloc ?_ _)); exact BK123.out⟩, ⟨by (with_reducible repeat (first | refine blk_drewN ?_ _ | refine blk_drew ?_ | refine blk_alloc ?_ _)); refine blk_put (cs := #[.string x125000_4, .string (⟨#[]⟩ : ByteArray), .bool a1_2]) ?_ 1 _ rfl; (with_reducible repeat (first | refine blk_drewN ?_ _ | refine blk_drew ?_ | refine blk_alloc ?_ _)); exact BK124.out⟩, ⟨by repeat (first | (with_reducible first | exact HB.out | apply below_alloc | apply pw_below_drewN | apply below_drew1 | refine below_set ?_ GE121.out | refine below_set ?_ GE122.out | refine below_set ?_ GE123.out | refine below_set ?_ GE124.out) | exact HB.out)⟩⟩
              · replace c38 := Bool.eq_false_iff.mpr c38
                subst c38
                have H1 : (rundleref04_Meet.j2 kj28 a0_0 a0_1 true a1_0 a1_1 a1_2 x125000_4 (⟨#[]⟩ : ByteArray) a1_2) = some (r1, r2, r3) := by rw [if_neg (show ¬ (false = true) by decide)] at H; exact H
                clear H
                have H := H1
                clear H1
                have H' := Aside0.mk H
                clear H
                go_wp2
                go_meet
                case rel => exact ⟨_, ((⟨#[]⟩ : ByteArray)), H', ⟨by have := HJ4.out; have := HJ28.out; first | omega | exact Nat.le_refl _⟩, ⟨by (with_reducible repeat (first | refine blk_drewN ?_ _ | refine blk_drew ?_ | refine blk_alloc ?_ _)); exact BK121.out⟩, ⟨by (with_reducible repeat (first | refine blk_drewN ?_ _ | refine blk_drew ?_ | refine blk_alloc ?_ _)); exact BK122.out⟩, ⟨by (with_reducible repeat (first | refine blk_drewN ?_ _ | refine blk_drew ?_ | refine blk_alloc ?_ _)); exact BK123.out⟩, ⟨by (with_reducible repeat (first | refine blk_drewN ?_ _ | refine blk_drew ?_ | refine blk_alloc ?_ _)); exact BK124.out⟩, ⟨by repeat (first | (with_reducible first | exact HB.out | apply below_alloc | apply pw_below_drewN | apply below_drew1 | refine below_set ?_ GE121.out | refine below_set ?_ GE122.out | refine below_set ?_ GE123.out | refine below_set ?_ GE124.out) | exact HB.out)⟩⟩
            case rest =>
              clear HC37
              try clear c1
              try clear c2
              try clear p2
              try clear c3
              try clear c4
              try clear c9
              try clear c10
              try clear c12
              try clear c14
              try clear c15
              try clear c16
              try clear c17
              try clear c21
              try clear c22
              try clear c23
              try clear c24
              try clear c26
              try clear c27
              try clear c30
              try clear c31
              try clear c32
              try clear c34
              try clear c35
              try clear c38
              try clear c39
              try clear c40
              try clear c41
              try clear c43
              try clear c44
              try clear hcz11_0
              try clear hcz11_1
              try clear hcz11_2
              try clear hcz13_0
              try clear hcz13_1
              try clear hcz13_2
              try clear hcz18_0
              try clear hcz18_1
              try clear hcz18_2
              try clear hcz19_0
              try clear hcz19_1
              try clear hcz19_2
              try clear hcz20_0
              try clear hcz20_1
              try clear hcz20_2
              try clear hcz25_0
              try clear hcz25_1
              try clear hcz25_2
              try clear hcz28_0
              try clear hcz28_1
              try clear hcz28_2
              try clear hcz33_0
              try clear hcz33_1
              try clear hcz33_2
              try clear hcz36_0
              try clear hcz36_1
              try clear hcz36_2
              try clear hcz42_0
              try clear hcz42_1
              try clear hcz42_2
              try clear hcz45_0
              try clear hcz45_1
              try clear hcz45_2
              try clear hfz11_0
              try clear hfz11_1
              try clear hfz11_2
              try clear hfz13_0
              try clear hfz13_1
              try clear hfz13_2
              try clear hfz18_0
              try clear hfz18_1
              try clear hfz18_2
              try clear hfz19_0
              try clear hfz19_1
              try clear hfz19_2
              try clear hfz20_0
              try clear hfz20_1
              try clear hfz20_2
              try clear hfz25_0
              try clear hfz25_1
              try clear hfz25_2
              try clear hfz28_0
              try clear hfz28_1
              try clear hfz28_2
              try clear hfz33_0
              try clear hfz33_1
              try clear hfz33_2
              try clear hfz36_0
              try clear hfz36_1
              try clear hfz36_2
              try clear hfz42_0
              try clear hfz42_1
              try clear hfz42_2
              try clear hfz45_0
              try clear hfz45_1
              try clear hfz45_2
              try clear p2
              obtain ⟨kq, x125001_36, HA, HJ36, BK121, BK122, BK123, BK124, HB⟩ := hcut
              cases kq with
              | zero => exact absurd HA.out (by simp [rundleref04_Meet.j2])
              | succ kj36 =>
                have H := HA.out
                clear HA
                simp only [rundleref04_Meet.j2] at H
                have HC46 := Aside0.mk H
                clear H
                go_upto_region 6 with (fail)
                go_cut [39] (fun v39 wc => ∃ (kq : Nat) (x39_45 : Bool), v39 = .bool x39_45 ∧ Aside0 (rundleref04_Meet.j3 kq x39_45 a0_0 a0_1 true a1_0 a1_1 a1_2 x125000_4 x125001_36 a1_2 = some (r1, r2, r3)) ∧ Aside0 (kq ≤ kj36) ∧ Aside0 (wc.heap[gb121]? = some (.cells #[.string a0_0, .string a0_1, .bool true] 23 (0, 0))) ∧ Aside0 (wc.heap[gb122]? = some (.cells #[.string a1_0, .string a1_1, .bool a1_2] 23 (0, 0))) ∧ Aside0 (wc.heap[gb123]? = some (.cells #[.string (⟨#[]⟩ : ByteArray), .string (⟨#[]⟩ : ByteArray), .bool false] 23 (0, 0))) ∧ Aside0 (wc.heap[gb124]? = some (.cells #[.string x125000_4, .string x125001_36, .bool a1_2] 23 (0, 0))) ∧ Aside0 (Below w.heap.size w wc))
                case first =>
                  have H := HC46.out
                  clear HC46
                  by_cases c47 : a1_2 = true
                  · subst c47
                    have H1 : (rundleref04_Meet.j3 kj36 (!true) a0_0 a0_1 true a1_0 a1_1 true x125000_4 x125001_36 true) = some (r1, r2, r3) := by rw [if_pos rfl] at H; exact H
                    clear H
                    have H := H1
                    clear H1
                    have H' := Aside0.mk H
                    clear H
                    have hnb48 := NB122_121.out
                    have hnc48 := NB121_122.out
                    have hnb49 := NB122_123.out
                    have hnc49 := NB123_122.out
                    have hnb50 := NB122_124.out
                    have hnc50 := NB124_122.out
                    have hcz51_0 : wc.cell? ⟨gb122, 0, none⟩ = some (.string a1_0) := (blk_cell BK122.out 0).trans rfl
                    have hcz51_1 : wc.cell? ⟨gb122, 1, none⟩ = some (.string a1_1) := (blk_cell BK122.out 1).trans rfl
                    have hcz51_2 : wc.cell? ⟨gb122, 2, none⟩ = some (.bool true) := (blk_cell BK122.out 2).trans rfl
                    have hfz51_0 := blk_frozen BK122.out 0
                    have hfz51_1 := blk_frozen BK122.out 1
                    have hfz51_2 := blk_frozen BK122.out 2
                    have hnb52 := NB121_123.out
                    have hnc52 := NB123_121.out
                    have hnb53 := NB121_124.out
                    have hnc53 := NB124_121.out
                    have hcz54_0 : wc.cell? ⟨gb121, 0, none⟩ = some (.string a0_0) := (blk_cell BK121.out 0).trans rfl
                    have hcz54_1 : wc.cell? ⟨gb121, 1, none⟩ = some (.string a0_1) := (blk_cell BK121.out 1).trans rfl
                    have hcz54_2 : wc.cell? ⟨gb121, 2, none⟩ = some (.bool true) := (blk_cell BK121.out 2).trans rfl
                    have hfz54_0 := blk_frozen BK121.out 0
                    have hfz54_1 := blk_frozen BK121.out 1
                    have hfz54_2 := blk_frozen BK121.out 2
                    go_wp2
                    go_meet
                    case rel => exact ⟨_, (!true), (by first | rfl | (simp; done) | (simp [*]; done)), H', ⟨by have := HJ4.out; have := HJ28.out; have := HJ36.out; first | omega | exact Nat.le_refl _⟩, ⟨by (with_reducible repeat (first | refine blk_drewN ?_ _ | refine blk_drew ?_ | refine blk_alloc ?_ _)); exact BK121.out⟩, ⟨by (with_reducible repeat (first | refine blk_drewN ?_ _ | refine blk_drew ?_ | refine blk_alloc ?_ _)); exact BK122.out⟩, ⟨by (with_reducible repeat (first | refine blk_drewN ?_ _ | refine blk_drew ?_ | refine blk_alloc ?_ _)); exact BK123.out⟩, ⟨by (with_reducible repeat (first | refine blk_drewN ?_ _ | refine blk_drew ?_ | refine blk_alloc ?_ _)); exact BK124.out⟩, ⟨by repeat (first | (with_reducible first | exact HB.out | apply below_alloc | apply pw_below_drewN | apply below_drew1 | refine below_set ?_ GE121.out | refine below_set ?_ GE122.out | refine below_set ?_ GE123.out | refine below_set ?_ GE124.out) | exact HB.out)⟩⟩
                  · replace c47 := Bool.eq_false_iff.mpr c47
                    subst c47
                    have H1 : (rundleref04_Meet.j3 kj36 false a0_0 a0_1 true a1_0 a1_1 false x125000_4 x125001_36 false) = some (r1, r2, r3) := by rw [if_neg (show ¬ (false = true) by decide)] at H; exact H
                    clear H
                    have H := H1
                    clear H1
                    have H' := Aside0.mk H
                    clear H
                    have hnb55 := NB122_121.out
                    have hnc55 := NB121_122.out
                    have hnb56 := NB122_123.out
                    have hnc56 := NB123_122.out
                    have hnb57 := NB122_124.out
                    have hnc57 := NB124_122.out
                    have hcz58_0 : wc.cell? ⟨gb122, 0, none⟩ = some (.string a1_0) := (blk_cell BK122.out 0).trans rfl
                    have hcz58_1 : wc.cell? ⟨gb122, 1, none⟩ = some (.string a1_1) := (blk_cell BK122.out 1).trans rfl
                    have hcz58_2 : wc.cell? ⟨gb122, 2, none⟩ = some (.bool false) := (blk_cell BK122.out 2).trans rfl
                    have hfz58_0 := blk_frozen BK122.out 0
                    have hfz58_1 := blk_frozen BK122.out 1
                    have hfz58_2 := blk_frozen BK122.out 2
                    go_wp2
                    go_meet
                    case rel => exact ⟨_, (false), (by first | rfl | (simp; done) | (simp [*]; done)), H', ⟨by have := HJ4.out; have := HJ28.out; have := HJ36.out; first | omega | exact Nat.le_refl _⟩, ⟨by (with_reducible repeat (first | refine blk_drewN ?_ _ | refine blk_drew ?_ | refine blk_alloc ?_ _)); exact BK121.out⟩, ⟨by (with_reducible repeat (first | refine blk_drewN ?_ _ | refine blk_drew ?_ | refine blk_alloc ?_ _)); exact BK122.out⟩, ⟨by (with_reducible repeat (first | refine blk_drewN ?_ _ | refine blk_drew ?_ | refine blk_alloc ?_ _)); exact BK123.out⟩, ⟨by (with_reducible repeat (first | refine blk_drewN ?_ _ | refine blk_drew ?_ | refine blk_alloc ?_ _)); exact BK124.out⟩, ⟨by repeat (first | (with_reducible first | exact HB.out | apply below_alloc | apply pw_below_drewN | apply below_drew1 | refine below_set ?_ GE121.out | refine below_set ?_ GE122.out | refine below_set ?_ GE123.out | refine below_set ?_ GE124.out) | exact HB.out)⟩⟩
                case rest =>
                  clear HC46
                  try clear c1
                  try clear c2
                  try clear p2
                  try clear c3
                  try clear c4
                  try clear c5
                  try clear c9
                  try clear c10
                  try clear c12
                  try clear c14
                  try clear c15
                  try clear c16
                  try clear c17
                  try clear c21
                  try clear c22
                  try clear c23
                  try clear c24
                  try clear c26
                  try clear c27
                  try clear c30
                  try clear c31
                  try clear c32
                  try clear c34
                  try clear c35
                  try clear c38
                  try clear c39
                  try clear c40
                  try clear c41
                  try clear c43
                  try clear c44
                  try clear c47
                  try clear c48
                  try clear c49
                  try clear c50
                  try clear c52
                  try clear c53
                  try clear c55
                  try clear c56
                  try clear c57
                  try clear hcz11_0
                  try clear hcz11_1
                  try clear hcz11_2
                  try clear hcz13_0
                  try clear hcz13_1
                  try clear hcz13_2
                  try clear hcz18_0
                  try clear hcz18_1
                  try clear hcz18_2
                  try clear hcz19_0
                  try clear hcz19_1
                  try clear hcz19_2
                  try clear hcz20_0
                  try clear hcz20_1
                  try clear hcz20_2
                  try clear hcz25_0
                  try clear hcz25_1
                  try clear hcz25_2
                  try clear hcz28_0
                  try clear hcz28_1
                  try clear hcz28_2
                  try clear hcz33_0
                  try clear hcz33_1
                  try clear hcz33_2
                  try clear hcz36_0
                  try clear hcz36_1
                  try clear hcz36_2
                  try clear hcz42_0
                  try clear hcz42_1
                  try clear hcz42_2
                  try clear hcz45_0
                  try clear hcz45_1
                  try clear hcz45_2
                  try clear hcz51_0
                  try clear hcz51_1
                  try clear hcz51_2
                  try clear hcz54_0
                  try clear hcz54_1
                  try clear hcz54_2
                  try clear hcz58_0
                  try clear hcz58_1
                  try clear hcz58_2
                  try clear hfz11_0
                  try clear hfz11_1
                  try clear hfz11_2
                  try clear hfz13_0
                  try clear hfz13_1
                  try clear hfz13_2
                  try clear hfz18_0
                  try clear hfz18_1
                  try clear hfz18_2
                  try clear hfz19_0
                  try clear hfz19_1
                  try clear hfz19_2
                  try clear hfz20_0
                  try clear hfz20_1
                  try clear hfz20_2
                  try clear hfz25_0
                  try clear hfz25_1
                  try clear hfz25_2
                  try clear hfz28_0
                  try clear hfz28_1
                  try clear hfz28_2
                  try clear hfz33_0
                  try clear hfz33_1
                  try clear hfz33_2
                  try clear hfz36_0
                  try clear hfz36_1
                  try clear hfz36_2
                  try clear hfz42_0
                  try clear hfz42_1
                  try clear hfz42_2
                  try clear hfz45_0
                  try clear hfz45_1
                  try clear hfz45_2
                  try clear hfz51_0
                  try clear hfz51_1
                  try clear hfz51_2
                  try clear hfz54_0
                  try clear hfz54_1
                  try clear hfz54_2
                  try clear hfz58_0
                  try clear hfz58_1
                  try clear hfz58_2
                  try clear p2
                  obtain ⟨kq, x39_45, rfl, HA, HJ45, BK121, BK122, BK123, BK124, HB⟩ := hcut
                  cases kq with
                  | zero => exact absurd HA.out (by simp [rundleref04_Meet.j3])
                  | succ kj45 =>
                    have H := HA.out
                    clear HA
                    simp only [rundleref04_Meet.j3] at H
                    have HC59 := Aside0.mk H
                    clear H
                    go_upto_if 39 with (fail)
                    go_cut [] (fun wc => ∃ (kq : Nat) (x125001_58 : ByteArray), Aside0 (rundleref04_Meet.j4 kq a0_0 a0_1 true a1_0 a1_1 a1_2 x125000_4 x125001_58 a1_2 = some (r1, r2, r3)) ∧ Aside0 (kq ≤ kj45) ∧ Aside0 (wc.heap[gb121]? = some (.cells #[.string a0_0, .string a0_1, .bool true] 23 (0, 0))) ∧ Aside0 (wc.heap[gb122]? = some (.cells #[.string a1_0, .string a1_1, .bool a1_2] 23 (0, 0))) ∧ Aside0 (wc.heap[gb123]? = some (.cells #[.string (⟨#[]⟩ : ByteArray), .string (⟨#[]⟩ : ByteArray), .bool false] 23 (0, 0))) ∧ Aside0 (wc.heap[gb124]? = some (.cells #[.string x125000_4, .string x125001_58, .bool a1_2] 23 (0, 0))) ∧ Aside0 (Below w.heap.size w wc))
                    case first =>
                      have H := HC59.out
                      clear HC59
                      by_cases c60 : x39_45 = true
                      · subst c60
                        have H1 : (rundleref04_Meet.j4 kj45 a0_0 a0_1 true a1_0 a1_1 a1_2 x125000_4 a0_1 a1_2) = some (r1, r2, r3) := by rw [if_pos rfl] at H; exact H
                        clear H
                        have H := H1
                        clear H1
                        have H' := Aside0.mk H
                        clear H
                        have hnb61 := NB121_122.out
                        have hnc61 := NB122_121.out
                        have hnb62 := NB121_123.out
                        have hnc62 := NB123_121.out
                        have hnb63 := NB121_124.out
                        have hnc63 := NB124_121.out
                        have hcz64_0 : wc.cell? ⟨gb121, 0, none⟩ = some (.string a0_0) := (blk_cell BK121.out 0).trans rfl
                        have hcz64_1 : wc.cell? ⟨gb121, 1, none⟩ = some (.string a0_1) := (blk_cell BK121.out 1).trans rfl
                        have hcz64_2 : wc.cell? ⟨gb121, 2, none⟩ = some (.bool true) := (blk_cell BK121.out 2).trans rfl
                        have hfz64_0 := blk_frozen BK121.out 0
                        have hfz64_1 := blk_frozen BK121.out 1
                        have hfz64_2 := blk_frozen BK121.out 2
                        have hnb65 := NB124_122.out
                        have hnc65 := NB122_124.out
                        have hnb66 := NB124_123.out
                        have hnc66 := NB123_124.out
                        have hcz67_0 : wc.cell? ⟨gb124, 0, none⟩ = some (.string x125000_4) := (blk_cell BK124.out 0).trans rfl
                        have hcz67_1 : wc.cell? ⟨gb124, 1, none⟩ = some (.string x125001_36) := (blk_cell BK124.out 1).trans rfl
                        have hcz67_2 : wc.cell? ⟨gb124, 2, none⟩ = some (.bool a1_2) := (blk_cell BK124.out 2).trans rfl
                        have hfz67_0 := blk_frozen BK124.out 0
                        have hfz67_1 := blk_frozen BK124.out 1
                        have hfz67_2 := blk_frozen BK124.out 2
                        go_wp2
                        go_meet
                        case rel => exact ⟨_, (a0_1), H', ⟨by have := HJ4.out; have := HJ28.out; have := HJ36.out; have := HJ45.out; first | omega | exact Nat.le_refl _⟩, ⟨by (with_reducible repeat (first | refine blk_drewN ?_ _ | refine blk_drew ?_ | refine blk_alloc ?_ _)); refine blk_far ?_ NB121_124.out _; (with_reducible repeat (first | refine blk_drewN ?_ _ | refine blk_drew ?_ | refine blk_alloc ?_ _)); exact BK121.out⟩, ⟨by (with_reducible repeat (first | refine blk_drewN ?_ _ | refine blk_drew ?_ | refine blk_alloc ?_ _)); refine blk_far ?_ NB122_124.out _; (with_reducible repeat (first | refine blk_drewN ?_ _ | refine blk_drew ?_ | refine blk_alloc ?_ _)); exact BK122.out⟩, ⟨by (with_reducible repeat (first | refine blk_drewN ?_ _ | refine blk_drew ?_ | refine blk_alloc ?_ _)); refine blk_far ?_ NB123_124.out _; (with_reducible repeat (first | refine blk_drewN ?_ _ | refine blk_drew ?_ | refine blk_alloc ?_ _)); exact BK123.out⟩, ⟨by (with_reducible repeat (first | refine blk_drewN ?_ _ | refine blk_drew ?_ | refine blk_alloc ?_ _)); refine blk_put (cs := #[.string x125000_4, .string x125001_36, .bool a1_2]) ?_ 1 _ rfl; (with_reducible repeat (first | refine blk_drewN ?_ _ | refine blk_drew ?_ | refine blk_alloc ?_ _)); exact BK124.out⟩, ⟨by repeat (first | (with_reducible first | exact HB.out | apply below_alloc | apply pw_below_drewN | apply below_drew1 | refine below_set ?_ GE121.out | refine below_set ?_ GE122.out | refine below_set ?_ GE123.out | refine below_set ?_ GE124.out) | exact HB.out)⟩⟩
                      · replace c60 := Bool.eq_false_iff.mpr c60
                        subst c60
                        have H1 : (rundleref04_Meet.j4 kj45 a0_0 a0_1 true a1_0 a1_1 a1_2 x125000_4 x125001_36 a1_2) = some (r1, r2, r3) := by rw [if_neg (show ¬ (false = true) by decide)] at H; exact H
                        clear H
                        have H := H1
                        clear H1
                        have H' := Aside0.mk H
                        clear H
                        go_wp2
                        go_meet
                        case rel => exact ⟨_, (x125001_36), H', ⟨by have := HJ4.out; have := HJ28.out; have := HJ36.out; have := HJ45.out; first | omega | exact Nat.le_refl _⟩, ⟨by (with_reducible repeat (first | refine blk_drewN ?_ _ | refine blk_drew ?_ | refine blk_alloc ?_ _)); exact BK121.out⟩, ⟨by (with_reducible repeat (first | refine blk_drewN ?_ _ | refine blk_drew ?_ | refine blk_alloc ?_ _)); exact BK122.out⟩, ⟨by (with_reducible repeat (first | refine blk_drewN ?_ _ | refine blk_drew ?_ | refine blk_alloc ?_ _)); exact BK123.out⟩, ⟨by (with_reducible repeat (first | refine blk_drewN ?_ _ | refine blk_drew ?_ | refine blk_alloc ?_ _)); exact BK124.out⟩, ⟨by repeat (first | (with_reducible first | exact HB.out | apply below_alloc | apply pw_below_drewN | apply below_drew1 | refine below_set ?_ GE121.out | refine below_set ?_ GE122.out | refine below_set ?_ GE123.out | refine below_set ?_ GE124.out) | exact HB.out)⟩⟩
                    case rest =>
                      clear HC59
                      try clear c1
                      try clear c2
                      try clear p2
                      try clear c3
                      try clear c4
                      try clear c5
                      try clear c6
                      try clear c9
                      try clear c10
                      try clear c12
                      try clear c14
                      try clear c15
                      try clear c16
                      try clear c17
                      try clear c21
                      try clear c22
                      try clear c23
                      try clear c24
                      try clear c26
                      try clear c27
                      try clear c30
                      try clear c31
                      try clear c32
                      try clear c34
                      try clear c35
                      try clear c38
                      try clear c39
                      try clear c40
                      try clear c41
                      try clear c43
                      try clear c44
                      try clear c47
                      try clear c48
                      try clear c49
                      try clear c50
                      try clear c52
                      try clear c53
                      try clear c55
                      try clear c56
                      try clear c57
                      try clear c60
                      try clear c61
                      try clear c62
                      try clear c63
                      try clear c65
                      try clear c66
                      try clear hcz11_0
                      try clear hcz11_1
                      try clear hcz11_2
                      try clear hcz13_0
                      try clear hcz13_1
                      try clear hcz13_2
                      try clear hcz18_0
                      try clear hcz18_1
                      try clear hcz18_2
                      try clear hcz19_0
                      try clear hcz19_1
                      try clear hcz19_2
                      try clear hcz20_0
                      try clear hcz20_1
                      try clear hcz20_2
                      try clear hcz25_0
                      try clear hcz25_1
                      try clear hcz25_2
                      try clear hcz28_0
                      try clear hcz28_1
                      try clear hcz28_2
                      try clear hcz33_0
                      try clear hcz33_1
                      try clear hcz33_2
                      try clear hcz36_0
                      try clear hcz36_1
                      try clear hcz36_2
                      try clear hcz42_0
                      try clear hcz42_1
                      try clear hcz42_2
                      try clear hcz45_0
                      try clear hcz45_1
                      try clear hcz45_2
                      try clear hcz51_0
                      try clear hcz51_1
                      try clear hcz51_2
                      try clear hcz54_0
                      try clear hcz54_1
                      try clear hcz54_2
                      try clear hcz58_0
                      try clear hcz58_1
                      try clear hcz58_2
                      try clear hcz64_0
                      try clear hcz64_1
                      try clear hcz64_2
                      try clear hcz67_0
                      try clear hcz67_1
                      try clear hcz67_2
                      try clear hfz11_0
                      try clear hfz11_1
                      try clear hfz11_2
                      try clear hfz13_0
                      try clear hfz13_1
                      try clear hfz13_2
                      try clear hfz18_0
                      try clear hfz18_1
                      try clear hfz18_2
                      try clear hfz19_0
                      try clear hfz19_1
                      try clear hfz19_2
                      try clear hfz20_0
                      try clear hfz20_1
                      try clear hfz20_2
                      try clear hfz25_0
                      try clear hfz25_1
                      try clear hfz25_2
                      try clear hfz28_0
                      try clear hfz28_1
                      try clear hfz28_2
                      try clear hfz33_0
                      try clear hfz33_1
                      try clear hfz33_2
                      try clear hfz36_0
                      try clear hfz36_1
                      try clear hfz36_2
                      try clear hfz42_0
                      try clear hfz42_1
                      try clear hfz42_2
                      try clear hfz45_0
                      try clear hfz45_1
                      try clear hfz45_2
                      try clear hfz51_0
                      try clear hfz51_1
                      try clear hfz51_2
                      try clear hfz54_0
                      try clear hfz54_1
                      try clear hfz54_2
                      try clear hfz58_0
                      try clear hfz58_1
                      try clear hfz58_2
                      try clear hfz64_0
                      try clear hfz64_1
                      try clear hfz64_2
                      try clear hfz67_0
                      try clear hfz67_1
                      try clear hfz67_2
                      try clear p2
                      obtain ⟨kq, x125001_58, HA, HJ58, BK121, BK122, BK123, BK124, HB⟩ := hcut
                      cases kq with
                      | zero => exact absurd HA.out (by simp [rundleref04_Meet.j4])
                      | succ kj58 =>
                        have H := HA.out
                        clear HA
                        simp only [rundleref04_Meet.j4] at H
                        have HC68 := Aside0.mk H
                        clear H
                        go_upto_region 8 with (fail)
                        go_cut [50] (fun v50 wc => ∃ (kq : Nat) (x50_67 : Bool), v50 = .bool x50_67 ∧ Aside0 (rundleref04_Meet.j5 kq x50_67 a0_0 a0_1 true a1_0 a1_1 a1_2 x125000_4 x125001_58 a1_2 = some (r1, r2, r3)) ∧ Aside0 (kq ≤ kj58) ∧ Aside0 (wc.heap[gb121]? = some (.cells #[.string a0_0, .string a0_1, .bool true] 23 (0, 0))) ∧ Aside0 (wc.heap[gb122]? = some (.cells #[.string a1_0, .string a1_1, .bool a1_2] 23 (0, 0))) ∧ Aside0 (wc.heap[gb123]? = some (.cells #[.string (⟨#[]⟩ : ByteArray), .string (⟨#[]⟩ : ByteArray), .bool false] 23 (0, 0))) ∧ Aside0 (wc.heap[gb124]? = some (.cells #[.string x125000_4, .string x125001_58, .bool a1_2] 23 (0, 0))) ∧ Aside0 (Below w.heap.size w wc))
                        case first =>
                          have H := HC68.out
                          clear HC68
                          have H1 : (rundleref04_Meet.j5 kj58 false a0_0 a0_1 true a1_0 a1_1 a1_2 x125000_4 x125001_58 a1_2) = some (r1, r2, r3) := by first | (rw [if_pos rfl] at H; exact H) | (simp only [if_true, Bool.false_eq_true, if_false] at H; exact H)
                          clear H
                          have H := H1
                          clear H1
                          have H' := Aside0.mk H
                          clear H
                          have hnb69 := NB121_122.out
                          have hnc69 := NB122_121.out
                          have hnb70 := NB121_123.out
                          have hnc70 := NB123_121.out
                          have hnb71 := NB121_124.out
                          have hnc71 := NB124_121.out
                          have hcz72_0 : wc.cell? ⟨gb121, 0, none⟩ = some (.string a0_0) := (blk_cell BK121.out 0).trans rfl
                          have hcz72_1 : wc.cell? ⟨gb121, 1, none⟩ = some (.string a0_1) := (blk_cell BK121.out 1).trans rfl
                          have hcz72_2 : wc.cell? ⟨gb121, 2, none⟩ = some (.bool true) := (blk_cell BK121.out 2).trans rfl
                          have hfz72_0 := blk_frozen BK121.out 0
                          have hfz72_1 := blk_frozen BK121.out 1
                          have hfz72_2 := blk_frozen BK121.out 2
                          go_wp2
                          go_meet
                          case rel => exact ⟨_, (false), (by first | rfl | (simp; done) | (simp [*]; done)), H', ⟨by have := HJ4.out; have := HJ28.out; have := HJ36.out; have := HJ45.out; have := HJ58.out; first | omega | exact Nat.le_refl _⟩, ⟨by (with_reducible repeat (first | refine blk_drewN ?_ _ | refine blk_drew ?_ | refine blk_alloc ?_ _)); exact BK121.out⟩, ⟨by (with_reducible repeat (first | refine blk_drewN ?_ _ | refine blk_drew ?_ | refine blk_alloc ?_ _)); exact BK122.out⟩, ⟨by (with_reducible repeat (first | refine blk_drewN ?_ _ | refine blk_drew ?_ | refine blk_alloc ?_ _)); exact BK123.out⟩, ⟨by (with_reducible repeat (first | refine blk_drewN ?_ _ | refine blk_drew ?_ | refine blk_alloc ?_ _)); exact BK124.out⟩, ⟨by repeat (first | (with_reducible first | exact HB.out | apply below_alloc | apply pw_below_drewN | apply below_drew1 | refine below_set ?_ GE121.out | refine below_set ?_ GE122.out | refine below_set ?_ GE123.out | refine below_set ?_ GE124.out) | exact HB.out)⟩⟩
                        case rest =>
                          clear HC68
                          try clear c1
                          try clear c2
                          try clear p2
                          try clear c3
                          try clear c4
                          try clear c5
                          try clear c6
                          try clear c7
                          try clear c9
                          try clear c10
                          try clear c12
                          try clear c14
                          try clear c15
                          try clear c16
                          try clear c17
                          try clear c21
                          try clear c22
                          try clear c23
                          try clear c24
                          try clear c26
                          try clear c27
                          try clear c30
                          try clear c31
                          try clear c32
                          try clear c34
                          try clear c35
                          try clear c38
                          try clear c39
                          try clear c40
                          try clear c41
                          try clear c43
                          try clear c44
                          try clear c47
                          try clear c48
                          try clear c49
                          try clear c50
                          try clear c52
                          try clear c53
                          try clear c55
                          try clear c56
                          try clear c57
                          try clear c60
                          try clear c61
                          try clear c62
                          try clear c63
                          try clear c65
                          try clear c66
                          try clear c69
                          try clear c70
                          try clear c71
                          try clear hcz11_0
                          try clear hcz11_1
                          try clear hcz11_2
                          try clear hcz13_0
                          try clear hcz13_1
                          try clear hcz13_2
                          try clear hcz18_0
                          try clear hcz18_1
                          try clear hcz18_2
                          try clear hcz19_0
                          try clear hcz19_1
                          try clear hcz19_2
                          try clear hcz20_0
                          try clear hcz20_1
                          try clear hcz20_2
                          try clear hcz25_0
                          try clear hcz25_1
                          try clear hcz25_2
                          try clear hcz28_0
                          try clear hcz28_1
                          try clear hcz28_2
                          try clear hcz33_0
                          try clear hcz33_1
                          try clear hcz33_2
                          try clear hcz36_0
                          try clear hcz36_1
                          try clear hcz36_2
                          try clear hcz42_0
                          try clear hcz42_1
                          try clear hcz42_2
                          try clear hcz45_0
                          try clear hcz45_1
                          try clear hcz45_2
                          try clear hcz51_0
                          try clear hcz51_1
                          try clear hcz51_2
                          try clear hcz54_0
                          try clear hcz54_1
                          try clear hcz54_2
                          try clear hcz58_0
                          try clear hcz58_1
                          try clear hcz58_2
                          try clear hcz64_0
                          try clear hcz64_1
                          try clear hcz64_2
                          try clear hcz67_0
                          try clear hcz67_1
                          try clear hcz67_2
                          try clear hcz72_0
                          try clear hcz72_1
                          try clear hcz72_2
                          try clear hfz11_0
                          try clear hfz11_1
                          try clear hfz11_2
                          try clear hfz13_0
                          try clear hfz13_1
                          try clear hfz13_2
                          try clear hfz18_0
                          try clear hfz18_1
                          try clear hfz18_2
                          try clear hfz19_0
                          try clear hfz19_1
                          try clear hfz19_2
                          try clear hfz20_0
                          try clear hfz20_1
                          try clear hfz20_2
                          try clear hfz25_0
                          try clear hfz25_1
                          try clear hfz25_2
                          try clear hfz28_0
                          try clear hfz28_1
                          try clear hfz28_2
                          try clear hfz33_0
                          try clear hfz33_1
                          try clear hfz33_2
                          try clear hfz36_0
                          try clear hfz36_1
                          try clear hfz36_2
                          try clear hfz42_0
                          try clear hfz42_1
                          try clear hfz42_2
                          try clear hfz45_0
                          try clear hfz45_1
                          try clear hfz45_2
                          try clear hfz51_0
                          try clear hfz51_1
                          try clear hfz51_2
                          try clear hfz54_0
                          try clear hfz54_1
                          try clear hfz54_2
                          try clear hfz58_0
                          try clear hfz58_1
                          try clear hfz58_2
                          try clear hfz64_0
                          try clear hfz64_1
                          try clear hfz64_2
                          try clear hfz67_0
                          try clear hfz67_1
                          try clear hfz67_2
                          try clear hfz72_0
                          try clear hfz72_1
                          try clear hfz72_2
                          try clear p2
                          obtain ⟨kq, x50_67, rfl, HA, HJ67, BK121, BK122, BK123, BK124, HB⟩ := hcut
                          cases kq with
                          | zero => exact absurd HA.out (by simp [rundleref04_Meet.j5])
                          | succ kj67 =>
                            have H := HA.out
                            clear HA
                            simp only [rundleref04_Meet.j5] at H
                            by_cases c73 : x50_67 = true
                            · subst c73
                              have H1 : ((rundleref04_Less.f kj67 a1_1 a0_1).bind fun t126 => (if t126 = true then (some (x125000_4, a1_1, a1_2)) else (some (x125000_4, a0_1, a1_2)))) = some (r1, r2, r3) := by rw [if_pos rfl] at H; exact H
                              clear H
                              have H := H1
                              clear H1
                              replace H := Option.bind_eq_some_iff.mp H
                              obtain ⟨t126, A740, H⟩ := H
                              replace H : (if t126 = true then (some (x125000_4, a1_1, a1_2)) else (some (x125000_4, a0_1, a1_2))) = some (r1, r2, r3) := H
                              have A74 := Aside0.mk A740
                              clear A740
                              by_cases c75 : t126 = true
                              · subst c75
                                have H1 : (some (x125000_4, a1_1, a1_2)) = some (r1, r2, r3) := by rw [if_pos rfl] at H; exact H
                                clear H
                                have H := H1
                                clear H1
                                simp only [Option.some.injEq, Prod.mk.injEq] at H
                                obtain ⟨rfl, rfl, rfl⟩ := H
                                have hnb76 := NB121_122.out
                                have hnc76 := NB122_121.out
                                have hnb77 := NB121_123.out
                                have hnc77 := NB123_121.out
                                have hnb78 := NB121_124.out
                                have hnc78 := NB124_121.out
                                have hcz79_0 : wc.cell? ⟨gb121, 0, none⟩ = some (.string a0_0) := (blk_cell BK121.out 0).trans rfl
                                have hcz79_1 : wc.cell? ⟨gb121, 1, none⟩ = some (.string a0_1) := (blk_cell BK121.out 1).trans rfl
                                have hcz79_2 : wc.cell? ⟨gb121, 2, none⟩ = some (.bool true) := (blk_cell BK121.out 2).trans rfl
                                have hfz79_0 := blk_frozen BK121.out 0
                                have hfz79_1 := blk_frozen BK121.out 1
                                have hfz79_2 := blk_frozen BK121.out 2
                                have hnb80 := NB124_122.out
                                have hnc80 := NB122_124.out
                                have hnb81 := NB124_123.out
                                have hnc81 := NB123_124.out
                                have hcz82_0 : wc.cell? ⟨gb124, 0, none⟩ = some (.string x125000_4) := (blk_cell BK124.out 0).trans rfl
                                have hcz82_1 : wc.cell? ⟨gb124, 1, none⟩ = some (.string x125001_58) := (blk_cell BK124.out 1).trans rfl
                                have hcz82_2 : wc.cell? ⟨gb124, 2, none⟩ = some (.bool a1_2) := (blk_cell BK124.out 2).trans rfl
                                have hfz82_0 := blk_frozen BK124.out 0
                                have hfz82_1 := blk_frozen BK124.out 1
                                have hfz82_2 := blk_frozen BK124.out 2
                                have hnb83 := NB122_123.out
                                have hnc83 := NB123_122.out
                                have hcz84_0 : wc.cell? ⟨gb122, 0, none⟩ = some (.string a1_0) := (blk_cell BK122.out 0).trans rfl
                                have hcz84_1 : wc.cell? ⟨gb122, 1, none⟩ = some (.string a1_1) := (blk_cell BK122.out 1).trans rfl
                                have hcz84_2 : wc.cell? ⟨gb122, 2, none⟩ = some (.bool a1_2) := (blk_cell BK122.out 2).trans rfl
                                have hfz84_0 := blk_frozen BK122.out 0
                                have hfz84_1 := blk_frozen BK122.out 1
                                have hfz84_2 := blk_frozen BK122.out 2
                                go_wp2_with (first | ((with_reducible refine gate_callee (f := 23) rfl ?_); refine goesL_ (some 58) rfl rfl Try.func23 (by kernel_rfl) rfl #[.string a1_1, .string a0_1] rfl (by (try simp only [List.map_toArray, List.map_cons, List.map_nil]); first | done | rfl | (simp only [List.length_drop, List.length_take]; rfl)) ?_; (with_reducible refine (rundleref04_Less.calls kj67 a1_1 a0_1 true _ A74.out).mono ?_); rintro e w' ⟨rfl, ⟨nd, rfl⟩⟩; refine ⟨_, rfl, ?_⟩; have hcz85_0 : wc.cell? ⟨gb123, 0, none⟩ = some (.string (⟨#[]⟩ : ByteArray)) := (blk_cell BK123.out 0).trans rfl; have hcz85_1 : wc.cell? ⟨gb123, 1, none⟩ = some (.string (⟨#[]⟩ : ByteArray)) := (blk_cell BK123.out 1).trans rfl; have hcz85_2 : wc.cell? ⟨gb123, 2, none⟩ = some (.bool false) := (blk_cell BK123.out 2).trans rfl; have hfz85_0 := blk_frozen BK123.out 0; have hfz85_1 := blk_frozen BK123.out 1; have hfz85_2 := blk_frozen BK123.out 2))
                                refine bodyPost_ret (results_cell_row rfl _ _ gb123 23 #[.string x125000_4, .string a1_1, .bool a1_2] (0, 0) _ rfl (by (with_reducible repeat (first | refine blk_drewN ?_ _ | refine blk_drew ?_ | refine blk_alloc ?_ _)); refine blk_put (cs := #[.string x125000_4, .string a1_1, .bool false]) ?_ 2 _ rfl; (with_reducible repeat (first | refine blk_drewN ?_ _ | refine blk_drew ?_ | refine blk_alloc ?_ _)); refine blk_put (cs := #[.string x125000_4, .string (⟨#[]⟩ : ByteArray), .bool false]) ?_ 1 _ rfl; (with_reducible repeat (first | refine blk_drewN ?_ _ | refine blk_drew ?_ | refine blk_alloc ?_ _)); refine blk_put (cs := #[.string (⟨#[]⟩ : ByteArray), .string (⟨#[]⟩ : ByteArray), .bool false]) ?_ 0 _ rfl; (with_reducible repeat (first | refine blk_drewN ?_ _ | refine blk_drew ?_ | refine blk_alloc ?_ _)); refine blk_far ?_ NB123_124.out _; (with_reducible repeat (first | refine blk_drewN ?_ _ | refine blk_drew ?_ | refine blk_alloc ?_ _)); refine blk_far ?_ NB123_124.out _; (with_reducible repeat (first | refine blk_drewN ?_ _ | refine blk_drew ?_ | refine blk_alloc ?_ _)); exact BK123.out) Try.underlying23 rfl (by kernel_rfl)) rfl ?_
                                exact ⟨by first | rfl | (simp [errW_none, errW_some] <;> rfl) | (simp [*, errW_none, errW_some] <;> rfl), by repeat (first | (with_reducible first | exact HB.out | apply below_alloc | apply pw_below_drewN | apply below_drew1 | refine below_set ?_ GE121.out | refine below_set ?_ GE122.out | refine below_set ?_ GE123.out | refine below_set ?_ GE124.out) | exact HB.out)⟩
                              · replace c75 := Bool.eq_false_iff.mpr c75
                                subst c75
                                have H1 : (some (x125000_4, a0_1, a1_2)) = some (r1, r2, r3) := by rw [if_neg (show ¬ (false = true) by decide)] at H; exact H
                                clear H
                                have H := H1
                                clear H1
                                simp only [Option.some.injEq, Prod.mk.injEq] at H
                                obtain ⟨rfl, rfl, rfl⟩ := H
                                have hnb86 := NB121_122.out
                                have hnc86 := NB122_121.out
                                have hnb87 := NB121_123.out
                                have hnc87 := NB123_121.out
                                have hnb88 := NB121_124.out
                                have hnc88 := NB124_121.out
                                have hcz89_0 : wc.cell? ⟨gb121, 0, none⟩ = some (.string a0_0) := (blk_cell BK121.out 0).trans rfl
                                have hcz89_1 : wc.cell? ⟨gb121, 1, none⟩ = some (.string a0_1) := (blk_cell BK121.out 1).trans rfl
                                have hcz89_2 : wc.cell? ⟨gb121, 2, none⟩ = some (.bool true) := (blk_cell BK121.out 2).trans rfl
                                have hfz89_0 := blk_frozen BK121.out 0
                                have hfz89_1 := blk_frozen BK121.out 1
                                have hfz89_2 := blk_frozen BK121.out 2
                                have hnb90 := NB124_122.out
                                have hnc90 := NB122_124.out
                                have hnb91 := NB124_123.out
                                have hnc91 := NB123_124.out
                                have hcz92_0 : wc.cell? ⟨gb124, 0, none⟩ = some (.string x125000_4) := (blk_cell BK124.out 0).trans rfl
                                have hcz92_1 : wc.cell? ⟨gb124, 1, none⟩ = some (.string x125001_58) := (blk_cell BK124.out 1).trans rfl
                                have hcz92_2 : wc.cell? ⟨gb124, 2, none⟩ = some (.bool a1_2) := (blk_cell BK124.out 2).trans rfl
                                have hfz92_0 := blk_frozen BK124.out 0
                                have hfz92_1 := blk_frozen BK124.out 1
                                have hfz92_2 := blk_frozen BK124.out 2
                                have hnb93 := NB122_123.out
                                have hnc93 := NB123_122.out
                                have hcz94_0 : wc.cell? ⟨gb122, 0, none⟩ = some (.string a1_0) := (blk_cell BK122.out 0).trans rfl
                                have hcz94_1 : wc.cell? ⟨gb122, 1, none⟩ = some (.string a1_1) := (blk_cell BK122.out 1).trans rfl
                                have hcz94_2 : wc.cell? ⟨gb122, 2, none⟩ = some (.bool a1_2) := (blk_cell BK122.out 2).trans rfl
                                have hfz94_0 := blk_frozen BK122.out 0
                                have hfz94_1 := blk_frozen BK122.out 1
                                have hfz94_2 := blk_frozen BK122.out 2
                                go_wp2_with (first | ((with_reducible refine gate_callee (f := 23) rfl ?_); refine goesL_ (some 58) rfl rfl Try.func23 (by kernel_rfl) rfl #[.string a1_1, .string a0_1] rfl (by (try simp only [List.map_toArray, List.map_cons, List.map_nil]); first | done | rfl | (simp only [List.length_drop, List.length_take]; rfl)) ?_; (with_reducible refine (rundleref04_Less.calls kj67 a1_1 a0_1 false _ A74.out).mono ?_); rintro e w' ⟨rfl, ⟨nd, rfl⟩⟩; refine ⟨_, rfl, ?_⟩; have hcz95_0 : wc.cell? ⟨gb123, 0, none⟩ = some (.string (⟨#[]⟩ : ByteArray)) := (blk_cell BK123.out 0).trans rfl; have hcz95_1 : wc.cell? ⟨gb123, 1, none⟩ = some (.string (⟨#[]⟩ : ByteArray)) := (blk_cell BK123.out 1).trans rfl; have hcz95_2 : wc.cell? ⟨gb123, 2, none⟩ = some (.bool false) := (blk_cell BK123.out 2).trans rfl; have hfz95_0 := blk_frozen BK123.out 0; have hfz95_1 := blk_frozen BK123.out 1; have hfz95_2 := blk_frozen BK123.out 2))
                                refine bodyPost_ret (results_cell_row rfl _ _ gb123 23 #[.string x125000_4, .string a0_1, .bool a1_2] (0, 0) _ rfl (by (with_reducible repeat (first | refine blk_drewN ?_ _ | refine blk_drew ?_ | refine blk_alloc ?_ _)); refine blk_put (cs := #[.string x125000_4, .string a0_1, .bool false]) ?_ 2 _ rfl; (with_reducible repeat (first | refine blk_drewN ?_ _ | refine blk_drew ?_ | refine blk_alloc ?_ _)); refine blk_put (cs := #[.string x125000_4, .string (⟨#[]⟩ : ByteArray), .bool false]) ?_ 1 _ rfl; (with_reducible repeat (first | refine blk_drewN ?_ _ | refine blk_drew ?_ | refine blk_alloc ?_ _)); refine blk_put (cs := #[.string (⟨#[]⟩ : ByteArray), .string (⟨#[]⟩ : ByteArray), .bool false]) ?_ 0 _ rfl; (with_reducible repeat (first | refine blk_drewN ?_ _ | refine blk_drew ?_ | refine blk_alloc ?_ _)); refine blk_far ?_ NB123_124.out _; (with_reducible repeat (first | refine blk_drewN ?_ _ | refine blk_drew ?_ | refine blk_alloc ?_ _)); exact BK123.out) Try.underlying23 rfl (by kernel_rfl)) rfl ?_
                                exact ⟨by first | rfl | (simp [errW_none, errW_some] <;> rfl) | (simp [*, errW_none, errW_some] <;> rfl), by repeat (first | (with_reducible first | exact HB.out | apply below_alloc | apply pw_below_drewN | apply below_drew1 | refine below_set ?_ GE121.out | refine below_set ?_ GE122.out | refine below_set ?_ GE123.out | refine below_set ?_ GE124.out) | exact HB.out)⟩
                            · replace c73 := Bool.eq_false_iff.mpr c73
                              subst c73
                              have H1 : (some (x125000_4, x125001_58, a1_2)) = some (r1, r2, r3) := by rw [if_neg (show ¬ (false = true) by decide)] at H; exact H
                              clear H
                              have H := H1
                              clear H1
                              simp only [Option.some.injEq, Prod.mk.injEq] at H
                              obtain ⟨rfl, rfl, rfl⟩ := H
                              have hnb96 := NB124_121.out
                              have hnc96 := NB121_124.out
                              have hnb97 := NB124_122.out
                              have hnc97 := NB122_124.out
                              have hnb98 := NB124_123.out
                              have hnc98 := NB123_124.out
                              have hcz99_0 : wc.cell? ⟨gb124, 0, none⟩ = some (.string x125000_4) := (blk_cell BK124.out 0).trans rfl
                              have hcz99_1 : wc.cell? ⟨gb124, 1, none⟩ = some (.string x125001_58) := (blk_cell BK124.out 1).trans rfl
                              have hcz99_2 : wc.cell? ⟨gb124, 2, none⟩ = some (.bool a1_2) := (blk_cell BK124.out 2).trans rfl
                              have hfz99_0 := blk_frozen BK124.out 0
                              have hfz99_1 := blk_frozen BK124.out 1
                              have hfz99_2 := blk_frozen BK124.out 2
                              have hnb100 := NB123_121.out
                              have hnc100 := NB121_123.out
                              have hnb101 := NB123_122.out
                              have hnc101 := NB122_123.out
                              have hcz102_0 : wc.cell? ⟨gb123, 0, none⟩ = some (.string (⟨#[]⟩ : ByteArray)) := (blk_cell BK123.out 0).trans rfl
                              have hcz102_1 : wc.cell? ⟨gb123, 1, none⟩ = some (.string (⟨#[]⟩ : ByteArray)) := (blk_cell BK123.out 1).trans rfl
                              have hcz102_2 : wc.cell? ⟨gb123, 2, none⟩ = some (.bool false) := (blk_cell BK123.out 2).trans rfl
                              have hfz102_0 := blk_frozen BK123.out 0
                              have hfz102_1 := blk_frozen BK123.out 1
                              have hfz102_2 := blk_frozen BK123.out 2
                              go_wp2
                              refine bodyPost_ret (results_cell_row rfl _ _ gb123 23 #[.string x125000_4, .string x125001_58, .bool a1_2] (0, 0) _ rfl (by (with_reducible repeat (first | refine blk_drewN ?_ _ | refine blk_drew ?_ | refine blk_alloc ?_ _)); refine blk_put (cs := #[.string x125000_4, .string x125001_58, .bool false]) ?_ 2 _ rfl; (with_reducible repeat (first | refine blk_drewN ?_ _ | refine blk_drew ?_ | refine blk_alloc ?_ _)); refine blk_put (cs := #[.string x125000_4, .string (⟨#[]⟩ : ByteArray), .bool false]) ?_ 1 _ rfl; (with_reducible repeat (first | refine blk_drewN ?_ _ | refine blk_drew ?_ | refine blk_alloc ?_ _)); refine blk_put (cs := #[.string (⟨#[]⟩ : ByteArray), .string (⟨#[]⟩ : ByteArray), .bool false]) ?_ 0 _ rfl; (with_reducible repeat (first | refine blk_drewN ?_ _ | refine blk_drew ?_ | refine blk_alloc ?_ _)); exact BK123.out) Try.underlying23 rfl (by kernel_rfl)) rfl ?_
                              exact ⟨by first | rfl | (simp [errW_none, errW_some] <;> rfl) | (simp [*, errW_none, errW_some] <;> rfl), by repeat (first | (with_reducible first | exact HB.out | apply below_alloc | apply pw_below_drewN | apply below_drew1 | refine below_set ?_ GE121.out | refine below_set ?_ GE122.out | refine below_set ?_ GE123.out | refine below_set ?_ GE124.out) | exact HB.out)⟩
  · replace c3 := Bool.eq_false_iff.mpr c3
    subst c3
    have H1 : ((rundleref04_Less.f k a0_0 a1_0).bind fun t127 => (if t127 = true then (rundleref04_Meet.j6 k a0_0 a0_1 false a1_0 a1_1 a1_2 a1_0 (⟨#[]⟩ : ByteArray) false) else (rundleref04_Meet.j6 k a0_0 a0_1 false a1_0 a1_1 a1_2 a0_0 (⟨#[]⟩ : ByteArray) false))) = some (r1, r2, r3) := by rw [if_neg (show ¬ (false = true) by decide)] at H; exact H
    clear H
    have H := H1
    clear H1
    replace H := Option.bind_eq_some_iff.mp H
    obtain ⟨t127, A1030, H⟩ := H
    replace H : (if t127 = true then (rundleref04_Meet.j6 k a0_0 a0_1 false a1_0 a1_1 a1_2 a1_0 (⟨#[]⟩ : ByteArray) false) else (rundleref04_Meet.j6 k a0_0 a0_1 false a1_0 a1_1 a1_2 a0_0 (⟨#[]⟩ : ByteArray) false)) = some (r1, r2, r3) := H
    have A103 := Aside0.mk A1030
    clear A1030
    have HC104 := Aside0.mk H
    clear H
    go_enter Try.func14, Try.ntmps14
    go_upto_if 19 with (first | ((with_reducible refine gate_dst (N := 2) rfl ?_); refine box_event ?hg (N := 2) ?hd (cs := #[.string a0_0, .string a0_1, .bool false]) (t := 23) ?hr ?_; (case hd => rfl); (case hg => rfl); (case hr => first | (go_simp; done) | (go_simp; rfl)); intro gb121 hg w105 hbox hb; have n0_ := Aside0.mk (below_step (by repeat (first | (with_reducible first | exact HB.out | apply below_alloc | apply pw_below_drewN | apply below_drew1) | exact HB.out)) hb); have n1_ := Aside0.mk (hbox); have n2_ := Aside0.mk ((by rw [hg]; exact (below_size (by repeat (first | (with_reducible first | exact HB.out | apply below_alloc | apply pw_below_drewN | apply below_drew1) | exact HB.out))) : w.heap.size ≤ gb121)); have n3_ := Aside0.mk ((by rw [hg]; exact (below_size (by repeat (first | (with_reducible first | exact HB.out | apply below_alloc | apply pw_below_drewN | apply below_drew1) | exact HB.out))) : w.heap.size ≤ gb121)); clear HB; have HB := n0_; have BK121 := n1_; have GW121 := n2_; have GE121 := n3_; clear n0_ n1_ n2_ n3_; clear hb hbox hg) | ((with_reducible refine gate_dst (N := 3) rfl ?_); refine box_event ?hg (N := 3) ?hd (cs := #[.string a1_0, .string a1_1, .bool a1_2]) (t := 23) ?hr ?_; (case hd => rfl); (case hg => rfl); (case hr => first | (go_simp; done) | (go_simp; rfl)); intro gb122 hg w106 hbox hb; have n0_ := Aside0.mk (blk_below (g := gb121) (o := .cells #[.string a0_0, .string a0_1, .bool false] 23 (0, 0)) (by (with_reducible repeat (first | refine blk_drewN ?_ _ | refine blk_drew ?_ | refine blk_alloc ?_ _)); exact BK121.out) hb); have n1_ := Aside0.mk (below_step (by repeat (first | (with_reducible first | exact HB.out | apply below_alloc | apply pw_below_drewN | apply below_drew1 | refine below_set ?_ GE121.out) | exact HB.out)) hb); have n2_ := Aside0.mk (hbox); have n3_ := Aside0.mk ((by rw [hg]; exact (below_size (by repeat (first | (with_reducible first | exact HB.out | apply below_alloc | apply pw_below_drewN | apply below_drew1 | refine below_set ?_ GE121.out) | exact HB.out))) : w.heap.size ≤ gb122)); have n4_ := Aside0.mk ((by rw [hg]; exact (below_size (by repeat (first | (with_reducible first | exact HB.out | apply below_alloc | apply pw_below_drewN | apply below_drew1 | refine below_set ?_ GE121.out) | exact HB.out))) : w.heap.size ≤ gb122)); have n5_ := Aside0.mk ((by rw [hg]; exact Nat.ne_of_lt (blk_lt (g := gb121) (o := .cells #[.string a0_0, .string a0_1, .bool false] 23 (0, 0)) (by (with_reducible repeat (first | refine blk_drewN ?_ _ | refine blk_drew ?_ | refine blk_alloc ?_ _)); exact BK121.out)) : gb121 ≠ gb122)); have n6_ := Aside0.mk ((by rw [hg]; exact Nat.ne_of_gt (blk_lt (g := gb121) (o := .cells #[.string a0_0, .string a0_1, .bool false] 23 (0, 0)) (by (with_reducible repeat (first | refine blk_drewN ?_ _ | refine blk_drew ?_ | refine blk_alloc ?_ _)); exact BK121.out)) : gb122 ≠ gb121)); clear BK121; clear HB; have BK121 := n0_; have HB := n1_; have BK122 := n2_; have GW122 := n3_; have GE122 := n4_; have NB121_122 := n5_; have NB122_121 := n6_; clear n0_ n1_ n2_ n3_ n4_ n5_ n6_; clear hb hbox hg) | ((with_reducible refine gate_dst (N := 4) rfl ?_); refine box_event ?hg (N := 4) ?hd (cs := #[.string (⟨#[]⟩ : ByteArray), .string (⟨#[]⟩ : ByteArray), .bool false]) (t := 23) ?hr ?_; (case hd => rfl); (case hg => rfl); (case hr => first | (go_simp; done) | (go_simp; rfl)); intro gb123 hg w107 hbox hb; have n0_ := Aside0.mk (blk_below (g := gb121) (o := .cells #[.string a0_0, .string a0_1, .bool false] 23 (0, 0)) (by (with_reducible repeat (first | refine blk_drewN ?_ _ | refine blk_drew ?_ | refine blk_alloc ?_ _)); exact BK121.out) hb); have n1_ := Aside0.mk (blk_below (g := gb122) (o := .cells #[.string a1_0, .string a1_1, .bool a1_2] 23 (0, 0)) (by (with_reducible repeat (first | refine blk_drewN ?_ _ | refine blk_drew ?_ | refine blk_alloc ?_ _)); exact BK122.out) hb); have n2_ := Aside0.mk (below_step (by repeat (first | (with_reducible first | exact HB.out | apply below_alloc | apply pw_below_drewN | apply below_drew1 | refine below_set ?_ GE121.out | refine below_set ?_ GE122.out) | exact HB.out)) hb); have n3_ := Aside0.mk (hbox); have n4_ := Aside0.mk ((by rw [hg]; exact (below_size (by repeat (first | (with_reducible first | exact HB.out | apply below_alloc | apply pw_below_drewN | apply below_drew1 | refine below_set ?_ GE121.out | refine below_set ?_ GE122.out) | exact HB.out))) : w.heap.size ≤ gb123)); have n5_ := Aside0.mk ((by rw [hg]; exact (below_size (by repeat (first | (with_reducible first | exact HB.out | apply below_alloc | apply pw_below_drewN | apply below_drew1 | refine below_set ?_ GE121.out | refine below_set ?_ GE122.out) | exact HB.out))) : w.heap.size ≤ gb123)); have n6_ := Aside0.mk ((by rw [hg]; exact Nat.ne_of_lt (blk_lt (g := gb121) (o := .cells #[.string a0_0, .string a0_1, .bool false] 23 (0, 0)) (by (with_reducible repeat (first | refine blk_drewN ?_ _ | refine blk_drew ?_ | refine blk_alloc ?_ _)); exact BK121.out)) : gb121 ≠ gb123)); have n7_ := Aside0.mk ((by rw [hg]; exact Nat.ne_of_gt (blk_lt (g := gb121) (o := .cells #[.string a0_0, .string a0_1, .bool false] 23 (0, 0)) (by (with_reducible repeat (first | refine blk_drewN ?_ _ | refine blk_drew ?_ | refine blk_alloc ?_ _)); exact BK121.out)) : gb123 ≠ gb121)); have n8_ := Aside0.mk ((by rw [hg]; exact Nat.ne_of_lt (blk_lt (g := gb122) (o := .cells #[.string a1_0, .string a1_1, .bool a1_2] 23 (0, 0)) (by (with_reducible repeat (first | refine blk_drewN ?_ _ | refine blk_drew ?_ | refine blk_alloc ?_ _)); exact BK122.out)) : gb122 ≠ gb123)); have n9_ := Aside0.mk ((by rw [hg]; exact Nat.ne_of_gt (blk_lt (g := gb122) (o := .cells #[.string a1_0, .string a1_1, .bool a1_2] 23 (0, 0)) (by (with_reducible repeat (first | refine blk_drewN ?_ _ | refine blk_drew ?_ | refine blk_alloc ?_ _)); exact BK122.out)) : gb123 ≠ gb122)); clear BK121; clear BK122; clear HB; have BK121 := n0_; have BK122 := n1_; have HB := n2_; have BK123 := n3_; have GW123 := n4_; have GE123 := n5_; have NB121_123 := n6_; have NB123_121 := n7_; have NB122_123 := n8_; have NB123_122 := n9_; clear n0_ n1_ n2_ n3_ n4_ n5_ n6_ n7_ n8_ n9_; clear hb hbox hg; have hnb108 := NB121_122.out; have hnc108 := NB122_121.out; have hnb109 := NB121_123.out; have hnc109 := NB123_121.out; have hcz110_0 : w107.cell? ⟨gb121, 0, none⟩ = some (.string a0_0) := (blk_cell BK121.out 0).trans rfl; have hcz110_1 : w107.cell? ⟨gb121, 1, none⟩ = some (.string a0_1) := (blk_cell BK121.out 1).trans rfl; have hcz110_2 : w107.cell? ⟨gb121, 2, none⟩ = some (.bool false) := (blk_cell BK121.out 2).trans rfl; have hfz110_0 := blk_frozen BK121.out 0; have hfz110_1 := blk_frozen BK121.out 1; have hfz110_2 := blk_frozen BK121.out 2) | ((with_reducible refine gate_dst (N := 5) rfl ?_); refine box_event ?hg (N := 5) ?hd (cs := #[.string (⟨#[]⟩ : ByteArray), .string (⟨#[]⟩ : ByteArray), .bool false]) (t := 23) ?hr ?_; (case hd => rfl); (case hg => rfl); (case hr => first | (go_simp; done) | (go_simp; rfl)); intro gb124 hg w111 hbox hb; have n0_ := Aside0.mk (blk_below (g := gb121) (o := .cells #[.string a0_0, .string a0_1, .bool false] 23 (0, 0)) (by (with_reducible repeat (first | refine blk_drewN ?_ _ | refine blk_drew ?_ | refine blk_alloc ?_ _)); exact BK121.out) hb); have n1_ := Aside0.mk (blk_below (g := gb122) (o := .cells #[.string a1_0, .string a1_1, .bool a1_2] 23 (0, 0)) (by (with_reducible repeat (first | refine blk_drewN ?_ _ | refine blk_drew ?_ | refine blk_alloc ?_ _)); exact BK122.out) hb); have n2_ := Aside0.mk (blk_below (g := gb123) (o := .cells #[.string (⟨#[]⟩ : ByteArray), .string (⟨#[]⟩ : ByteArray), .bool false] 23 (0, 0)) (by (with_reducible repeat (first | refine blk_drewN ?_ _ | refine blk_drew ?_ | refine blk_alloc ?_ _)); exact BK123.out) hb); have n3_ := Aside0.mk (below_step (by repeat (first | (with_reducible first | exact HB.out | apply below_alloc | apply pw_below_drewN | apply below_drew1 | refine below_set ?_ GE121.out | refine below_set ?_ GE122.out | refine below_set ?_ GE123.out) | exact HB.out)) hb); have n4_ := Aside0.mk (hbox); have n5_ := Aside0.mk ((by rw [hg]; exact (below_size (by repeat (first | (with_reducible first | exact HB.out | apply below_alloc | apply pw_below_drewN | apply below_drew1 | refine below_set ?_ GE121.out | refine below_set ?_ GE122.out | refine below_set ?_ GE123.out) | exact HB.out))) : w.heap.size ≤ gb124)); have n6_ := Aside0.mk ((by rw [hg]; exact (below_size (by repeat (first | (with_reducible first | exact HB.out | apply below_alloc | apply pw_below_drewN | apply below_drew1 | refine below_set ?_ GE121.out | refine below_set ?_ GE122.out | refine below_set ?_ GE123.out) | exact HB.out))) : w.heap.size ≤ gb124)); have n7_ := Aside0.mk ((by rw [hg]; exact Nat.ne_of_lt (blk_lt (g := gb121) (o := .cells #[.string a0_0, .string a0_1, .bool false] 23 (0, 0)) (by (with_reducible repeat (first | refine blk_drewN ?_ _ | refine blk_drew ?_ | refine blk_alloc ?_ _)); exact BK121.out)) : gb121 ≠ gb124)); have n8_ := Aside0.mk ((by rw [hg]; exact Nat.ne_of_gt (blk_lt (g := gb121) (o := .cells #[.string a0_0, .string a0_1, .bool false] 23 (0, 0)) (by (with_reducible repeat (first | refine blk_drewN ?_ _ | refine blk_drew ?_ | refine blk_alloc ?_ _)); exact BK121.out)) : gb124 ≠ gb121)); have n9_ := Aside0.mk ((by rw [hg]; exact Nat.ne_of_lt (blk_lt (g := gb122) (o := .cells #[.string a1_0, .string a1_1, .bool a1_2] 23 (0, 0)) (by (with_reducible repeat (first | refine blk_drewN ?_ _ | refine blk_drew ?_ | refine blk_alloc ?_ _)); exact BK122.out)) : gb122 ≠ gb124)); have n10_ := Aside0.mk ((by rw [hg]; exact Nat.ne_of_gt (blk_lt (g := gb122) (o := .cells #[.string a1_0, .string a1_1, .bool a1_2] 23 (0, 0)) (by (with_reducible repeat (first | refine blk_drewN ?_ _ | refine blk_drew ?_ | refine blk_alloc ?_ _)); exact BK122.out)) : gb124 ≠ gb122)); have n11_ := Aside0.mk ((by rw [hg]; exact Nat.ne_of_lt (blk_lt (g := gb123) (o := .cells #[.string (⟨#[]⟩ : ByteArray), .string (⟨#[]⟩ : ByteArray), .bool false] 23 (0, 0)) (by (with_reducible repeat (first | refine blk_drewN ?_ _ | refine blk_drew ?_ | refine blk_alloc ?_ _)); exact BK123.out)) : gb123 ≠ gb124)); have n12_ := Aside0.mk ((by rw [hg]; exact Nat.ne_of_gt (blk_lt (g := gb123) (o := .cells #[.string (⟨#[]⟩ : ByteArray), .string (⟨#[]⟩ : ByteArray), .bool false] 23 (0, 0)) (by (with_reducible repeat (first | refine blk_drewN ?_ _ | refine blk_drew ?_ | refine blk_alloc ?_ _)); exact BK123.out)) : gb124 ≠ gb123)); clear BK121; clear BK122; clear BK123; clear HB; have BK121 := n0_; have BK122 := n1_; have BK123 := n2_; have HB := n3_; have BK124 := n4_; have GW124 := n5_; have GE124 := n6_; have NB121_124 := n7_; have NB124_121 := n8_; have NB122_124 := n9_; have NB124_122 := n10_; have NB123_124 := n11_; have NB124_123 := n12_; clear n0_ n1_ n2_ n3_ n4_ n5_ n6_ n7_ n8_ n9_ n10_ n11_ n12_; clear hb hbox hg; have hnb112 := NB124_121.out; have hnc112 := NB121_124.out; have hnb113 := NB124_122.out; have hnc113 := NB122_124.out; have hnb114 := NB124_123.out; have hnc114 := NB123_124.out; have hcz115_0 : w111.cell? ⟨gb124, 0, none⟩ = some (.string (⟨#[]⟩ : ByteArray)) := (blk_cell BK124.out 0).trans rfl; have hcz115_1 : w111.cell? ⟨gb124, 1, none⟩ = some (.string (⟨#[]⟩ : ByteArray)) := (blk_cell BK124.out 1).trans rfl; have hcz115_2 : w111.cell? ⟨gb124, 2, none⟩ = some (.bool false) := (blk_cell BK124.out 2).trans rfl; have hfz115_0 := blk_frozen BK124.out 0; have hfz115_1 := blk_frozen BK124.out 1; have hfz115_2 := blk_frozen BK124.out 2; have hcz116_0 : w111.cell? ⟨gb121, 0, none⟩ = some (.string a0_0) := (blk_cell BK121.out 0).trans rfl; have hcz116_1 : w111.cell? ⟨gb121, 1, none⟩ = some (.string a0_1) := (blk_cell BK121.out 1).trans rfl; have hcz116_2 : w111.cell? ⟨gb121, 2, none⟩ = some (.bool false) := (blk_cell BK121.out 2).trans rfl; have hfz116_0 := blk_frozen BK121.out 0; have hfz116_1 := blk_frozen BK121.out 1; have hfz116_2 := blk_frozen BK121.out 2; have hnb117 := NB122_123.out; have hnc117 := NB123_122.out; have hcz118_0 : w111.cell? ⟨gb122, 0, none⟩ = some (.string a1_0) := (blk_cell BK122.out 0).trans rfl; have hcz118_1 : w111.cell? ⟨gb122, 1, none⟩ = some (.string a1_1) := (blk_cell BK122.out 1).trans rfl; have hcz118_2 : w111.cell? ⟨gb122, 2, none⟩ = some (.bool a1_2) := (blk_cell BK122.out 2).trans rfl; have hfz118_0 := blk_frozen BK122.out 0; have hfz118_1 := blk_frozen BK122.out 1; have hfz118_2 := blk_frozen BK122.out 2) | ((with_reducible refine gate_callee (f := 23) rfl ?_); refine goesL_ (some 19) rfl rfl Try.func23 (by kernel_rfl) rfl #[.string a0_0, .string a1_0] rfl (by (try simp only [List.map_toArray, List.map_cons, List.map_nil]); first | done | rfl | (simp only [List.length_drop, List.length_take]; rfl)) ?_; (with_reducible refine (rundleref04_Less.calls k a0_0 a1_0 t127 _ A103.out).mono ?_); rintro e w' ⟨rfl, ⟨nd, rfl⟩⟩; refine ⟨_, rfl, ?_⟩))
    (try simp only [Act.put, List.setIfInBounds_toArray, List.set_cons_zero, List.set_cons_succ])
    go_cut [] (fun wc => ∃ (kq : Nat) (x125000_103 : ByteArray), Aside0 (rundleref04_Meet.j6 kq a0_0 a0_1 false a1_0 a1_1 a1_2 x125000_103 (⟨#[]⟩ : ByteArray) false = some (r1, r2, r3)) ∧ Aside0 (kq ≤ k) ∧ Aside0 (wc.heap[gb121]? = some (.cells #[.string a0_0, .string a0_1, .bool false] 23 (0, 0))) ∧ Aside0 (wc.heap[gb122]? = some (.cells #[.string a1_0, .string a1_1, .bool a1_2] 23 (0, 0))) ∧ Aside0 (wc.heap[gb123]? = some (.cells #[.string (⟨#[]⟩ : ByteArray), .string (⟨#[]⟩ : ByteArray), .bool false] 23 (0, 0))) ∧ Aside0 (wc.heap[gb124]? = some (.cells #[.string x125000_103, .string (⟨#[]⟩ : ByteArray), .bool false] 23 (0, 0))) ∧ Aside0 (Below w.heap.size w wc))
    case first =>
      have H := HC104.out
      clear HC104
      by_cases c119 : t127 = true
      · subst c119
        have H1 : (rundleref04_Meet.j6 k a0_0 a0_1 false a1_0 a1_1 a1_2 a1_0 (⟨#[]⟩ : ByteArray) false) = some (r1, r2, r3) := by rw [if_pos rfl] at H; exact H
        clear H
        have H := H1
        clear H1
        have H' := Aside0.mk H
        clear H
        have hnb120 := NB122_121.out
        have hnc120 := NB121_122.out
        have hnb121 := NB122_123.out
        have hnc121 := NB123_122.out
        have hnb122 := NB122_124.out
        have hnc122 := NB124_122.out
        have hcz123_0 : w111.cell? ⟨gb122, 0, none⟩ = some (.string a1_0) := (blk_cell BK122.out 0).trans rfl
        have hcz123_1 : w111.cell? ⟨gb122, 1, none⟩ = some (.string a1_1) := (blk_cell BK122.out 1).trans rfl
        have hcz123_2 : w111.cell? ⟨gb122, 2, none⟩ = some (.bool a1_2) := (blk_cell BK122.out 2).trans rfl
        have hfz123_0 := blk_frozen BK122.out 0
        have hfz123_1 := blk_frozen BK122.out 1
        have hfz123_2 := blk_frozen BK122.out 2
        have hnb124 := NB124_121.out
        have hnc124 := NB121_124.out
        have hnb125 := NB124_123.out
        have hnc125 := NB123_124.out
        have hcz126_0 : w111.cell? ⟨gb124, 0, none⟩ = some (.string (⟨#[]⟩ : ByteArray)) := (blk_cell BK124.out 0).trans rfl
        have hcz126_1 : w111.cell? ⟨gb124, 1, none⟩ = some (.string (⟨#[]⟩ : ByteArray)) := (blk_cell BK124.out 1).trans rfl
        have hcz126_2 : w111.cell? ⟨gb124, 2, none⟩ = some (.bool false) := (blk_cell BK124.out 2).trans rfl
        have hfz126_0 := blk_frozen BK124.out 0
        have hfz126_1 := blk_frozen BK124.out 1
        have hfz126_2 := blk_frozen BK124.out 2
        go_wp2
        go_meet
        case rel => exact ⟨_, (a1_0), H', ⟨by first | omega | exact Nat.le_refl _⟩, ⟨by (with_reducible repeat (first | refine blk_drewN ?_ _ | refine blk_drew ?_ | refine blk_alloc ?_ _)); refine blk_far ?_ NB121_124.out _; (with_reducible repeat (first | refine blk_drewN ?_ _ | refine blk_drew ?_ | refine blk_alloc ?_ _)); refine blk_far ?_ NB121_124.out _; (with_reducible repeat (first | refine blk_drewN ?_ _ | refine blk_drew ?_ | refine blk_alloc ?_ _)); refine blk_far ?_ NB121_124.out _; (with_reducible repeat (first | refine blk_drewN ?_ _ | refine blk_drew ?_ | refine blk_alloc ?_ _)); refine blk_far ?_ NB121_124.out _; (with_reducible repeat (first | refine blk_drewN ?_ _ | refine blk_drew ?_ | refine blk_alloc ?_ _)); exact BK121.out⟩, ⟨by (with_reducible repeat (first | refine blk_drewN ?_ _ | refine blk_drew ?_ | refine blk_alloc ?_ _)); refine blk_far ?_ NB122_124.out _; (with_reducible repeat (first | refine blk_drewN ?_ _ | refine blk_drew ?_ | refine blk_alloc ?_ _)); refine blk_far ?_ NB122_124.out _; (with_reducible repeat (first | refine blk_drewN ?_ _ | refine blk_drew ?_ | refine blk_alloc ?_ _)); refine blk_far ?_ NB122_124.out _; (with_reducible repeat (first | refine blk_drewN ?_ _ | refine blk_drew ?_ | refine blk_alloc ?_ _)); refine blk_far ?_ NB122_124.out _; (with_reducible repeat (first | refine blk_drewN ?_ _ | refine blk_drew ?_ | refine blk_alloc ?_ _)); exact BK122.out⟩, ⟨by (with_reducible repeat (first | refine blk_drewN ?_ _ | refine blk_drew ?_ | refine blk_alloc ?_ _)); refine blk_far ?_ NB123_124.out _; (with_reducible repeat (first | refine blk_drewN ?_ _ | refine blk_drew ?_ | refine blk_alloc ?_ _)); refine blk_far ?_ NB123_124.out _; (with_reducible repeat (first | refine blk_drewN ?_ _ | refine blk_drew ?_ | refine blk_alloc ?_ _)); refine blk_far ?_ NB123_124.out _; (with_reducible repeat (first | refine blk_drewN ?_ _ | refine blk_drew ?_ | refine blk_alloc ?_ _)); refine blk_far ?_ NB123_124.out _; (with_reducible repeat (first | refine blk_drewN ?_ _ | refine blk_drew ?_ | refine blk_alloc ?_ _)); exact BK123.out⟩, ⟨by (with_reducible repeat (first | refine blk_drewN ?_ _ | refine blk_drew ?_ | refine blk_alloc ?_ _)); refine blk_put (cs := #[.string a0_0, .string (⟨#[]⟩ : ByteArray), .bool false]) ?_ 0 _ rfl; (with_reducible repeat (first | refine blk_drewN ?_ _ | refine blk_drew ?_ | refine blk_alloc ?_ _)); refine blk_put (cs := #[.string a0_0, .string (⟨#[]⟩ : ByteArray), .bool false]) ?_ 2 _ rfl; (with_reducible repeat (first | refine blk_drewN ?_ _ | refine blk_drew ?_ | refine blk_alloc ?_ _)); refine blk_put (cs := #[.string a0_0, .string (⟨#[]⟩ : ByteArray), .bool false]) ?_ 1 _ rfl; (with_reducible repeat (first | refine blk_drewN ?_ _ | refine blk_drew ?_ | refine blk_alloc ?_ _)); refine blk_put (cs := #[.string (⟨#[]⟩ : ByteArray), .string (⟨#[]⟩ : ByteArray), .bool false]) ?_ 0 _ rfl; (with_reducible repeat (first | refine blk_drewN ?_ _ | refine blk_drew ?_ | refine blk_alloc ?_ _)); exact BK124.out⟩, ⟨by repeat (first | (with_reducible first | exact HB.out | apply below_alloc | apply pw_below_drewN | apply below_drew1 | refine below_set ?_ GE121.out | refine below_set ?_ GE122.out | refine below_set ?_ GE123.out | refine below_set ?_ GE124.out) | exact HB.out)⟩⟩
      · replace c119 := Bool.eq_false_iff.mpr c119
        subst c119
        have H1 : (rundleref04_Meet.j6 k a0_0 a0_1 false a1_0 a1_1 a1_2 a0_0 (⟨#[]⟩ : ByteArray) false) = some (r1, r2, r3) := by rw [if_neg (show ¬ (false = true) by decide)] at H; exact H
        clear H
        have H := H1
        clear H1
        have H' := Aside0.mk H
        clear H
        go_wp2
        go_meet
        case rel => exact ⟨_, (a0_0), H', ⟨by first | omega | exact Nat.le_refl _⟩, ⟨by (with_reducible repeat (first | refine blk_drewN ?_ _ | refine blk_drew ?_ | refine blk_alloc ?_ _)); refine blk_far ?_ NB121_124.out _; (with_reducible repeat (first | refine blk_drewN ?_ _ | refine blk_drew ?_ | refine blk_alloc ?_ _)); refine blk_far ?_ NB121_124.out _; (with_reducible repeat (first | refine blk_drewN ?_ _ | refine blk_drew ?_ | refine blk_alloc ?_ _)); refine blk_far ?_ NB121_124.out _; (with_reducible repeat (first | refine blk_drewN ?_ _ | refine blk_drew ?_ | refine blk_alloc ?_ _)); exact BK121.out⟩, ⟨by (with_reducible repeat (first | refine blk_drewN ?_ _ | refine blk_drew ?_ | refine blk_alloc ?_ _)); refine blk_far ?_ NB122_124.out _; (with_reducible repeat (first | refine blk_drewN ?_ _ | refine blk_drew ?_ | refine blk_alloc ?_ _)); refine blk_far ?_ NB122_124.out _; (with_reducible repeat (first | refine blk_drewN ?_ _ | refine blk_drew ?_ | refine blk_alloc ?_ _)); refine blk_far ?_ NB122_124.out _; (with_reducible repeat (first | refine blk_drewN ?_ _ | refine blk_drew ?_ | refine blk_alloc ?_ _)); exact BK122.out⟩, ⟨by (with_reducible repeat (first | refine blk_drewN ?_ _ | refine blk_drew ?_ | refine blk_alloc ?_ _)); refine blk_far ?_ NB123_124.out _; (with_reducible repeat (first | refine blk_drewN ?_ _ | refine blk_drew ?_ | refine blk_alloc ?_ _)); refine blk_far ?_ NB123_124.out _; (with_reducible repeat (first | refine blk_drewN ?_ _ | refine blk_drew ?_ | refine blk_alloc ?_ _)); refine blk_far ?_ NB123_124.out _; (with_reducible repeat (first | refine blk_drewN ?_ _ | refine blk_drew ?_ | refine blk_alloc ?_ _)); exact BK123.out⟩, ⟨by (with_reducible repeat (first | refine blk_drewN ?_ _ | refine blk_drew ?_ | refine blk_alloc ?_ _)); refine blk_put (cs := #[.string a0_0, .string (⟨#[]⟩ : ByteArray), .bool false]) ?_ 2 _ rfl; (with_reducible repeat (first | refine blk_drewN ?_ _ | refine blk_drew ?_ | refine blk_alloc ?_ _)); refine blk_put (cs := #[.string a0_0, .string (⟨#[]⟩ : ByteArray), .bool false]) ?_ 1 _ rfl; (with_reducible repeat (first | refine blk_drewN ?_ _ | refine blk_drew ?_ | refine blk_alloc ?_ _)); refine blk_put (cs := #[.string (⟨#[]⟩ : ByteArray), .string (⟨#[]⟩ : ByteArray), .bool false]) ?_ 0 _ rfl; (with_reducible repeat (first | refine blk_drewN ?_ _ | refine blk_drew ?_ | refine blk_alloc ?_ _)); exact BK124.out⟩, ⟨by repeat (first | (with_reducible first | exact HB.out | apply below_alloc | apply pw_below_drewN | apply below_drew1 | refine below_set ?_ GE121.out | refine below_set ?_ GE122.out | refine below_set ?_ GE123.out | refine below_set ?_ GE124.out) | exact HB.out)⟩⟩
    case rest =>
      clear HC104
      try clear c1
      try clear c2
      try clear p2
      try clear c3
      try clear c4
      try clear c5
      try clear c6
      try clear c7
      try clear c8
      try clear c9
      try clear c10
      try clear c11
      try clear c12
      try clear c14
      try clear c15
      try clear c16
      try clear c17
      try clear c21
      try clear c22
      try clear c23
      try clear c24
      try clear c26
      try clear c27
      try clear c30
      try clear c31
      try clear c32
      try clear c34
      try clear c35
      try clear c38
      try clear c39
      try clear c40
      try clear c41
      try clear c43
      try clear c44
      try clear c47
      try clear c48
      try clear c49
      try clear c50
      try clear c52
      try clear c53
      try clear c55
      try clear c56
      try clear c57
      try clear c60
      try clear c61
      try clear c62
      try clear c63
      try clear c65
      try clear c66
      try clear c69
      try clear c70
      try clear c71
      try clear c73
      try clear c75
      try clear c76
      try clear c77
      try clear c78
      try clear c80
      try clear c81
      try clear c83
      try clear c86
      try clear c87
      try clear c88
      try clear c90
      try clear c91
      try clear c93
      try clear c96
      try clear c97
      try clear c98
      try clear c100
      try clear c101
      try clear c108
      try clear c109
      try clear c112
      try clear c113
      try clear c114
      try clear c117
      try clear c119
      try clear c120
      try clear c121
      try clear c122
      try clear c124
      try clear c125
      try clear hcz102_0
      try clear hcz102_1
      try clear hcz102_2
      try clear hcz110_0
      try clear hcz110_1
      try clear hcz110_2
      try clear hcz115_0
      try clear hcz115_1
      try clear hcz115_2
      try clear hcz116_0
      try clear hcz116_1
      try clear hcz116_2
      try clear hcz118_0
      try clear hcz118_1
      try clear hcz118_2
      try clear hcz11_0
      try clear hcz11_1
      try clear hcz11_2
      try clear hcz123_0
      try clear hcz123_1
      try clear hcz123_2
      try clear hcz126_0
      try clear hcz126_1
      try clear hcz126_2
      try clear hcz13_0
      try clear hcz13_1
      try clear hcz13_2
      try clear hcz18_0
      try clear hcz18_1
      try clear hcz18_2
      try clear hcz19_0
      try clear hcz19_1
      try clear hcz19_2
      try clear hcz20_0
      try clear hcz20_1
      try clear hcz20_2
      try clear hcz25_0
      try clear hcz25_1
      try clear hcz25_2
      try clear hcz28_0
      try clear hcz28_1
      try clear hcz28_2
      try clear hcz33_0
      try clear hcz33_1
      try clear hcz33_2
      try clear hcz36_0
      try clear hcz36_1
      try clear hcz36_2
      try clear hcz42_0
      try clear hcz42_1
      try clear hcz42_2
      try clear hcz45_0
      try clear hcz45_1
      try clear hcz45_2
      try clear hcz51_0
      try clear hcz51_1
      try clear hcz51_2
      try clear hcz54_0
      try clear hcz54_1
      try clear hcz54_2
      try clear hcz58_0
      try clear hcz58_1
      try clear hcz58_2
      try clear hcz64_0
      try clear hcz64_1
      try clear hcz64_2
      try clear hcz67_0
      try clear hcz67_1
      try clear hcz67_2
      try clear hcz72_0
      try clear hcz72_1
      try clear hcz72_2
      try clear hcz79_0
      try clear hcz79_1
      try clear hcz79_2
      try clear hcz82_0
      try clear hcz82_1
      try clear hcz82_2
      try clear hcz84_0
      try clear hcz84_1
      try clear hcz84_2
      try clear hcz85_0
      try clear hcz85_1
      try clear hcz85_2
      try clear hcz89_0
      try clear hcz89_1
      try clear hcz89_2
      try clear hcz92_0
      try clear hcz92_1
      try clear hcz92_2
      try clear hcz94_0
      try clear hcz94_1
      try clear hcz94_2
      try clear hcz95_0
      try clear hcz95_1
      try clear hcz95_2
      try clear hcz99_0
      try clear hcz99_1
      try clear hcz99_2
      try clear hfz102_0
      try clear hfz102_1
      try clear hfz102_2
      try clear hfz110_0
      try clear hfz110_1
      try clear hfz110_2
      try clear hfz115_0
      try clear hfz115_1
      try clear hfz115_2
      try clear hfz116_0
      try clear hfz116_1
      try clear hfz116_2
      try clear hfz118_0
      try clear hfz118_1
      try clear hfz118_2
      try clear hfz11_0
      try clear hfz11_1
      try clear hfz11_2
      try clear hfz123_0
      try clear hfz123_1
      try clear hfz123_2
      try clear hfz126_0
      try clear hfz126_1
      try clear hfz126_2
      try clear hfz13_0
      try clear hfz13_1
      try clear hfz13_2
      try clear hfz18_0
      try clear hfz18_1
      try clear hfz18_2
      try clear hfz19_0
      try clear hfz19_1
      try clear hfz19_2
      try clear hfz20_0
      try clear hfz20_1
      try clear hfz20_2
      try clear hfz25_0
      try clear hfz25_1
      try clear hfz25_2
      try clear hfz28_0
      try clear hfz28_1
      try clear hfz28_2
      try clear hfz33_0
      try clear hfz33_1
      try clear hfz33_2
      try clear hfz36_0
      try clear hfz36_1
      try clear hfz36_2
      try clear hfz42_0
      try clear hfz42_1
      try clear hfz42_2
      try clear hfz45_0
      try clear hfz45_1
      try clear hfz45_2
      try clear hfz51_0
      try clear hfz51_1
      try clear hfz51_2
      try clear hfz54_0
      try clear hfz54_1
      try clear hfz54_2
      try clear hfz58_0
      try clear hfz58_1
      try clear hfz58_2
      try clear hfz64_0
      try clear hfz64_1
      try clear hfz64_2
      try clear hfz67_0
      try clear hfz67_1
      try clear hfz67_2
      try clear hfz72_0
      try clear hfz72_1
      try clear hfz72_2
      try clear hfz79_0
      try clear hfz79_1
      try clear hfz79_2
      try clear hfz82_0
      try clear hfz82_1
      try clear hfz82_2
      try clear hfz84_0
      try clear hfz84_1
      try clear hfz84_2
      try clear hfz85_0
      try clear hfz85_1
      try clear hfz85_2
      try clear hfz89_0
      try clear hfz89_1
      try clear hfz89_2
      try clear hfz92_0
      try clear hfz92_1
      try clear hfz92_2
      try clear hfz94_0
      try clear hfz94_1
      try clear hfz94_2
      try clear hfz95_0
      try clear hfz95_1
      try clear hfz95_2
      try clear hfz99_0
      try clear hfz99_1
      try clear hfz99_2
      try clear p2
      obtain ⟨kq, x125000_103, HA, HJ103, BK121, BK122, BK123, BK124, HB⟩ := hcut
      cases kq with
      | zero => exact absurd HA.out (by simp [rundleref04_Meet.j6])
      | succ kj103 =>
        have H := HA.out
        clear HA
        simp only [rundleref04_Meet.j6] at H
        have HC127 := Aside0.mk H
        clear H
        go_upto_region 4 with (fail)
        go_cut [29] (fun v29 wc => ∃ (kq : Nat) (x29_126 : Bool), v29 = .bool x29_126 ∧ Aside0 (rundleref04_Meet.j7 kq x29_126 a0_0 a0_1 false a1_0 a1_1 a1_2 x125000_103 (⟨#[]⟩ : ByteArray) false = some (r1, r2, r3)) ∧ Aside0 (kq ≤ kj103) ∧ Aside0 (wc.heap[gb121]? = some (.cells #[.string a0_0, .string a0_1, .bool false] 23 (0, 0))) ∧ Aside0 (wc.heap[gb122]? = some (.cells #[.string a1_0, .string a1_1, .bool a1_2] 23 (0, 0))) ∧ Aside0 (wc.heap[gb123]? = some (.cells #[.string (⟨#[]⟩ : ByteArray), .string (⟨#[]⟩ : ByteArray), .bool false] 23 (0, 0))) ∧ Aside0 (wc.heap[gb124]? = some (.cells #[.string x125000_103, .string (⟨#[]⟩ : ByteArray), .bool false] 23 (0, 0))) ∧ Aside0 (Below w.heap.size w wc))
        case first =>
          have H := HC127.out
          clear HC127
          have H1 : (rundleref04_Meet.j7 kj103 false a0_0 a0_1 false a1_0 a1_1 a1_2 x125000_103 (⟨#[]⟩ : ByteArray) false) = some (r1, r2, r3) := by first | (rw [if_neg (show ¬ (false = true) by decide)] at H; exact H) | (simp only [if_true, Bool.false_eq_true, if_false] at H; exact H)
          clear H
          have H := H1
          clear H1
          have H' := Aside0.mk H
          clear H
          have hnb128 := NB121_122.out
          have hnc128 := NB122_121.out
          have hnb129 := NB121_123.out
          have hnc129 := NB123_121.out
          have hnb130 := NB121_124.out
          have hnc130 := NB124_121.out
          have hcz131_0 : wc.cell? ⟨gb121, 0, none⟩ = some (.string a0_0) := (blk_cell BK121.out 0).trans rfl
          have hcz131_1 : wc.cell? ⟨gb121, 1, none⟩ = some (.string a0_1) := (blk_cell BK121.out 1).trans rfl
          have hcz131_2 : wc.cell? ⟨gb121, 2, none⟩ = some (.bool false) := (blk_cell BK121.out 2).trans rfl
          have hfz131_0 := blk_frozen BK121.out 0
          have hfz131_1 := blk_frozen BK121.out 1
          have hfz131_2 := blk_frozen BK121.out 2
          go_wp2
          go_meet
          case rel => exact ⟨_, (false), (by first | rfl | (simp; done) | (simp [*]; done)), H', ⟨by have := HJ103.out; first | omega | exact Nat.le_refl _⟩, ⟨by (with_reducible repeat (first | refine blk_drewN ?_ _ | refine blk_drew ?_ | refine blk_alloc ?_ _)); exact BK121.out⟩, ⟨by (with_reducible repeat (first | refine blk_drewN ?_ _ | refine blk_drew ?_ | refine blk_alloc ?_ _)); exact BK122.out⟩, ⟨by (with_reducible repeat (first | refine blk_drewN ?_ _ | refine blk_drew ?_ | refine blk_alloc ?_ _)); exact BK123.out⟩, ⟨by (with_reducible repeat (first | refine blk_drewN ?_ _ | refine blk_drew ?_ | refine blk_alloc ?_ _)); exact BK124.out⟩, ⟨by repeat (first | (with_reducible first | exact HB.out | apply below_alloc | apply pw_below_drewN | apply below_drew1 | refine below_set ?_ GE121.out | refine below_set ?_ GE122.out | refine below_set ?_ GE123.out | refine below_set ?_ GE124.out) | exact HB.out)⟩⟩
        case rest =>
          clear HC127
          try clear c1
          try clear c2
          try clear p2
          try clear c3
          try clear c4
          try clear c5
          try clear c6
          try clear c7
          try clear c8
          try clear c9
          try clear c10
          try clear c11
          try clear c12
          try clear c13
          try clear c14
          try clear c15
          try clear c16
          try clear c17
          try clear c21
          try clear c22
          try clear c23
          try clear c24
          try clear c26
          try clear c27
          try clear c30
          try clear c31
          try clear c32
          try clear c34
          try clear c35
          try clear c38
          try clear c39
          try clear c40
          try clear c41
          try clear c43
          try clear c44
          try clear c47
          try clear c48
          try clear c49
          try clear c50
          try clear c52
          try clear c53
          try clear c55
          try clear c56
          try clear c57
          try clear c60
          try clear c61
          try clear c62
          try clear c63
          try clear c65
          try clear c66
          try clear c69
          try clear c70
          try clear c71
          try clear c73
          try clear c75
          try clear c76
          try clear c77
          try clear c78
          try clear c80
          try clear c81
          try clear c83
          try clear c86
          try clear c87
          try clear c88
          try clear c90
          try clear c91
          try clear c93
          try clear c96
          try clear c97
          try clear c98
          try clear c100
          try clear c101
          try clear c108
          try clear c109
          try clear c112
          try clear c113
          try clear c114
          try clear c117
          try clear c119
          try clear c120
          try clear c121
          try clear c122
          try clear c124
          try clear c125
          try clear c128
          try clear c129
          try clear c130
          try clear hcz102_0
          try clear hcz102_1
          try clear hcz102_2
          try clear hcz110_0
          try clear hcz110_1
          try clear hcz110_2
          try clear hcz115_0
          try clear hcz115_1
          try clear hcz115_2
          try clear hcz116_0
          try clear hcz116_1
          try clear hcz116_2
          try clear hcz118_0
          try clear hcz118_1
          try clear hcz118_2
          try clear hcz11_0
          try clear hcz11_1
          try clear hcz11_2
          try clear hcz123_0
          try clear hcz123_1
          try clear hcz123_2
          try clear hcz126_0
          try clear hcz126_1
          try clear hcz126_2
          try clear hcz131_0
          try clear hcz131_1
          try clear hcz131_2
          try clear hcz13_0
          try clear hcz13_1
          try clear hcz13_2
          try clear hcz18_0
          try clear hcz18_1
          try clear hcz18_2
          try clear hcz19_0
          try clear hcz19_1
          try clear hcz19_2
          try clear hcz20_0
          try clear hcz20_1
          try clear hcz20_2
          try clear hcz25_0
          try clear hcz25_1
          try clear hcz25_2
          try clear hcz28_0
          try clear hcz28_1
          try clear hcz28_2
          try clear hcz33_0
          try clear hcz33_1
          try clear hcz33_2
          try clear hcz36_0
          try clear hcz36_1
          try clear hcz36_2
          try clear hcz42_0
          try clear hcz42_1
          try clear hcz42_2
          try clear hcz45_0
          try clear hcz45_1
          try clear hcz45_2
          try clear hcz51_0
          try clear hcz51_1
          try clear hcz51_2
          try clear hcz54_0
          try clear hcz54_1
          try clear hcz54_2
          try clear hcz58_0
          try clear hcz58_1
          try clear hcz58_2
          try clear hcz64_0
          try clear hcz64_1
          try clear hcz64_2
          try clear hcz67_0
          try clear hcz67_1
          try clear hcz67_2
          try clear hcz72_0
          try clear hcz72_1
          try clear hcz72_2
          try clear hcz79_0
          try clear hcz79_1
          try clear hcz79_2
          try clear hcz82_0
          try clear hcz82_1
          try clear hcz82_2
          try clear hcz84_0
          try clear hcz84_1
          try clear hcz84_2
          try clear hcz85_0
          try clear hcz85_1
          try clear hcz85_2
          try clear hcz89_0
          try clear hcz89_1
          try clear hcz89_2
          try clear hcz92_0
          try clear hcz92_1
          try clear hcz92_2
          try clear hcz94_0
          try clear hcz94_1
          try clear hcz94_2
          try clear hcz95_0
          try clear hcz95_1
          try clear hcz95_2
          try clear hcz99_0
          try clear hcz99_1
          try clear hcz99_2
          try clear hfz102_0
          try clear hfz102_1
          try clear hfz102_2
          try clear hfz110_0
          try clear hfz110_1
          try clear hfz110_2
          try clear hfz115_0
          try clear hfz115_1
          try clear hfz115_2
          try clear hfz116_0
          try clear hfz116_1
          try clear hfz116_2
          try clear hfz118_0
          try clear hfz118_1
          try clear hfz118_2
          try clear hfz11_0
          try clear hfz11_1
          try clear hfz11_2
          try clear hfz123_0
          try clear hfz123_1
          try clear hfz123_2
          try clear hfz126_0
          try clear hfz126_1
          try clear hfz126_2
          try clear hfz131_0
          try clear hfz131_1
          try clear hfz131_2
          try clear hfz13_0
          try clear hfz13_1
          try clear hfz13_2
          try clear hfz18_0
          try clear hfz18_1
          try clear hfz18_2
          try clear hfz19_0
          try clear hfz19_1
          try clear hfz19_2
          try clear hfz20_0
          try clear hfz20_1
          try clear hfz20_2
          try clear hfz25_0
          try clear hfz25_1
          try clear hfz25_2
          try clear hfz28_0
          try clear hfz28_1
          try clear hfz28_2
          try clear hfz33_0
          try clear hfz33_1
          try clear hfz33_2
          try clear hfz36_0
          try clear hfz36_1
          try clear hfz36_2
          try clear hfz42_0
          try clear hfz42_1
          try clear hfz42_2
          try clear hfz45_0
          try clear hfz45_1
          try clear hfz45_2
          try clear hfz51_0
          try clear hfz51_1
          try clear hfz51_2
          try clear hfz54_0
          try clear hfz54_1
          try clear hfz54_2
          try clear hfz58_0
          try clear hfz58_1
          try clear hfz58_2
          try clear hfz64_0
          try clear hfz64_1
          try clear hfz64_2
          try clear hfz67_0
          try clear hfz67_1
          try clear hfz67_2
          try clear hfz72_0
          try clear hfz72_1
          try clear hfz72_2
          try clear hfz79_0
          try clear hfz79_1
          try clear hfz79_2
          try clear hfz82_0
          try clear hfz82_1
          try clear hfz82_2
          try clear hfz84_0
          try clear hfz84_1
          try clear hfz84_2
          try clear hfz85_0
          try clear hfz85_1
          try clear hfz85_2
          try clear hfz89_0
          try clear hfz89_1
          try clear hfz89_2
          try clear hfz92_0
          try clear hfz92_1
          try clear hfz92_2
          try clear hfz94_0
          try clear hfz94_1
          try clear hfz94_2
          try clear hfz95_0
          try clear hfz95_1
          try clear hfz95_2
          try clear hfz99_0
          try clear hfz99_1
          try clear hfz99_2
          try clear p2
          obtain ⟨kq, x29_126, rfl, HA, HJ126, BK121, BK122, BK123, BK124, HB⟩ := hcut
          cases kq with
          | zero => exact absurd HA.out (by simp [rundleref04_Meet.j7])
          | succ kj126 =>
            have H := HA.out
            clear HA
            simp only [rundleref04_Meet.j7] at H
            have HC132 := Aside0.mk H
            clear H
            go_upto_if 29 with (fail)
            go_cut [] (fun wc => ∃ (kq : Nat) (x125001_131 : ByteArray), Aside0 (rundleref04_Meet.j8 kq a0_0 a0_1 false a1_0 a1_1 a1_2 x125000_103 x125001_131 false = some (r1, r2, r3)) ∧ Aside0 (kq ≤ kj126) ∧ Aside0 (wc.heap[gb121]? = some (.cells #[.string a0_0, .string a0_1, .bool false] 23 (0, 0))) ∧ Aside0 (wc.heap[gb122]? = some (.cells #[.string a1_0, .string a1_1, .bool a1_2] 23 (0, 0))) ∧ Aside0 (wc.heap[gb123]? = some (.cells #[.string (⟨#[]⟩ : ByteArray), .string (⟨#[]⟩ : ByteArray), .bool false] 23 (0, 0))) ∧ Aside0 (wc.heap[gb124]? = some (.cells #[.string x125000_103, .string x125001_131, .bool false] 23 (0, 0))) ∧ Aside0 (Below w.heap.size w wc))
            case first =>
              have H := HC132.out
              clear HC132
              by_cases c133 : x29_126 = true
              · subst c133
                have H1 : (rundleref04_Meet.j8 kj126 a0_0 a0_1 false a1_0 a1_1 a1_2 x125000_103 a1_1 false) = some (r1, r2, r3) := by rw [if_pos rfl] at H; exact H
                clear H
                have H := H1
                clear H1
                have H' := Aside0.mk H
                clear H
                have hnb134 := NB122_121.out
                have hnc134 := NB121_122.out
                have hnb135 := NB122_123.out
                have hnc135 := NB123_122.out
                have hnb136 := NB122_124.out
                have hnc136 := NB124_122.out
                have hcz137_0 : wc.cell? ⟨gb122, 0, none⟩ = some (.string a1_0) := (blk_cell BK122.out 0).trans rfl
                have hcz137_1 : wc.cell? ⟨gb122, 1, none⟩ = some (.string a1_1) := (blk_cell BK122.out 1).trans rfl
                have hcz137_2 : wc.cell? ⟨gb122, 2, none⟩ = some (.bool a1_2) := (blk_cell BK122.out 2).trans rfl
                have hfz137_0 := blk_frozen BK122.out 0
                have hfz137_1 := blk_frozen BK122.out 1
                have hfz137_2 := blk_frozen BK122.out 2
                have hnb138 := NB124_121.out
                have hnc138 := NB121_124.out
                have hnb139 := NB124_123.out
                have hnc139 := NB123_124.out
                have hcz140_0 : wc.cell? ⟨gb124, 0, none⟩ = some (.string x125000_103) := (blk_cell BK124.out 0).trans rfl
                have hcz140_1 : wc.cell? ⟨gb124, 1, none⟩ = some (.string (⟨#[]⟩ : ByteArray)) := (blk_cell BK124.out 1).trans rfl
                have hcz140_2 : wc.cell? ⟨gb124, 2, none⟩ = some (.bool false) := (blk_cell BK124.out 2).trans rfl
                have hfz140_0 := blk_frozen BK124.out 0
                have hfz140_1 := blk_frozen BK124.out 1
                have hfz140_2 := blk_frozen BK124.out 2
                go_wp2
                go_meet
                case rel => exact ⟨_, (a1_1), H', ⟨by have := HJ103.out; have := HJ126.out; first | omega | exact Nat.le_refl _⟩, ⟨by (with_reducible repeat (first | refine blk_drewN ?_ _ | refine blk_drew ?_ | refine blk_alloc ?_ _)); refine blk_far ?_ NB121_124.out _; (with_reducible repeat (first | refine blk_drewN ?_ _ | refine blk_drew ?_ | refine blk_alloc ?_ _)); exact BK121.out⟩, ⟨by (with_reducible repeat (first | refine blk_drewN ?_ _ | refine blk_drew ?_ | refine blk_alloc ?_ _)); refine blk_far ?_ NB122_124.out _; (with_reducible repeat (first | refine blk_drewN ?_ _ | refine blk_drew ?_ | refine blk_alloc ?_ _)); exact BK122.out⟩, ⟨by (with_reducible repeat (first | refine blk_drewN ?_ _ | refine blk_drew ?_ | refine blk_alloc ?_ _)); refine blk_far ?_ NB123_124.out _; (with_reducible repeat (first | refine blk_drewN ?_ _ | refine blk_drew ?_ | refine blk_alloc ?_ _)); exact BK123.out⟩, ⟨by (with_reducible repeat (first | refine blk_drewN ?_ _ | refine blk_drew ?_ | refine blk_alloc ?_ _)); refine blk_put (cs := #[.string x125000_103, .string (⟨#[]⟩ : ByteArray), .bool false]) ?_ 1 _ rfl; (with_reducible repeat (first | refine blk_drewN ?_ _ | refine blk_drew ?_ | refine blk_alloc ?_ _)); exact BK124.out⟩, ⟨by repeat (first | (with_reducible first | exact HB.out | apply below_alloc | apply pw_below_drewN | apply below_drew1 | refine below_set ?_ GE121.out | refine below_set ?_ GE122.out | refine below_set ?_ GE123.out | refine below_set ?_ GE124.out) | exact HB.out)⟩⟩
              · replace c133 := Bool.eq_false_iff.mpr c133
                subst c133
                have H1 : (rundleref04_Meet.j8 kj126 a0_0 a0_1 false a1_0 a1_1 a1_2 x125000_103 (⟨#[]⟩ : ByteArray) false) = some (r1, r2, r3) := by rw [if_neg (show ¬ (false = true) by decide)] at H; exact H
                clear H
                have H := H1
                clear H1
                have H' := Aside0.mk H
                clear H
                go_wp2
                go_meet
                case rel => exact ⟨_, ((⟨#[]⟩ : ByteArray)), H', ⟨by have := HJ103.out; have := HJ126.out; first | omega | exact Nat.le_refl _⟩, ⟨by (with_reducible repeat (first | refine blk_drewN ?_ _ | refine blk_drew ?_ | refine blk_alloc ?_ _)); exact BK121.out⟩, ⟨by (with_reducible repeat (first | refine blk_drewN ?_ _ | refine blk_drew ?_ | refine blk_alloc ?_ _)); exact BK122.out⟩, ⟨by (with_reducible repeat (first | refine blk_drewN ?_ _ | refine blk_drew ?_ | refine blk_alloc ?_ _)); exact BK123.out⟩, ⟨by (with_reducible repeat (first | refine blk_drewN ?_ _ | refine blk_drew ?_ | refine blk_alloc ?_ _)); exact BK124.out⟩, ⟨by repeat (first | (with_reducible first | exact HB.out | apply below_alloc | apply pw_below_drewN | apply below_drew1 | refine below_set ?_ GE121.out | refine below_set ?_ GE122.out | refine below_set ?_ GE123.out | refine below_set ?_ GE124.out) | exact HB.out)⟩⟩
            case rest =>
              clear HC132
              try clear c1
              try clear c2
              try clear p2
              try clear c3
              try clear c4
              try clear c5
              try clear c6
              try clear c7
              try clear c8
              try clear c9
              try clear c10
              try clear c11
              try clear c12
              try clear c13
              try clear c14
              try clear c15
              try clear c16
              try clear c17
              try clear c21
              try clear c22
              try clear c23
              try clear c24
              try clear c26
              try clear c27
              try clear c30
              try clear c31
              try clear c32
              try clear c34
              try clear c35
              try clear c38
              try clear c39
              try clear c40
              try clear c41
              try clear c43
              try clear c44
              try clear c47
              try clear c48
              try clear c49
              try clear c50
              try clear c52
              try clear c53
              try clear c55
              try clear c56
              try clear c57
              try clear c60
              try clear c61
              try clear c62
              try clear c63
              try clear c65
              try clear c66
              try clear c69
              try clear c70
              try clear c71
              try clear c73
              try clear c75
              try clear c76
              try clear c77
              try clear c78
              try clear c80
              try clear c81
              try clear c83
              try clear c86
              try clear c87
              try clear c88
              try clear c90
              try clear c91
              try clear c93
              try clear c96
              try clear c97
              try clear c98
              try clear c100
              try clear c101
              try clear c108
              try clear c109
              try clear c112
              try clear c113
              try clear c114
              try clear c117
              try clear c119
              try clear c120
              try clear c121
              try clear c122
              try clear c124
              try clear c125
              try clear c128
              try clear c129
              try clear c130
              try clear c133
              try clear c134
              try clear c135
              try clear c136
              try clear c138
              try clear c139
              try clear hcz102_0
              try clear hcz102_1
              try clear hcz102_2
              try clear hcz110_0
              try clear hcz110_1
              try clear hcz110_2
              try clear hcz115_0
              try clear hcz115_1
              try clear hcz115_2
              try clear hcz116_0
              try clear hcz116_1
              try clear hcz116_2
              try clear hcz118_0
              try clear hcz118_1
              try clear hcz118_2
              try clear hcz11_0
              try clear hcz11_1
              try clear hcz11_2
              try clear hcz123_0
              try clear hcz123_1
              try clear hcz123_2
              try clear hcz126_0
              try clear hcz126_1
              try clear hcz126_2
              try clear hcz131_0
              try clear hcz131_1
              try clear hcz131_2
              try clear hcz137_0
              try clear hcz137_1
              try clear hcz137_2
              try clear hcz13_0
              try clear hcz13_1
              try clear hcz13_2
              try clear hcz140_0
              try clear hcz140_1
              try clear hcz140_2
              try clear hcz18_0
              try clear hcz18_1
              try clear hcz18_2
              try clear hcz19_0
              try clear hcz19_1
              try clear hcz19_2
              try clear hcz20_0
              try clear hcz20_1
              try clear hcz20_2
              try clear hcz25_0
              try clear hcz25_1
              try clear hcz25_2
              try clear hcz28_0
              try clear hcz28_1
              try clear hcz28_2
              try clear hcz33_0
              try clear hcz33_1
              try clear hcz33_2
              try clear hcz36_0
              try clear hcz36_1
              try clear hcz36_2
              try clear hcz42_0
              try clear hcz42_1
              try clear hcz42_2
              try clear hcz45_0
              try clear hcz45_1
              try clear hcz45_2
              try clear hcz51_0
              try clear hcz51_1
              try clear hcz51_2
              try clear hcz54_0
              try clear hcz54_1
              try clear hcz54_2
              try clear hcz58_0
              try clear hcz58_1
              try clear hcz58_2
              try clear hcz64_0
              try clear hcz64_1
              try clear hcz64_2
              try clear hcz67_0
              try clear hcz67_1
              try clear hcz67_2
              try clear hcz72_0
              try clear hcz72_1
              try clear hcz72_2
              try clear hcz79_0
              try clear hcz79_1
              try clear hcz79_2
              try clear hcz82_0
              try clear hcz82_1
              try clear hcz82_2
              try clear hcz84_0
              try clear hcz84_1
              try clear hcz84_2
              try clear hcz85_0
              try clear hcz85_1
              try clear hcz85_2
              try clear hcz89_0
              try clear hcz89_1
              try clear hcz89_2
              try clear hcz92_0
              try clear hcz92_1
              try clear hcz92_2
              try clear hcz94_0
              try clear hcz94_1
              try clear hcz94_2
              try clear hcz95_0
              try clear hcz95_1
              try clear hcz95_2
              try clear hcz99_0
              try clear hcz99_1
              try clear hcz99_2
              try clear hfz102_0
              try clear hfz102_1
              try clear hfz102_2
              try clear hfz110_0
              try clear hfz110_1
              try clear hfz110_2
              try clear hfz115_0
              try clear hfz115_1
              try clear hfz115_2
              try clear hfz116_0
              try clear hfz116_1
              try clear hfz116_2
              try clear hfz118_0
              try clear hfz118_1
              try clear hfz118_2
              try clear hfz11_0
              try clear hfz11_1
              try clear hfz11_2
              try clear hfz123_0
              try clear hfz123_1
              try clear hfz123_2
              try clear hfz126_0
              try clear hfz126_1
              try clear hfz126_2
              try clear hfz131_0
              try clear hfz131_1
              try clear hfz131_2
              try clear hfz137_0
              try clear hfz137_1
              try clear hfz137_2
              try clear hfz13_0
              try clear hfz13_1
              try clear hfz13_2
              try clear hfz140_0
              try clear hfz140_1
              try clear hfz140_2
              try clear hfz18_0
              try clear hfz18_1
              try clear hfz18_2
              try clear hfz19_0
              try clear hfz19_1
              try clear hfz19_2
              try clear hfz20_0
              try clear hfz20_1
              try clear hfz20_2
              try clear hfz25_0
              try clear hfz25_1
              try clear hfz25_2
              try clear hfz28_0
              try clear hfz28_1
              try clear hfz28_2
              try clear hfz33_0
              try clear hfz33_1
              try clear hfz33_2
              try clear hfz36_0
              try clear hfz36_1
              try clear hfz36_2
              try clear hfz42_0
              try clear hfz42_1
              try clear hfz42_2
              try clear hfz45_0
              try clear hfz45_1
              try clear hfz45_2
              try clear hfz51_0
              try clear hfz51_1
              try clear hfz51_2
              try clear hfz54_0
              try clear hfz54_1
              try clear hfz54_2
              try clear hfz58_0
              try clear hfz58_1
              try clear hfz58_2
              try clear hfz64_0
              try clear hfz64_1
              try clear hfz64_2
              try clear hfz67_0
              try clear hfz67_1
              try clear hfz67_2
              try clear hfz72_0
              try clear hfz72_1
              try clear hfz72_2
              try clear hfz79_0
              try clear hfz79_1
              try clear hfz79_2
              try clear hfz82_0
              try clear hfz82_1
              try clear hfz82_2
              try clear hfz84_0
              try clear hfz84_1
              try clear hfz84_2
              try clear hfz85_0
              try clear hfz85_1
              try clear hfz85_2
              try clear hfz89_0
              try clear hfz89_1
              try clear hfz89_2
              try clear hfz92_0
              try clear hfz92_1
              try clear hfz92_2
              try clear hfz94_0
              try clear hfz94_1
              try clear hfz94_2
              try clear hfz95_0
              try clear hfz95_1
              try clear hfz95_2
              try clear hfz99_0
              try clear hfz99_1
              try clear hfz99_2
              try clear p2
              obtain ⟨kq, x125001_131, HA, HJ131, BK121, BK122, BK123, BK124, HB⟩ := hcut
              cases kq with
              | zero => exact absurd HA.out (by simp [rundleref04_Meet.j8])
              | succ kj131 =>
                have H := HA.out
                clear HA
                simp only [rundleref04_Meet.j8] at H
                have HC141 := Aside0.mk H
                clear H
                go_upto_region 6 with (fail)
                go_cut [39] (fun v39 wc => ∃ (kq : Nat) (x39_140 : Bool), v39 = .bool x39_140 ∧ Aside0 (rundleref04_Meet.j9 kq x39_140 a0_0 a0_1 false a1_0 a1_1 a1_2 x125000_103 x125001_131 false = some (r1, r2, r3)) ∧ Aside0 (kq ≤ kj131) ∧ Aside0 (wc.heap[gb121]? = some (.cells #[.string a0_0, .string a0_1, .bool false] 23 (0, 0))) ∧ Aside0 (wc.heap[gb122]? = some (.cells #[.string a1_0, .string a1_1, .bool a1_2] 23 (0, 0))) ∧ Aside0 (wc.heap[gb123]? = some (.cells #[.string (⟨#[]⟩ : ByteArray), .string (⟨#[]⟩ : ByteArray), .bool false] 23 (0, 0))) ∧ Aside0 (wc.heap[gb124]? = some (.cells #[.string x125000_103, .string x125001_131, .bool false] 23 (0, 0))) ∧ Aside0 (Below w.heap.size w wc))
                case first =>
                  have H := HC141.out
                  clear HC141
                  by_cases c142 : a1_2 = true
                  · subst c142
                    have H1 : (rundleref04_Meet.j9 kj131 (!false) a0_0 a0_1 false a1_0 a1_1 true x125000_103 x125001_131 false) = some (r1, r2, r3) := by rw [if_pos rfl] at H; exact H
                    clear H
                    have H := H1
                    clear H1
                    have H' := Aside0.mk H
                    clear H
                    have hnb143 := NB122_121.out
                    have hnc143 := NB121_122.out
                    have hnb144 := NB122_123.out
                    have hnc144 := NB123_122.out
                    have hnb145 := NB122_124.out
                    have hnc145 := NB124_122.out
                    have hcz146_0 : wc.cell? ⟨gb122, 0, none⟩ = some (.string a1_0) := (blk_cell BK122.out 0).trans rfl
                    have hcz146_1 : wc.cell? ⟨gb122, 1, none⟩ = some (.string a1_1) := (blk_cell BK122.out 1).trans rfl
                    have hcz146_2 : wc.cell? ⟨gb122, 2, none⟩ = some (.bool true) := (blk_cell BK122.out 2).trans rfl
                    have hfz146_0 := blk_frozen BK122.out 0
                    have hfz146_1 := blk_frozen BK122.out 1
                    have hfz146_2 := blk_frozen BK122.out 2
                    have hnb147 := NB121_123.out
                    have hnc147 := NB123_121.out
                    have hnb148 := NB121_124.out
                    have hnc148 := NB124_121.out
                    have hcz149_0 : wc.cell? ⟨gb121, 0, none⟩ = some (.string a0_0) := (blk_cell BK121.out 0).trans rfl
                    have hcz149_1 : wc.cell? ⟨gb121, 1, none⟩ = some (.string a0_1) := (blk_cell BK121.out 1).trans rfl
                    have hcz149_2 : wc.cell? ⟨gb121, 2, none⟩ = some (.bool false) := (blk_cell BK121.out 2).trans rfl
                    have hfz149_0 := blk_frozen BK121.out 0
                    have hfz149_1 := blk_frozen BK121.out 1
                    have hfz149_2 := blk_frozen BK121.out 2
                    go_wp2
                    go_meet
                    case rel => exact ⟨_, (!false), (by first | rfl | (simp; done) | (simp [*]; done)), H', ⟨by have := HJ103.out; have := HJ126.out; have := HJ131.out; first | omega | exact Nat.le_refl _⟩, ⟨by (with_reducible repeat (first | refine blk_drewN ?_ _ | refine blk_drew ?_ | refine blk_alloc ?_ _)); exact BK121.out⟩, ⟨by (with_reducible repeat (first | refine blk_drewN ?_ _ | refine blk_drew ?_ | refine blk_alloc ?_ _)); exact BK122.out⟩, ⟨by (with_reducible repeat (first | refine blk_drewN ?_ _ | refine blk_drew ?_ | refine blk_alloc ?_ _)); exact BK123.out⟩, ⟨by (with_reducible repeat (first | refine blk_drewN ?_ _ | refine blk_drew ?_ | refine blk_alloc ?_ _)); exact BK124.out⟩, ⟨by repeat (first | (with_reducible first | exact HB.out | apply below_alloc | apply pw_below_drewN | apply below_drew1 | refine below_set ?_ GE121.out | refine below_set ?_ GE122.out | refine below_set ?_ GE123.out | refine below_set ?_ GE124.out) | exact HB.out)⟩⟩
                  · replace c142 := Bool.eq_false_iff.mpr c142
                    subst c142
                    have H1 : (rundleref04_Meet.j9 kj131 false a0_0 a0_1 false a1_0 a1_1 false x125000_103 x125001_131 false) = some (r1, r2, r3) := by rw [if_neg (show ¬ (false = true) by decide)] at H; exact H
                    clear H
                    have H := H1
                    clear H1
                    have H' := Aside0.mk H
                    clear H
                    have hnb150 := NB122_121.out
                    have hnc150 := NB121_122.out
                    have hnb151 := NB122_123.out
                    have hnc151 := NB123_122.out
                    have hnb152 := NB122_124.out
                    have hnc152 := NB124_122.out
                    have hcz153_0 : wc.cell? ⟨gb122, 0, none⟩ = some (.string a1_0) := (blk_cell BK122.out 0).trans rfl
                    have hcz153_1 : wc.cell? ⟨gb122, 1, none⟩ = some (.string a1_1) := (blk_cell BK122.out 1).trans rfl
                    have hcz153_2 : wc.cell? ⟨gb122, 2, none⟩ = some (.bool false) := (blk_cell BK122.out 2).trans rfl
                    have hfz153_0 := blk_frozen BK122.out 0
                    have hfz153_1 := blk_frozen BK122.out 1
                    have hfz153_2 := blk_frozen BK122.out 2
                    go_wp2
                    go_meet
                    case rel => exact ⟨_, (false), (by first | rfl | (simp; done) | (simp [*]; done)), H', ⟨by have := HJ103.out; have := HJ126.out; have := HJ131.out; first | omega | exact Nat.le_refl _⟩, ⟨by (with_reducible repeat (first | refine blk_drewN ?_ _ | refine blk_drew ?_ | refine blk_alloc ?_ _)); exact BK121.out⟩, ⟨by (with_reducible repeat (first | refine blk_drewN ?_ _ | refine blk_drew ?_ | refine blk_alloc ?_ _)); exact BK122.out⟩, ⟨by (with_reducible repeat (first | refine blk_drewN ?_ _ | refine blk_drew ?_ | refine blk_alloc ?_ _)); exact BK123.out⟩, ⟨by (with_reducible repeat (first | refine blk_drewN ?_ _ | refine blk_drew ?_ | refine blk_alloc ?_ _)); exact BK124.out⟩, ⟨by repeat (first | (with_reducible first | exact HB.out | apply below_alloc | apply pw_below_drewN | apply below_drew1 | refine below_set ?_ GE121.out | refine below_set ?_ GE122.out | refine below_set ?_ GE123.out | refine below_set ?_ GE124.out) | exact HB.out)⟩⟩
                case rest =>
                  clear HC141
                  try clear c1
                  try clear c2
                  try clear p2
                  try clear c3
                  try clear c4
                  try clear c5
                  try clear c6
                  try clear c7
                  try clear c8
                  try clear c9
                  try clear c10
                  try clear c11
                  try clear c12
                  try clear c13
                  try clear c14
                  try clear c15
                  try clear c16
                  try clear c17
                  try clear c21
                  try clear c22
                  try clear c23
                  try clear c24
                  try clear c26
                  try clear c27
                  try clear c30
                  try clear c31
                  try clear c32
                  try clear c34
                  try clear c35
                  try clear c38
                  try clear c39
                  try clear c40
                  try clear c41
                  try clear c43
                  try clear c44
                  try clear c47
                  try clear c48
                  try clear c49
                  try clear c50
                  try clear c52
                  try clear c53
                  try clear c55
                  try clear c56
                  try clear c57
                  try clear c60
                  try clear c61
                  try clear c62
                  try clear c63
                  try clear c65
                  try clear c66
                  try clear c69
                  try clear c70
                  try clear c71
                  try clear c73
                  try clear c75
                  try clear c76
                  try clear c77
                  try clear c78
                  try clear c80
                  try clear c81
                  try clear c83
                  try clear c86
                  try clear c87
                  try clear c88
                  try clear c90
                  try clear c91
                  try clear c93
                  try clear c96
                  try clear c97
                  try clear c98
                  try clear c100
                  try clear c101
                  try clear c108
                  try clear c109
                  try clear c112
                  try clear c113
                  try clear c114
                  try clear c117
                  try clear c119
                  try clear c120
                  try clear c121
                  try clear c122
                  try clear c124
                  try clear c125
                  try clear c128
                  try clear c129
                  try clear c130
                  try clear c133
                  try clear c134
                  try clear c135
                  try clear c136
                  try clear c138
                  try clear c139
                  try clear c142
                  try clear c143
                  try clear c144
                  try clear c145
                  try clear c147
                  try clear c148
                  try clear c150
                  try clear c151
                  try clear c152
                  try clear hcz102_0
                  try clear hcz102_1
                  try clear hcz102_2
                  try clear hcz110_0
                  try clear hcz110_1
                  try clear hcz110_2
                  try clear hcz115_0
                  try clear hcz115_1
                  try clear hcz115_2
                  try clear hcz116_0
                  try clear hcz116_1
                  try clear hcz116_2
                  try clear hcz118_0
                  try clear hcz118_1
                  try clear hcz118_2
                  try clear hcz11_0
                  try clear hcz11_1
                  try clear hcz11_2
                  try clear hcz123_0
                  try clear hcz123_1
                  try clear hcz123_2
                  try clear hcz126_0
                  try clear hcz126_1
                  try clear hcz126_2
                  try clear hcz131_0
                  try clear hcz131_1
                  try clear hcz131_2
                  try clear hcz137_0
                  try clear hcz137_1
                  try clear hcz137_2
                  try clear hcz13_0
                  try clear hcz13_1
                  try clear hcz13_2
                  try clear hcz140_0
                  try clear hcz140_1
                  try clear hcz140_2
                  try clear hcz146_0
                  try clear hcz146_1
                  try clear hcz146_2
                  try clear hcz149_0
                  try clear hcz149_1
                  try clear hcz149_2
                  try clear hcz153_0
                  try clear hcz153_1
                  try clear hcz153_2
                  try clear hcz18_0
                  try clear hcz18_1
                  try clear hcz18_2
                  try clear hcz19_0
                  try clear hcz19_1
                  try clear hcz19_2
                  try clear hcz20_0
                  try clear hcz20_1
                  try clear hcz20_2
                  try clear hcz25_0
                  try clear hcz25_1
                  try clear hcz25_2
                  try clear hcz28_0
                  try clear hcz28_1
                  try clear hcz28_2
                  try clear hcz33_0
                  try clear hcz33_1
                  try clear hcz33_2
                  try clear hcz36_0
                  try clear hcz36_1
                  try clear hcz36_2
                  try clear hcz42_0
                  try clear hcz42_1
                  try clear hcz42_2
                  try clear hcz45_0
                  try clear hcz45_1
                  try clear hcz45_2
                  try clear hcz51_0
                  try clear hcz51_1
                  try clear hcz51_2
                  try clear hcz54_0
                  try clear hcz54_1
                  try clear hcz54_2
                  try clear hcz58_0
                  try clear hcz58_1
                  try clear hcz58_2
                  try clear hcz64_0
                  try clear hcz64_1
                  try clear hcz64_2
                  try clear hcz67_0
                  try clear hcz67_1
                  try clear hcz67_2
                  try clear hcz72_0
                  try clear hcz72_1
                  try clear hcz72_2
                  try clear hcz79_0
                  try clear hcz79_1
                  try clear hcz79_2
                  try clear hcz82_0
                  try clear hcz82_1
                  try clear hcz82_2
                  try clear hcz84_0
                  try clear hcz84_1
                  try clear hcz84_2
                  try clear hcz85_0
                  try clear hcz85_1
                  try clear hcz85_2
                  try clear hcz89_0
                  try clear hcz89_1
                  try clear hcz89_2
                  try clear hcz92_0
                  try clear hcz92_1
                  try clear hcz92_2
                  try clear hcz94_0
                  try clear hcz94_1
                  try clear hcz94_2
                  try clear hcz95_0
                  try clear hcz95_1
                  try clear hcz95_2
                  try clear hcz99_0
                  try clear hcz99_1
                  try clear hcz99_2
                  try clear hfz102_0
                  try clear hfz102_1
                  try clear hfz102_2
                  try clear hfz110_0
                  try clear hfz110_1
                  try clear hfz110_2
                  try clear hfz115_0
                  try clear hfz115_1
                  try clear hfz115_2
                  try clear hfz116_0
                  try clear hfz116_1
                  try clear hfz116_2
                  try clear hfz118_0
                  try clear hfz118_1
                  try clear hfz118_2
                  try clear hfz11_0
                  try clear hfz11_1
                  try clear hfz11_2
                  try clear hfz123_0
                  try clear hfz123_1
                  try clear hfz123_2
                  try clear hfz126_0
                  try clear hfz126_1
                  try clear hfz126_2
                  try clear hfz131_0
                  try clear hfz131_1
                  try clear hfz131_2
                  try clear hfz137_0
                  try clear hfz137_1
                  try clear hfz137_2
                  try clear hfz13_0
                  try clear hfz13_1
                  try clear hfz13_2
                  try clear hfz140_0
                  try clear hfz140_1
                  try clear hfz140_2
                  try clear hfz146_0
                  try clear hfz146_1
                  try clear hfz146_2
                  try clear hfz149_0
                  try clear hfz149_1
                  try clear hfz149_2
                  try clear hfz153_0
                  try clear hfz153_1
                  try clear hfz153_2
                  try clear hfz18_0
                  try clear hfz18_1
                  try clear hfz18_2
                  try clear hfz19_0
                  try clear hfz19_1
                  try clear hfz19_2
                  try clear hfz20_0
                  try clear hfz20_1
                  try clear hfz20_2
                  try clear hfz25_0
                  try clear hfz25_1
                  try clear hfz25_2
                  try clear hfz28_0
                  try clear hfz28_1
                  try clear hfz28_2
                  try clear hfz33_0
                  try clear hfz33_1
                  try clear hfz33_2
                  try clear hfz36_0
                  try clear hfz36_1
                  try clear hfz36_2
                  try clear hfz42_0
                  try clear hfz42_1
                  try clear hfz42_2
                  try clear hfz45_0
                  try clear hfz45_1
                  try clear hfz45_2
                  try clear hfz51_0
                  try clear hfz51_1
                  try clear hfz51_2
                  try clear hfz54_0
                  try clear hfz54_1
                  try clear hfz54_2
                  try clear hfz58_0
                  try clear hfz58_1
                  try clear hfz58_2
                  try clear hfz64_0
                  try clear hfz64_1
                  try clear hfz64_2
                  try clear hfz67_0
                  try clear hfz67_1
                  try clear hfz67_2
                  try clear hfz72_0
                  try clear hfz72_1
                  try clear hfz72_2
                  try clear hfz79_0
                  try clear hfz79_1
                  try clear hfz79_2
                  try clear hfz82_0
                  try clear hfz82_1
                  try clear hfz82_2
                  try clear hfz84_0
                  try clear hfz84_1
                  try clear hfz84_2
                  try clear hfz85_0
                  try clear hfz85_1
                  try clear hfz85_2
                  try clear hfz89_0
                  try clear hfz89_1
                  try clear hfz89_2
                  try clear hfz92_0
                  try clear hfz92_1
                  try clear hfz92_2
                  try clear hfz94_0
                  try clear hfz94_1
                  try clear hfz94_2
                  try clear hfz95_0
                  try clear hfz95_1
                  try clear hfz95_2
                  try clear hfz99_0
                  try clear hfz99_1
                  try clear hfz99_2
                  try clear p2
                  obtain ⟨kq, x39_140, rfl, HA, HJ140, BK121, BK122, BK123, BK124, HB⟩ := hcut
                  cases kq with
                  | zero => exact absurd HA.out (by simp [rundleref04_Meet.j9])
                  | succ kj140 =>
                    have H := HA.out
                    clear HA
                    simp only [rundleref04_Meet.j9] at H
                    have HC154 := Aside0.mk H
                    clear H
                    go_upto_if 39 with (fail)
                    go_cut [] (fun wc => ∃ (kq : Nat) (x125001_153 : ByteArray), Aside0 (rundleref04_Meet.j10 kq a0_0 a0_1 false a1_0 a1_1 a1_2 x125000_103 x125001_153 false = some (r1, r2, r3)) ∧ Aside0 (kq ≤ kj140) ∧ Aside0 (wc.heap[gb121]? = some (.cells #[.string a0_0, .string a0_1, .bool false] 23 (0, 0))) ∧ Aside0 (wc.heap[gb122]? = some (.cells #[.string a1_0, .string a1_1, .bool a1_2] 23 (0, 0))) ∧ Aside0 (wc.heap[gb123]? = some (.cells #[.string (⟨#[]⟩ : ByteArray), .string (⟨#[]⟩ : ByteArray), .bool false] 23 (0, 0))) ∧ Aside0 (wc.heap[gb124]? = some (.cells #[.string x125000_103, .string x125001_153, .bool false] 23 (0, 0))) ∧ Aside0 (Below w.heap.size w wc))
                    case first =>
                      have H := HC154.out
                      clear HC154
                      by_cases c155 : x39_140 = true
                      · subst c155
                        have H1 : (rundleref04_Meet.j10 kj140 a0_0 a0_1 false a1_0 a1_1 a1_2 x125000_103 a0_1 false) = some (r1, r2, r3) := by rw [if_pos rfl] at H; exact H
                        clear H
                        have H := H1
                        clear H1
                        have H' := Aside0.mk H
                        clear H
                        have hnb156 := NB121_122.out
                        have hnc156 := NB122_121.out
                        have hnb157 := NB121_123.out
                        have hnc157 := NB123_121.out
                        have hnb158 := NB121_124.out
                        have hnc158 := NB124_121.out
                        have hcz159_0 : wc.cell? ⟨gb121, 0, none⟩ = some (.string a0_0) := (blk_cell BK121.out 0).trans rfl
                        have hcz159_1 : wc.cell? ⟨gb121, 1, none⟩ = some (.string a0_1) := (blk_cell BK121.out 1).trans rfl
                        have hcz159_2 : wc.cell? ⟨gb121, 2, none⟩ = some (.bool false) := (blk_cell BK121.out 2).trans rfl
                        have hfz159_0 := blk_frozen BK121.out 0
                        have hfz159_1 := blk_frozen BK121.out 1
                        have hfz159_2 := blk_frozen BK121.out 2
                        have hnb160 := NB124_122.out
                        have hnc160 := NB122_124.out
                        have hnb161 := NB124_123.out
                        have hnc161 := NB123_124.out
                        have hcz162_0 : wc.cell? ⟨gb124, 0, none⟩ = some (.string x125000_103) := (blk_cell BK124.out 0).trans rfl
                        have hcz162_1 : wc.cell? ⟨gb124, 1, none⟩ = some (.string x125001_131) := (blk_cell BK124.out 1).trans rfl
                        have hcz162_2 : wc.cell? ⟨gb124, 2, none⟩ = some (.bool false) := (blk_cell BK124.out 2).trans rfl
                        have hfz162_0 := blk_frozen BK124.out 0
                        have hfz162_1 := blk_frozen BK124.out 1
                        have hfz162_2 := blk_frozen BK124.out 2
                        go_wp2
                        go_meet
                        case rel => exact ⟨_, (a0_1), H', ⟨by have := HJ103.out; have := HJ126.out; have := HJ131.out; have := HJ140.out; first | omega | exact Nat.le_refl _⟩, ⟨by (with_reducible repeat (first | refine blk_drewN ?_ _ | refine blk_drew ?_ | refine blk_alloc ?_ _)); refine blk_far ?_ NB121_124.out _; (with_reducible repeat (first | refine blk_drewN ?_ _ | refine blk_drew ?_ | refine blk_alloc ?_ _)); exact BK121.out⟩, ⟨by (with_reducible repeat (first | refine blk_drewN ?_ _ | refine blk_drew ?_ | refine blk_alloc ?_ _)); refine blk_far ?_ NB122_124.out _; (with_reducible repeat (first | refine blk_drewN ?_ _ | refine blk_drew ?_ | refine blk_alloc ?_ _)); exact BK122.out⟩, ⟨by (with_reducible repeat (first | refine blk_drewN ?_ _ | refine blk_drew ?_ | refine blk_alloc ?_ _)); refine blk_far ?_ NB123_124.out _; (with_reducible repeat (first | refine blk_drewN ?_ _ | refine blk_drew ?_ | refine blk_alloc ?_ _)); exact BK123.out⟩, ⟨by (with_reducible repeat (first | refine blk_drewN ?_ _ | refine blk_drew ?_ | refine blk_alloc ?_ _)); refine blk_put (cs := #[.string x125000_103, .string x125001_131, .bool false]) ?_ 1 _ rfl; (with_reducible repeat (first | refine blk_drewN ?_ _ | refine blk_drew ?_ | refine blk_alloc ?_ _)); exact BK124.out⟩, ⟨by repeat (first | (with_reducible first | exact HB.out | apply below_alloc | apply pw_below_drewN | apply below_drew1 | refine below_set ?_ GE121.out | refine below_set ?_ GE122.out | refine below_set ?_ GE123.out | refine below_set ?_ GE124.out) | exact HB.out)⟩⟩
                      · replace c155 := Bool.eq_false_iff.mpr c155
                        subst c155
                        have H1 : (rundleref04_Meet.j10 kj140 a0_0 a0_1 false a1_0 a1_1 a1_2 x125000_103 x125001_131 false) = some (r1, r2, r3) := by rw [if_neg (show ¬ (false = true) by decide)] at H; exact H
                        clear H
                        have H := H1
                        clear H1
                        have H' := Aside0.mk H
                        clear H
                        go_wp2
                        go_meet
                        case rel => exact ⟨_, (x125001_131), H', ⟨by have := HJ103.out; have := HJ126.out; have := HJ131.out; have := HJ140.out; first | omega | exact Nat.le_refl _⟩, ⟨by (with_reducible repeat (first | refine blk_drewN ?_ _ | refine blk_drew ?_ | refine blk_alloc ?_ _)); exact BK121.out⟩, ⟨by (with_reducible repeat (first | refine blk_drewN ?_ _ | refine blk_drew ?_ | refine blk_alloc ?_ _)); exact BK122.out⟩, ⟨by (with_reducible repeat (first | refine blk_drewN ?_ _ | refine blk_drew ?_ | refine blk_alloc ?_ _)); exact BK123.out⟩, ⟨by (with_reducible repeat (first | refine blk_drewN ?_ _ | refine blk_drew ?_ | refine blk_alloc ?_ _)); exact BK124.out⟩, ⟨by repeat (first | (with_reducible first | exact HB.out | apply below_alloc | apply pw_below_drewN | apply below_drew1 | refine below_set ?_ GE121.out | refine below_set ?_ GE122.out | refine below_set ?_ GE123.out | refine below_set ?_ GE124.out) | exact HB.out)⟩⟩
                    case rest =>
                      clear HC154
                      try clear c1
                      try clear c2
                      try clear p2
                      try clear c3
                      try clear c4
                      try clear c5
                      try clear c6
                      try clear c7
                      try clear c8
                      try clear c9
                      try clear c10
                      try clear c11
                      try clear c12
                      try clear c13
                      try clear c14
                      try clear c15
                      try clear c16
                      try clear c17
                      try clear c21
                      try clear c22
                      try clear c23
                      try clear c24
                      try clear c26
                      try clear c27
                      try clear c30
                      try clear c31
                      try clear c32
                      try clear c34
                      try clear c35
                      try clear c38
                      try clear c39
                      try clear c40
                      try clear c41
                      try clear c43
                      try clear c44
                      try clear c47
                      try clear c48
                      try clear c49
                      try clear c50
                      try clear c52
                      try clear c53
                      try clear c55
                      try clear c56
                      try clear c57
                      try clear c60
                      try clear c61
                      try clear c62
                      try clear c63
                      try clear c65
                      try clear c66
                      try clear c69
                      try clear c70
                      try clear c71
                      try clear c73
                      try clear c75
                      try clear c76
                      try clear c77
                      try clear c78
                      try clear c80
                      try clear c81
                      try clear c83
                      try clear c86
                      try clear c87
                      try clear c88
                      try clear c90
                      try clear c91
                      try clear c93
                      try clear c96
                      try clear c97
                      try clear c98
                      try clear c100
                      try clear c101
                      try clear c108
                      try clear c109
                      try clear c112
                      try clear c113
                      try clear c114
                      try clear c117
                      try clear c119
                      try clear c120
                      try clear c121
                      try clear c122
                      try clear c124
                      try clear c125
                      try clear c128
                      try clear c129
                      try clear c130
                      try clear c133
                      try clear c134
                      try clear c135
                      try clear c136
                      try clear c138
                      try clear c139
                      try clear c142
                      try clear c143
                      try clear c144
                      try clear c145
                      try clear c147
                      try clear c148
                      try clear c150
                      try clear c151
                      try clear c152
                      try clear c155
                      try clear c156
                      try clear c157
                      try clear c158
                      try clear c160
                      try clear c161
                      try clear hcz102_0
                      try clear hcz102_1
                      try clear hcz102_2
                      try clear hcz110_0
                      try clear hcz110_1
                      try clear hcz110_2
                      try clear hcz115_0
                      try clear hcz115_1
                      try clear hcz115_2
                      try clear hcz116_0
                      try clear hcz116_1
                      try clear hcz116_2
                      try clear hcz118_0
                      try clear hcz118_1
                      try clear hcz118_2
                      try clear hcz11_0
                      try clear hcz11_1
                      try clear hcz11_2
                      try clear hcz123_0
                      try clear hcz123_1
                      try clear hcz123_2
                      try clear hcz126_0
                      try clear hcz126_1
                      try clear hcz126_2
                      try clear hcz131_0
                      try clear hcz131_1
                      try clear hcz131_2
                      try clear hcz137_0
                      try clear hcz137_1
                      try clear hcz137_2
                      try clear hcz13_0
                      try clear hcz13_1
                      try clear hcz13_2
                      try clear hcz140_0
                      try clear hcz140_1
                      try clear hcz140_2
                      try clear hcz146_0
                      try clear hcz146_1
                      try clear hcz146_2
                      try clear hcz149_0
                      try clear hcz149_1
                      try clear hcz149_2
                      try clear hcz153_0
                      try clear hcz153_1
                      try clear hcz153_2
                      try clear hcz159_0
                      try clear hcz159_1
                      try clear hcz159_2
                      try clear hcz162_0
                      try clear hcz162_1
                      try clear hcz162_2
                      try clear hcz18_0
                      try clear hcz18_1
                      try clear hcz18_2
                      try clear hcz19_0
                      try clear hcz19_1
                      try clear hcz19_2
                      try clear hcz20_0
                      try clear hcz20_1
                      try clear hcz20_2
                      try clear hcz25_0
                      try clear hcz25_1
                      try clear hcz25_2
                      try clear hcz28_0
                      try clear hcz28_1
                      try clear hcz28_2
                      try clear hcz33_0
                      try clear hcz33_1
                      try clear hcz33_2
                      try clear hcz36_0
                      try clear hcz36_1
                      try clear hcz36_2
                      try clear hcz42_0
                      try clear hcz42_1
                      try clear hcz42_2
                      try clear hcz45_0
                      try clear hcz45_1
                      try clear hcz45_2
                      try clear hcz51_0
                      try clear hcz51_1
                      try clear hcz51_2
                      try clear hcz54_0
                      try clear hcz54_1
                      try clear hcz54_2
                      try clear hcz58_0
                      try clear hcz58_1
                      try clear hcz58_2
                      try clear hcz64_0
                      try clear hcz64_1
                      try clear hcz64_2
                      try clear hcz67_0
                      try clear hcz67_1
                      try clear hcz67_2
                      try clear hcz72_0
                      try clear hcz72_1
                      try clear hcz72_2
                      try clear hcz79_0
                      try clear hcz79_1
                      try clear hcz79_2
                      try clear hcz82_0
                      try clear hcz82_1
                      try clear hcz82_2
                      try clear hcz84_0
                      try clear hcz84_1
                      try clear hcz84_2
                      try clear hcz85_0
                      try clear hcz85_1
                      try clear hcz85_2
                      try clear hcz89_0
                      try clear hcz89_1
                      try clear hcz89_2
                      try clear hcz92_0
                      try clear hcz92_1
                      try clear hcz92_2
                      try clear hcz94_0
                      try clear hcz94_1
                      try clear hcz94_2
                      try clear hcz95_0
                      try clear hcz95_1
                      try clear hcz95_2
                      try clear hcz99_0
                      try clear hcz99_1
                      try clear hcz99_2
                      try clear hfz102_0
                      try clear hfz102_1
                      try clear hfz102_2
                      try clear hfz110_0
                      try clear hfz110_1
                      try clear hfz110_2
                      try clear hfz115_0
                      try clear hfz115_1
                      try clear hfz115_2
                      try clear hfz116_0
                      try clear hfz116_1
                      try clear hfz116_2
                      try clear hfz118_0
                      try clear hfz118_1
                      try clear hfz118_2
                      try clear hfz11_0
                      try clear hfz11_1
                      try clear hfz11_2
                      try clear hfz123_0
                      try clear hfz123_1
                      try clear hfz123_2
                      try clear hfz126_0
                      try clear hfz126_1
                      try clear hfz126_2
                      try clear hfz131_0
                      try clear hfz131_1
                      try clear hfz131_2
                      try clear hfz137_0
                      try clear hfz137_1
                      try clear hfz137_2
                      try clear hfz13_0
                      try clear hfz13_1
                      try clear hfz13_2
                      try clear hfz140_0
                      try clear hfz140_1
                      try clear hfz140_2
                      try clear hfz146_0
                      try clear hfz146_1
                      try clear hfz146_2
                      try clear hfz149_0
                      try clear hfz149_1
                      try clear hfz149_2
                      try clear hfz153_0
                      try clear hfz153_1
                      try clear hfz153_2
                      try clear hfz159_0
                      try clear hfz159_1
                      try clear hfz159_2
                      try clear hfz162_0
                      try clear hfz162_1
                      try clear hfz162_2
                      try clear hfz18_0
                      try clear hfz18_1
                      try clear hfz18_2
                      try clear hfz19_0
                      try clear hfz19_1
                      try clear hfz19_2
                      try clear hfz20_0
                      try clear hfz20_1
                      try clear hfz20_2
                      try clear hfz25_0
                      try clear hfz25_1
                      try clear hfz25_2
                      try clear hfz28_0
                      try clear hfz28_1
                      try clear hfz28_2
                      try clear hfz33_0
                      try clear hfz33_1
                      try clear hfz33_2
                      try clear hfz36_0
                      try clear hfz36_1
                      try clear hfz36_2
                      try clear hfz42_0
                      try clear hfz42_1
                      try clear hfz42_2
                      try clear hfz45_0
                      try clear hfz45_1
                      try clear hfz45_2
                      try clear hfz51_0
                      try clear hfz51_1
                      try clear hfz51_2
                      try clear hfz54_0
                      try clear hfz54_1
                      try clear hfz54_2
                      try clear hfz58_0
                      try clear hfz58_1
                      try clear hfz58_2
                      try clear hfz64_0
                      try clear hfz64_1
                      try clear hfz64_2
                      try clear hfz67_0
                      try clear hfz67_1
                      try clear hfz67_2
                      try clear hfz72_0
                      try clear hfz72_1
                      try clear hfz72_2
                      try clear hfz79_0
                      try clear hfz79_1
                      try clear hfz79_2
                      try clear hfz82_0
                      try clear hfz82_1
                      try clear hfz82_2
                      try clear hfz84_0
                      try clear hfz84_1
                      try clear hfz84_2
                      try clear hfz85_0
                      try clear hfz85_1
                      try clear hfz85_2
                      try clear hfz89_0
                      try clear hfz89_1
                      try clear hfz89_2
                      try clear hfz92_0
                      try clear hfz92_1
                      try clear hfz92_2
                      try clear hfz94_0
                      try clear hfz94_1
                      try clear hfz94_2
                      try clear hfz95_0
                      try clear hfz95_1
                      try clear hfz95_2
                      try clear hfz99_0
                      try clear hfz99_1
                      try clear hfz99_2
                      try clear p2
                      obtain ⟨kq, x125001_153, HA, HJ153, BK121, BK122, BK123, BK124, HB⟩ := hcut
                      cases kq with
                      | zero => exact absurd HA.out (by simp [rundleref04_Meet.j10])
                      | succ kj153 =>
                        have H := HA.out
                        clear HA
                        simp only [rundleref04_Meet.j10] at H
                        have HC163 := Aside0.mk H
                        clear H
                        go_upto_region 8 with (fail)
                        go_cut [50] (fun v50 wc => ∃ (kq : Nat) (x50_162 : Bool), v50 = .bool x50_162 ∧ Aside0 (rundleref04_Meet.j11 kq x50_162 a0_0 a0_1 false a1_0 a1_1 a1_2 x125000_103 x125001_153 false = some (r1, r2, r3)) ∧ Aside0 (kq ≤ kj153) ∧ Aside0 (wc.heap[gb121]? = some (.cells #[.string a0_0, .string a0_1, .bool false] 23 (0, 0))) ∧ Aside0 (wc.heap[gb122]? = some (.cells #[.string a1_0, .string a1_1, .bool a1_2] 23 (0, 0))) ∧ Aside0 (wc.heap[gb123]? = some (.cells #[.string (⟨#[]⟩ : ByteArray), .string (⟨#[]⟩ : ByteArray), .bool false] 23 (0, 0))) ∧ Aside0 (wc.heap[gb124]? = some (.cells #[.string x125000_103, .string x125001_153, .bool false] 23 (0, 0))) ∧ Aside0 (Below w.heap.size w wc))
                        case first =>
                          have H := HC163.out
                          clear HC163
                          have H1 : (rundleref04_Meet.j11 kj153 (!a1_2) a0_0 a0_1 false a1_0 a1_1 a1_2 x125000_103 x125001_153 false) = some (r1, r2, r3) := by first | (rw [if_neg (show ¬ (false = true) by decide)] at H; exact H) | (simp only [if_true, Bool.false_eq_true, if_false] at H; exact H)
                          clear H
                          have H := H1
                          clear H1
                          have H' := Aside0.mk H
                          clear H
                          have hnb164 := NB121_122.out
                          have hnc164 := NB122_121.out
                          have hnb165 := NB121_123.out
                          have hnc165 := NB123_121.out
                          have hnb166 := NB121_124.out
                          have hnc166 := NB124_121.out
                          have hcz167_0 : wc.cell? ⟨gb121, 0, none⟩ = some (.string a0_0) := (blk_cell BK121.out 0).trans rfl
                          have hcz167_1 : wc.cell? ⟨gb121, 1, none⟩ = some (.string a0_1) := (blk_cell BK121.out 1).trans rfl
                          have hcz167_2 : wc.cell? ⟨gb121, 2, none⟩ = some (.bool false) := (blk_cell BK121.out 2).trans rfl
                          have hfz167_0 := blk_frozen BK121.out 0
                          have hfz167_1 := blk_frozen BK121.out 1
                          have hfz167_2 := blk_frozen BK121.out 2
                          have hnb168 := NB122_123.out
                          have hnc168 := NB123_122.out
                          have hnb169 := NB122_124.out
                          have hnc169 := NB124_122.out
                          have hcz170_0 : wc.cell? ⟨gb122, 0, none⟩ = some (.string a1_0) := (blk_cell BK122.out 0).trans rfl
                          have hcz170_1 : wc.cell? ⟨gb122, 1, none⟩ = some (.string a1_1) := (blk_cell BK122.out 1).trans rfl
                          have hcz170_2 : wc.cell? ⟨gb122, 2, none⟩ = some (.bool a1_2) := (blk_cell BK122.out 2).trans rfl
                          have hfz170_0 := blk_frozen BK122.out 0
                          have hfz170_1 := blk_frozen BK122.out 1
                          have hfz170_2 := blk_frozen BK122.out 2
                          go_wp2
                          go_meet
                          case rel => exact ⟨_, (!a1_2), (by first | rfl | (simp; done) | (simp [*]; done)), H', ⟨by have := HJ103.out; have := HJ126.out; have := HJ131.out; have := HJ140.out; have := HJ153.out; first | omega | exact Nat.le_refl _⟩, ⟨by (with_reducible repeat (first | refine blk_drewN ?_ _ | refine blk_drew ?_ | refine blk_alloc ?_ _)); exact BK121.out⟩, ⟨by (with_reducible repeat (first | refine blk_drewN ?_ _ | refine blk_drew ?_ | refine blk_alloc ?_ _)); exact BK122.out⟩, ⟨by (with_reducible repeat (first | refine blk_drewN ?_ _ | refine blk_drew ?_ | refine blk_alloc ?_ _)); exact BK123.out⟩, ⟨by (with_reducible repeat (first | refine blk_drewN ?_ _ | refine blk_drew ?_ | refine blk_alloc ?_ _)); exact BK124.out⟩, ⟨by repeat (first | (with_reducible first | exact HB.out | apply below_alloc | apply pw_below_drewN | apply below_drew1 | refine below_set ?_ GE121.out | refine below_set ?_ GE122.out | refine below_set ?_ GE123.out | refine below_set ?_ GE124.out) | exact HB.out)⟩⟩
                        case rest =>
                          clear HC163
                          try clear c1
                          try clear c2
                          try clear p2
                          try clear c3
                          try clear c4
                          try clear c5
                          try clear c6
                          try clear c7
                          try clear c8
                          try clear c9
                          try clear c10
                          try clear c11
                          try clear c12
                          try clear c13
                          try clear c14
                          try clear c15
                          try clear c16
                          try clear c17
                          try clear c21
                          try clear c22
                          try clear c23
                          try clear c24
                          try clear c26
                          try clear c27
                          try clear c30
                          try clear c31
                          try clear c32
                          try clear c34
                          try clear c35
                          try clear c38
                          try clear c39
                          try clear c40
                          try clear c41
                          try clear c43
                          try clear c44
                          try clear c47
                          try clear c48
                          try clear c49
                          try clear c50
                          try clear c52
                          try clear c53
                          try clear c55
                          try clear c56
                          try clear c57
                          try clear c60
                          try clear c61
                          try clear c62
                          try clear c63
                          try clear c65
                          try clear c66
                          try clear c69
                          try clear c70
                          try clear c71
                          try clear c73
                          try clear c75
                          try clear c76
                          try clear c77
                          try clear c78
                          try clear c80
                          try clear c81
                          try clear c83
                          try clear c86
                          try clear c87
                          try clear c88
                          try clear c90
                          try clear c91
                          try clear c93
                          try clear c96
                          try clear c97
                          try clear c98
                          try clear c100
                          try clear c101
                          try clear c108
                          try clear c109
                          try clear c112
                          try clear c113
                          try clear c114
                          try clear c117
                          try clear c119
                          try clear c120
                          try clear c121
                          try clear c122
                          try clear c124
                          try clear c125
                          try clear c128
                          try clear c129
                          try clear c130
                          try clear c133
                          try clear c134
                          try clear c135
                          try clear c136
                          try clear c138
                          try clear c139
                          try clear c142
                          try clear c143
                          try clear c144
                          try clear c145
                          try clear c147
                          try clear c148
                          try clear c150
                          try clear c151
                          try clear c152
                          try clear c155
                          try clear c156
                          try clear c157
                          try clear c158
                          try clear c160
                          try clear c161
                          try clear c164
                          try clear c165
                          try clear c166
                          try clear c168
                          try clear c169
                          try clear hcz102_0
                          try clear hcz102_1
                          try clear hcz102_2
                          try clear hcz110_0
                          try clear hcz110_1
                          try clear hcz110_2
                          try clear hcz115_0
                          try clear hcz115_1
                          try clear hcz115_2
                          try clear hcz116_0
                          try clear hcz116_1
                          try clear hcz116_2
                          try clear hcz118_0
                          try clear hcz118_1
                          try clear hcz118_2
                          try clear hcz11_0
                          try clear hcz11_1
                          try clear hcz11_2
                          try clear hcz123_0
                          try clear hcz123_1
                          try clear hcz123_2
                          try clear hcz126_0
                          try clear hcz126_1
                          try clear hcz126_2
                          try clear hcz131_0
                          try clear hcz131_1
                          try clear hcz131_2
                          try clear hcz137_0
                          try clear hcz137_1
                          try clear hcz137_2
                          try clear hcz13_0
                          try clear hcz13_1
                          try clear hcz13_2
                          try clear hcz140_0
                          try clear hcz140_1
                          try clear hcz140_2
                          try clear hcz146_0
                          try clear hcz146_1
                          try clear hcz146_2
                          try clear hcz149_0
                          try clear hcz149_1
                          try clear hcz149_2
                          try clear hcz153_0
                          try clear hcz153_1
                          try clear hcz153_2
                          try clear hcz159_0
                          try clear hcz159_1
                          try clear hcz159_2
                          try clear hcz162_0
                          try clear hcz162_1
                          try clear hcz162_2
                          try clear hcz167_0
                          try clear hcz167_1
                          try clear hcz167_2
                          try clear hcz170_0
                          try clear hcz170_1
                          try clear hcz170_2
                          try clear hcz18_0
                          try clear hcz18_1
                          try clear hcz18_2
                          try clear hcz19_0
                          try clear hcz19_1
                          try clear hcz19_2
                          try clear hcz20_0
                          try clear hcz20_1
                          try clear hcz20_2
                          try clear hcz25_0
                          try clear hcz25_1
                          try clear hcz25_2
                          try clear hcz28_0
                          try clear hcz28_1
                          try clear hcz28_2
                          try clear hcz33_0
                          try clear hcz33_1
                          try clear hcz33_2
                          try clear hcz36_0
                          try clear hcz36_1
                          try clear hcz36_2
                          try clear hcz42_0
                          try clear hcz42_1
                          try clear hcz42_2
                          try clear hcz45_0
                          try clear hcz45_1
                          try clear hcz45_2
                          try clear hcz51_0
                          try clear hcz51_1
                          try clear hcz51_2
                          try clear hcz54_0
                          try clear hcz54_1
                          try clear hcz54_2
                          try clear hcz58_0
                          try clear hcz58_1
                          try clear hcz58_2
                          try clear hcz64_0
                          try clear hcz64_1
                          try clear hcz64_2
                          try clear hcz67_0
                          try clear hcz67_1
                          try clear hcz67_2
                          try clear hcz72_0
                          try clear hcz72_1
                          try clear hcz72_2
                          try clear hcz79_0
                          try clear hcz79_1
                          try clear hcz79_2
                          try clear hcz82_0
                          try clear hcz82_1
                          try clear hcz82_2
                          try clear hcz84_0
                          try clear hcz84_1
                          try clear hcz84_2
                          try clear hcz85_0
                          try clear hcz85_1
                          try clear hcz85_2
                          try clear hcz89_0
                          try clear hcz89_1
                          try clear hcz89_2
                          try clear hcz92_0
                          try clear hcz92_1
                          try clear hcz92_2
                          try clear hcz94_0
                          try clear hcz94_1
                          try clear hcz94_2
                          try clear hcz95_0
                          try clear hcz95_1
                          try clear hcz95_2
                          try clear hcz99_0
                          try clear hcz99_1
                          try clear hcz99_2
                          try clear hfz102_0
                          try clear hfz102_1
                          try clear hfz102_2
                          try clear hfz110_0
                          try clear hfz110_1
                          try clear hfz110_2
                          try clear hfz115_0
                          try clear hfz115_1
                          try clear hfz115_2
                          try clear hfz116_0
                          try clear hfz116_1
                          try clear hfz116_2
                          try clear hfz118_0
                          try clear hfz118_1
                          try clear hfz118_2
                          try clear hfz11_0
                          try clear hfz11_1
                          try clear hfz11_2
                          try clear hfz123_0
                          try clear hfz123_1
                          try clear hfz123_2
                          try clear hfz126_0
                          try clear hfz126_1
                          try clear hfz126_2
                          try clear hfz131_0
                          try clear hfz131_1
                          try clear hfz131_2
                          try clear hfz137_0
                          try clear hfz137_1
                          try clear hfz137_2
                          try clear hfz13_0
                          try clear hfz13_1
                          try clear hfz13_2
                          try clear hfz140_0
                          try clear hfz140_1
                          try clear hfz140_2
                          try clear hfz146_0
                          try clear hfz146_1
                          try clear hfz146_2
                          try clear hfz149_0
                          try clear hfz149_1
                          try clear hfz149_2
                          try clear hfz153_0
                          try clear hfz153_1
                          try clear hfz153_2
                          try clear hfz159_0
                          try clear hfz159_1
                          try clear hfz159_2
                          try clear hfz162_0
                          try clear hfz162_1
                          try clear hfz162_2
                          try clear hfz167_0
                          try clear hfz167_1
                          try clear hfz167_2
                          try clear hfz170_0
                          try clear hfz170_1
                          try clear hfz170_2
                          try clear hfz18_0
                          try clear hfz18_1
                          try clear hfz18_2
                          try clear hfz19_0
                          try clear hfz19_1
                          try clear hfz19_2
                          try clear hfz20_0
                          try clear hfz20_1
                          try clear hfz20_2
                          try clear hfz25_0
                          try clear hfz25_1
                          try clear hfz25_2
                          try clear hfz28_0
                          try clear hfz28_1
                          try clear hfz28_2
                          try clear hfz33_0
                          try clear hfz33_1
                          try clear hfz33_2
                          try clear hfz36_0
                          try clear hfz36_1
                          try clear hfz36_2
                          try clear hfz42_0
                          try clear hfz42_1
                          try clear hfz42_2
                          try clear hfz45_0
                          try clear hfz45_1
                          try clear hfz45_2
                          try clear hfz51_0
                          try clear hfz51_1
                          try clear hfz51_2
                          try clear hfz54_0
                          try clear hfz54_1
                          try clear hfz54_2
                          try clear hfz58_0
                          try clear hfz58_1
                          try clear hfz58_2
                          try clear hfz64_0
                          try clear hfz64_1
                          try clear hfz64_2
                          try clear hfz67_0
                          try clear hfz67_1
                          try clear hfz67_2
                          try clear hfz72_0
                          try clear hfz72_1
                          try clear hfz72_2
                          try clear hfz79_0
                          try clear hfz79_1
                          try clear hfz79_2
                          try clear hfz82_0
                          try clear hfz82_1
                          try clear hfz82_2
                          try clear hfz84_0
                          try clear hfz84_1
                          try clear hfz84_2
                          try clear hfz85_0
                          try clear hfz85_1
                          try clear hfz85_2
                          try clear hfz89_0
                          try clear hfz89_1
                          try clear hfz89_2
                          try clear hfz92_0
                          try clear hfz92_1
                          try clear hfz92_2
                          try clear hfz94_0
                          try clear hfz94_1
                          try clear hfz94_2
                          try clear hfz95_0
                          try clear hfz95_1
                          try clear hfz95_2
                          try clear hfz99_0
                          try clear hfz99_1
                          try clear hfz99_2
                          try clear p2
                          obtain ⟨kq, x50_162, rfl, HA, HJ162, BK121, BK122, BK123, BK124, HB⟩ := hcut
                          cases kq with
                          | zero => exact absurd HA.out (by simp [rundleref04_Meet.j11])
                          | succ kj162 =>
                            have H := HA.out
                            clear HA
                            simp only [rundleref04_Meet.j11] at H
                            by_cases c171 : x50_162 = true
                            · subst c171
                              have H1 : ((rundleref04_Less.f kj162 a1_1 a0_1).bind fun t128 => (if t128 = true then (some (x125000_103, a1_1, false)) else (some (x125000_103, a0_1, false)))) = some (r1, r2, r3) := by rw [if_pos rfl] at H; exact H
                              clear H
                              have H := H1
                              clear H1
                              replace H := Option.bind_eq_some_iff.mp H
                              obtain ⟨t128, A1720, H⟩ := H
                              replace H : (if t128 = true then (some (x125000_103, a1_1, false)) else (some (x125000_103, a0_1, false))) = some (r1, r2, r3) := H
                              have A172 := Aside0.mk A1720
                              clear A1720
                              by_cases c173 : t128 = true
                              · subst c173
                                have H1 : (some (x125000_103, a1_1, false)) = some (r1, r2, r3) := by rw [if_pos rfl] at H; exact H
                                clear H
                                have H := H1
                                clear H1
                                simp only [Option.some.injEq, Prod.mk.injEq] at H
                                obtain ⟨rfl, rfl, rfl⟩ := H
                                have hnb174 := NB121_122.out
                                have hnc174 := NB122_121.out
                                have hnb175 := NB121_123.out
                                have hnc175 := NB123_121.out
                                have hnb176 := NB121_124.out
                                have hnc176 := NB124_121.out
                                have hcz177_0 : wc.cell? ⟨gb121, 0, none⟩ = some (.string a0_0) := (blk_cell BK121.out 0).trans rfl
                                have hcz177_1 : wc.cell? ⟨gb121, 1, none⟩ = some (.string a0_1) := (blk_cell BK121.out 1).trans rfl
                                have hcz177_2 : wc.cell? ⟨gb121, 2, none⟩ = some (.bool false) := (blk_cell BK121.out 2).trans rfl
                                have hfz177_0 := blk_frozen BK121.out 0
                                have hfz177_1 := blk_frozen BK121.out 1
                                have hfz177_2 := blk_frozen BK121.out 2
                                have hnb178 := NB124_122.out
                                have hnc178 := NB122_124.out
                                have hnb179 := NB124_123.out
                                have hnc179 := NB123_124.out
                                have hcz180_0 : wc.cell? ⟨gb124, 0, none⟩ = some (.string x125000_103) := (blk_cell BK124.out 0).trans rfl
                                have hcz180_1 : wc.cell? ⟨gb124, 1, none⟩ = some (.string x125001_153) := (blk_cell BK124.out 1).trans rfl
                                have hcz180_2 : wc.cell? ⟨gb124, 2, none⟩ = some (.bool false) := (blk_cell BK124.out 2).trans rfl
                                have hfz180_0 := blk_frozen BK124.out 0
                                have hfz180_1 := blk_frozen BK124.out 1
                                have hfz180_2 := blk_frozen BK124.out 2
                                have hnb181 := NB122_123.out
                                have hnc181 := NB123_122.out
                                have hcz182_0 : wc.cell? ⟨gb122, 0, none⟩ = some (.string a1_0) := (blk_cell BK122.out 0).trans rfl
                                have hcz182_1 : wc.cell? ⟨gb122, 1, none⟩ = some (.string a1_1) := (blk_cell BK122.out 1).trans rfl
                                have hcz182_2 : wc.cell? ⟨gb122, 2, none⟩ = some (.bool a1_2) := (blk_cell BK122.out 2).trans rfl
                                have hfz182_0 := blk_frozen BK122.out 0
                                have hfz182_1 := blk_frozen BK122.out 1
                                have hfz182_2 := blk_frozen BK122.out 2
                                go_wp2_with (first | ((with_reducible refine gate_callee (f := 23) rfl ?_); refine goesL_ (some 58) rfl rfl Try.func23 (by kernel_rfl) rfl #[.string a1_1, .string a0_1] rfl (by (try simp only [List.map_toArray, List.map_cons, List.map_nil]); first | done | rfl | (simp only [List.length_drop, List.length_take]; rfl)) ?_; (with_reducible refine (rundleref04_Less.calls kj162 a1_1 a0_1 true _ A172.out).mono ?_); rintro e w' ⟨rfl, ⟨nd, rfl⟩⟩; refine ⟨_, rfl, ?_⟩; have hcz183_0 : wc.cell? ⟨gb123, 0, none⟩ = some (.string (⟨#[]⟩ : ByteArray)) := (blk_cell BK123.out 0).trans rfl; have hcz183_1 : wc.cell? ⟨gb123, 1, none⟩ = some (.string (⟨#[]⟩ : ByteArray)) := (blk_cell BK123.out 1).trans rfl; have hcz183_2 : wc.cell? ⟨gb123, 2, none⟩ = some (.bool false) := (blk_cell BK123.out 2).trans rfl; have hfz183_0 := blk_frozen BK123.out 0; have hfz183_1 := blk_frozen BK123.out 1; have hfz183_2 := blk_frozen BK123.out 2))
                                refine bodyPost_ret (results_cell_row rfl _ _ gb123 23 #[.string x125000_103, .string a1_1, .bool false] (0, 0) _ rfl (by (with_reducible repeat (first | refine blk_drewN ?_ _ | refine blk_drew ?_ | refine blk_alloc ?_ _)); refine blk_put (cs := #[.string x125000_103, .string a1_1, .bool false]) ?_ 2 _ rfl; (with_reducible repeat (first | refine blk_drewN ?_ _ | refine blk_drew ?_ | refine blk_alloc ?_ _)); refine blk_put (cs := #[.string x125000_103, .string (⟨#[]⟩ : ByteArray), .bool false]) ?_ 1 _ rfl; (with_reducible repeat (first | refine blk_drewN ?_ _ | refine blk_drew ?_ | refine blk_alloc ?_ _)); refine blk_put (cs := #[.string (⟨#[]⟩ : ByteArray), .string (⟨#[]⟩ : ByteArray), .bool false]) ?_ 0 _ rfl; (with_reducible repeat (first | refine blk_drewN ?_ _ | refine blk_drew ?_ | refine blk_alloc ?_ _)); refine blk_far ?_ NB123_124.out _; (with_reducible repeat (first | refine blk_drewN ?_ _ | refine blk_drew ?_ | refine blk_alloc ?_ _)); refine blk_far ?_ NB123_124.out _; (with_reducible repeat (first | refine blk_drewN ?_ _ | refine blk_drew ?_ | refine blk_alloc ?_ _)); exact BK123.out) Try.underlying23 rfl (by kernel_rfl)) rfl ?_
                                exact ⟨by first | rfl | (simp [errW_none, errW_some] <;> rfl) | (simp [*, errW_none, errW_some] <;> rfl), by repeat (first | (with_reducible first | exact HB.out | apply below_alloc | apply pw_below_drewN | apply below_drew1 | refine below_set ?_ GE121.out | refine below_set ?_ GE122.out | refine below_set ?_ GE123.out | refine below_set ?_ GE124.out) | exact HB.out)⟩
                              · replace c173 := Bool.eq_false_iff.mpr c173
                                subst c173
                                have H1 : (some (x125000_103, a0_1, false)) = some (r1, r2, r3) := by rw [if_neg (show ¬ (false = true) by decide)] at H; exact H
                                clear H
                                have H := H1
                                clear H1
                                simp only [Option.some.injEq, Prod.mk.injEq] at H
                                obtain ⟨rfl, rfl, rfl⟩ := H
                                have hnb184 := NB121_122.out
                                have hnc184 := NB122_121.out
                                have hnb185 := NB121_123.out
                                have hnc185 := NB123_121.out
                                have hnb186 := NB121_124.out
                                have hnc186 := NB124_121.out
                                have hcz187_0 : wc.cell? ⟨gb121, 0, none⟩ = some (.string a0_0) := (blk_cell BK121.out 0).trans rfl
                                have hcz187_1 : wc.cell? ⟨gb121, 1, none⟩ = some (.string a0_1) := (blk_cell BK121.out 1).trans rfl
                                have hcz187_2 : wc.cell? ⟨gb121, 2, none⟩ = some (.bool false) := (blk_cell BK121.out 2).trans rfl
                                have hfz187_0 := blk_frozen BK121.out 0
                                have hfz187_1 := blk_frozen BK121.out 1
                                have hfz187_2 := blk_frozen BK121.out 2
                                have hnb188 := NB124_122.out
                                have hnc188 := NB122_124.out
                                have hnb189 := NB124_123.out
                                have hnc189 := NB123_124.out
                                have hcz190_0 : wc.cell? ⟨gb124, 0, none⟩ = some (.string x125000_103) := (blk_cell BK124.out 0).trans rfl
                                have hcz190_1 : wc.cell? ⟨gb124, 1, none⟩ = some (.string x125001_153) := (blk_cell BK124.out 1).trans rfl
                                have hcz190_2 : wc.cell? ⟨gb124, 2, none⟩ = some (.bool false) := (blk_cell BK124.out 2).trans rfl
                                have hfz190_0 := blk_frozen BK124.out 0
                                have hfz190_1 := blk_frozen BK124.out 1
                                have hfz190_2 := blk_frozen BK124.out 2
                                have hnb191 := NB122_123.out
                                have hnc191 := NB123_122.out
                                have hcz192_0 : wc.cell? ⟨gb122, 0, none⟩ = some (.string a1_0) := (blk_cell BK122.out 0).trans rfl
                                have hcz192_1 : wc.cell? ⟨gb122, 1, none⟩ = some (.string a1_1) := (blk_cell BK122.out 1).trans rfl
                                have hcz192_2 : wc.cell? ⟨gb122, 2, none⟩ = some (.bool a1_2) := (blk_cell BK122.out 2).trans rfl
                                have hfz192_0 := blk_frozen BK122.out 0
                                have hfz192_1 := blk_frozen BK122.out 1
                                have hfz192_2 := blk_frozen BK122.out 2
                                go_wp2_with (first | ((with_reducible refine gate_callee (f := 23) rfl ?_); refine goesL_ (some 58) rfl rfl Try.func23 (by kernel_rfl) rfl #[.string a1_1, .string a0_1] rfl (by (try simp only [List.map_toArray, List.map_cons, List.map_nil]); first | done | rfl | (simp only [List.length_drop, List.length_take]; rfl)) ?_; (with_reducible refine (rundleref04_Less.calls kj162 a1_1 a0_1 false _ A172.out).mono ?_); rintro e w' ⟨rfl, ⟨nd, rfl⟩⟩; refine ⟨_, rfl, ?_⟩; have hcz193_0 : wc.cell? ⟨gb123, 0, none⟩ = some (.string (⟨#[]⟩ : ByteArray)) := (blk_cell BK123.out 0).trans rfl; have hcz193_1 : wc.cell? ⟨gb123, 1, none⟩ = some (.string (⟨#[]⟩ : ByteArray)) := (blk_cell BK123.out 1).trans rfl; have hcz193_2 : wc.cell? ⟨gb123, 2, none⟩ = some (.bool false) := (blk_cell BK123.out 2).trans rfl; have hfz193_0 := blk_frozen BK123.out 0; have hfz193_1 := blk_frozen BK123.out 1; have hfz193_2 := blk_frozen BK123.out 2))
                                refine bodyPost_ret (results_cell_row rfl _ _ gb123 23 #[.string x125000_103, .string a0_1, .bool false] (0, 0) _ rfl (by (with_reducible repeat (first | refine blk_drewN ?_ _ | refine blk_drew ?_ | refine blk_alloc ?_ _)); refine blk_put (cs := #[.string x125000_103, .string a0_1, .bool false]) ?_ 2 _ rfl; (with_reducible repeat (first | refine blk_drewN ?_ _ | refine blk_drew ?_ | refine blk_alloc ?_ _)); refine blk_put (cs := #[.string x125000_103, .string (⟨#[]⟩ : ByteArray), .bool false]) ?_ 1 _ rfl; (with_reducible repeat (first | refine blk_drewN ?_ _ | refine blk_drew ?_ | refine blk_alloc ?_ _)); refine blk_put (cs := #[.string (⟨#[]⟩ : ByteArray), .string (⟨#[]⟩ : ByteArray), .bool false]) ?_ 0 _ rfl; (with_reducible repeat (first | refine blk_drewN ?_ _ | refine blk_drew ?_ | refine blk_alloc ?_ _)); refine blk_far ?_ NB123_124.out _; (with_reducible repeat (first | refine blk_drewN ?_ _ | refine blk_drew ?_ | refine blk_alloc ?_ _)); exact BK123.out) Try.underlying23 rfl (by kernel_rfl)) rfl ?_
                                exact ⟨by first | rfl | (simp [errW_none, errW_some] <;> rfl) | (simp [*, errW_none, errW_some] <;> rfl), by repeat (first | (with_reducible first | exact HB.out | apply below_alloc | apply pw_below_drewN | apply below_drew1 | refine below_set ?_ GE121.out | refine below_set ?_ GE122.out | refine below_set ?_ GE123.out | refine below_set ?_ GE124.out) | exact HB.out)⟩
                            · replace c171 := Bool.eq_false_iff.mpr c171
                              subst c171
                              have H1 : (some (x125000_103, x125001_153, false)) = some (r1, r2, r3) := by rw [if_neg (show ¬ (false = true) by decide)] at H; exact H
                              clear H
                              have H := H1
                              clear H1
                              simp only [Option.some.injEq, Prod.mk.injEq] at H
                              obtain ⟨rfl, rfl, rfl⟩ := H
                              have hnb194 := NB124_121.out
                              have hnc194 := NB121_124.out
                              have hnb195 := NB124_122.out
                              have hnc195 := NB122_124.out
                              have hnb196 := NB124_123.out
                              have hnc196 := NB123_124.out
                              have hcz197_0 : wc.cell? ⟨gb124, 0, none⟩ = some (.string x125000_103) := (blk_cell BK124.out 0).trans rfl
                              have hcz197_1 : wc.cell? ⟨gb124, 1, none⟩ = some (.string x125001_153) := (blk_cell BK124.out 1).trans rfl
                              have hcz197_2 : wc.cell? ⟨gb124, 2, none⟩ = some (.bool false) := (blk_cell BK124.out 2).trans rfl
                              have hfz197_0 := blk_frozen BK124.out 0
                              have hfz197_1 := blk_frozen BK124.out 1
                              have hfz197_2 := blk_frozen BK124.out 2
                              have hnb198 := NB123_121.out
                              have hnc198 := NB121_123.out
                              have hnb199 := NB123_122.out
                              have hnc199 := NB122_123.out
                              have hcz200_0 : wc.cell? ⟨gb123, 0, none⟩ = some (.string (⟨#[]⟩ : ByteArray)) := (blk_cell BK123.out 0).trans rfl
                              have hcz200_1 : wc.cell? ⟨gb123, 1, none⟩ = some (.string (⟨#[]⟩ : ByteArray)) := (blk_cell BK123.out 1).trans rfl
                              have hcz200_2 : wc.cell? ⟨gb123, 2, none⟩ = some (.bool false) := (blk_cell BK123.out 2).trans rfl
                              have hfz200_0 := blk_frozen BK123.out 0
                              have hfz200_1 := blk_frozen BK123.out 1
                              have hfz200_2 := blk_frozen BK123.out 2
                              go_wp2
                              refine bodyPost_ret (results_cell_row rfl _ _ gb123 23 #[.string x125000_103, .string x125001_153, .bool false] (0, 0) _ rfl (by (with_reducible repeat (first | refine blk_drewN ?_ _ | refine blk_drew ?_ | refine blk_alloc ?_ _)); refine blk_put (cs := #[.string x125000_103, .string x125001_153, .bool false]) ?_ 2 _ rfl; (with_reducible repeat (first | refine blk_drewN ?_ _ | refine blk_drew ?_ | refine blk_alloc ?_ _)); refine blk_put (cs := #[.string x125000_103, .string (⟨#[]⟩ : ByteArray), .bool false]) ?_ 1 _ rfl; (with_reducible repeat (first | refine blk_drewN ?_ _ | refine blk_drew ?_ | refine blk_alloc ?_ _)); refine blk_put (cs := #[.string (⟨#[]⟩ : ByteArray), .string (⟨#[]⟩ : ByteArray), .bool false]) ?_ 0 _ rfl; (with_reducible repeat (first | refine blk_drewN ?_ _ | refine blk_drew ?_ | refine blk_alloc ?_ _)); exact BK123.out) Try.underlying23 rfl (by kernel_rfl)) rfl ?_
                              exact ⟨by first | rfl | (simp [errW_none, errW_some] <;> rfl) | (simp [*, errW_none, errW_some] <;> rfl), by repeat (first | (with_reducible first | exact HB.out | apply below_alloc | apply pw_below_drewN | apply below_drew1 | refine below_set ?_ GE121.out | refine below_set ?_ GE122.out | refine below_set ?_ GE123.out | refine below_set ?_ GE124.out) | exact HB.out)⟩

end Go.Proofs.Ytchlkbaopgpldaa.PKeyMeets
