/- rundleref16.At: the place of the first version that isn't above another one. -/
import Derived.Test.YtcfbjcadpcedhaaNAwake
namespace Go.Proofs.Ytcfbjcadpcedhaa.Mem
open Go.RowKit Go.Proofs.YtcfbjcadpcedhaaW.PrintWords Go.Proofs.YtcfbjcadpcedhaaW.PrintLast Go.Proofs.Ytcfbjcadpcedhaa.Tags
set_option linter.unusedVariables false
set_option linter.unusedSimpArgs false
section
variable {w0 w w' : World} {pb mb cb : Nat} {m m' : M}
/-- What At of the reference comes to. -/
def RefAt (xs : List Int) (v r : Int) : Prop := (r = -1 ∧ ∀ x ∈ xs, ¬ x ≤ v) ∨ ∃ k : Nat, k < xs.length ∧ r = k ∧ (∀ j, j < k → ¬ xs.getD j 0 ≤ v) ∧ xs.getD k 0 ≤ v
theorem RefAt.none {xs : List Int} {v r : Int} (h : RefAt xs v r) (hn : ∀ x ∈ xs, ¬ x ≤ v) : r = -1 := by
  rcases h with ⟨h, _⟩ | ⟨k, hk, _, _, hle⟩
  · exact h
  · rw [List.getD_eq_getElem?_getD, List.getElem?_eq_getElem hk] at hle
    exact absurd hle (hn _ (List.getElem_mem hk))
theorem RefAt.first {l1 l2 : List Int} {x v r : Int} (h : RefAt (l1 ++ x :: l2) v r) (hn : ∀ y ∈ l1, ¬ y ≤ v) (hx : x ≤ v) : r = (l1.length : Int) := by
  rcases h with ⟨_, h⟩ | ⟨k, hk, rfl, hno, hle⟩
  · exact absurd hx (h x (by simp))
  · rcases Nat.lt_trichotomy k l1.length with hlt | rfl | hgt
    · rw [List.getD_eq_getElem?_getD, List.getElem?_append_left hlt, List.getElem?_eq_getElem hlt] at hle
      exact absurd hle (hn _ (List.getElem_mem hlt))
    · rfl
    · have := hno l1.length hgt
      rw [List.getD_eq_getElem?_getD, List.getElem?_append_right (Nat.le_refl _)] at this
      simp at this
      omega
def NoLe (xs : List Int) (v : Int) (k : Nat) : Prop := ∀ j, j < k → ¬ xs.getD j 0 ≤ v
set_option maxHeartbeats 1600000 in
set_option maxRecDepth 100000 in
theorem refAt_calls {A : Option Addr} {c : Nat} {xs : List Int} (hR : RdT w A xs) (hl : xs.length ≤ 1000) (v : Int) : Calls Try.prog 23 #[.slice A xs.length c, .int .i64 v] w fun e w' => ∃ r, e = .returned (.int .i64 r) ∧ RefAt xs v r ∧ w = w' := by
  have HR := Lib.hid hR
  clear hR
  go_enter Try.func23, Try.ntmps23
  go_wp2_with fail
  go_loopw [5] (fun i wr => ∃ k : Nat, k ≤ xs.length ∧ i = .int .i64 k ∧ NoLe xs v k ∧ w = wr) (fun i _ => xs.length - (intOf i).toNat)
  case atStart => exact ⟨0, by omega, rfl, fun j hj => absurd hj (by omega), rfl⟩
  case round =>
    obtain ⟨k, hk, rfl, hno, rfl⟩ := hrel
    by_cases hlt : k < xs.length
    · have g1 : decide (k < xs.length) = true := decide_eq_true hlt
      obtain ⟨g, o, eg, hcl⟩ := HR.out.at_ k hlt
      obtain ⟨y, hy⟩ : ∃ y, xs.getD k 0 = y := ⟨_, rfl⟩
      rw [hy] at hcl
      subst eg
      have HY := Lib.hid hy
      clear hy
      by_cases hle : y ≤ v
      · have g2 : decide (y ≤ v) = true := decide_eq_true hle
        go_wp2_with fail
        go_ret
        exact ⟨_, rfl, Or.inr ⟨k, hlt, rfl, hno, by rw [HY.out]; exact hle⟩, rfl⟩
      · have g2 : decide (y ≤ v) = false := decide_eq_false hle
        go_wp2_with fail
        go_roundw
        case rel => exact ⟨k + 1, by omega, by go_num, fun j hj => by
          rcases Nat.lt_or_ge j k with h | h
          · exact hno j h
          · obtain rfl : j = k := by omega
            rw [HY.out]; exact hle, by first | rfl | trivial⟩
        case measure => simp [intOf]; omega
    · have g1 : decide (k < xs.length) = false := decide_eq_false hlt
      go_wp2_with fail
      go_ret
      refine ⟨_, rfl, Or.inl ⟨rfl, fun x hx => ?_⟩, rfl⟩
      obtain ⟨j, hj, ej⟩ := List.getElem_of_mem hx
      have := hno j (by omega)
      rw [List.getD_eq_getElem?_getD, List.getElem?_eq_getElem hj, Option.getD_some, ej] at this
      exact this
end
end Go.Proofs.Ytcfbjcadpcedhaa.Mem
