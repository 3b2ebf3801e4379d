/- NodeKinds: no more handles are held than the memory's count tells. Plain. -/
import Derived.Test.YtcfbjcadpcedhaaNCuts
namespace Go.Proofs.Ytcfbjcadpcedhaa.Mem
open Go.RowKit Go.Proofs.YtcfbjcadpcedhaaW.PrintWords Go.Proofs.YtcfbjcadpcedhaaW.PrintLast Go.Proofs.Ytcfbjcadpcedhaa.Tags
set_option linter.unusedVariables false
set_option linter.unusedSimpArgs false
theorem held_pos {m : M} {n : Nat} {g : Int} (h : Shape m n 0 g) (x : Int) : m.val x = none := by
  cases hv : m.val x with
  | none => rfl
  | some u =>
    exfalso
    obtain ⟨i, hi, _⟩ := val_some.1 hv
    have hh := find_held_ hi
    have hlt := (find_iff.1 hi).2.2.1
    rw [at_get m hlt] at hh
    exact List.countP_eq_zero.1 h.used _ (List.getElem_mem hlt) hh
theorem held_le {n : Nat} : ∀ (ts : List Int) (m : M) (k : Nat) (g : Int), Shape m n k g → g + ts.length ≤ 1000000 → ts.Nodup → (∀ x ∈ ts, m.val x ≠ none) → ts.length ≤ k
  | [], _, _, _, _, _, _, _ => Nat.zero_le _
  | x :: ts, m, k, g, h, hg, hd, hv => by
    simp only [List.length_cons] at hg ⊢
    obtain ⟨u, hu⟩ := Option.ne_none_iff_exists'.1 (hv x List.mem_cons_self)
    have hd' := List.nodup_cons.1 hd
    cases k with
    | zero => rw [held_pos h x] at hu; cases hu
    | succ k =>
      obtain ⟨m1, _, t1, s1⟩ := free_val h (by omega) hu
      have := held_le ts m1 k (g + 1) s1 (by omega) hd'.2 (fun y hy => by
        rw [t1.other y (by rintro rfl; exact hd'.1 hy)]
        exact hv y (List.mem_cons_of_mem _ hy))
      omega
theorem all_held {m : M} {n k : Nat} {g : Int} (h : Shape m n k g) {ts : List Int} (hg : g + k + 1 ≤ 1000000) (hd : ts.Nodup) (hl : ts.length = k) (hv : ∀ x ∈ ts, m.val x ≠ none) {y : Int} (hy : m.val y ≠ none) : y ∈ ts := by
  by_cases hm : y ∈ ts
  · exact hm
  · exfalso
    have := held_le (y :: ts) m k g h (by simp only [List.length_cons]; omega) (List.nodup_cons.2 ⟨hm, hd⟩) (fun x hx => by
      rcases List.mem_cons.1 hx with rfl | hx
      · exact hy
      · exact hv x hx)
    simp only [List.length_cons] at this
    omega
end Go.Proofs.Ytcfbjcadpcedhaa.Mem
