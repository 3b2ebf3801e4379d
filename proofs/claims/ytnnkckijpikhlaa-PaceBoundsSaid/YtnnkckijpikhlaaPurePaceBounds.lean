/- PaceBounds: rates and limits stay within their bounds, and of two rates the greater one stays so; for all ints. -/
import Derived.Test.YtnnkckijpikhlaaPPaceBoundsx1
namespace Go.Proofs.Ytnnkckijpikhlaa.Pure
open Go.RowKit Go.Proofs.Ytnnkckijpikhlaa.PPaceBounds Go.Proofs.YtnnkckijpikhlaaW.PrintWords Go.Proofs.YtnnkckijpikhlaaW.PrintLast
set_option linter.unusedVariables false

theorem i64_of {a : Int} (h : (Lit.int .i64 a).wf = true) : -9223372036854775808 ≤ a ∧ a ≤ 9223372036854775807 := by
  simpa [Lit.wf, IntKind.min, IntKind.max, IntKind.signed, IntKind.bits] using h
def cl (a lo hi : Int) : Int := mn (mx a lo) hi
theorem cl_bd (a lo hi : Int) (h : lo ≤ hi) : lo ≤ cl a lo hi ∧ cl a lo hi ≤ hi := by
  unfold cl mn mx
  by_cases h1 : a < lo <;> simp only [h1, if_true, if_false] <;> split <;> omega
theorem cl_mono (a b lo hi : Int) (h : a ≤ b) : cl a lo hi ≤ cl b lo hi := by
  unfold cl mn mx
  by_cases h1 : a < lo <;> by_cases h2 : b < lo <;> simp only [h1, h2, if_true, if_false] <;> (repeat' split) <;> omega
theorem between_eq (a lo hi : Int) : pace_between.f a lo hi = some (cl a lo hi) := rfl
/-- a quarter, toward zero -/
def q4 (x : Int) : Int := if 0 ≤ x then x / 4 else -((-x) / 4)
theorem tdiv4 (x : Int) : Int.tdiv x 4 = q4 x := by
  unfold q4
  by_cases h : 0 ≤ x
  · rw [if_pos h, Int.tdiv_eq_ediv_of_nonneg h]
  · rw [if_neg h]
    have h2 : 0 ≤ -x := by omega
    rw [← Int.tdiv_eq_ediv_of_nonneg h2, Int.neg_tdiv, Int.neg_neg]
def rt (A N : Int) : Int := A + q4 (16 * N - A)
theorem rt_eq (A N : Int) (h0 : 0 ≤ A) (h1 : A ≤ 4080) (h2 : 0 ≤ N) (h3 : N ≤ 255) :
    wrap64 (A + wrap64 (Int.tdiv (wrap64 (wrap64 (16 * N) - A)) 4)) = rt A N := by
  have e1 : wrap64 (16 * N) = 16 * N := by unfold wrap64; omega
  have e2 : wrap64 (16 * N - A) = 16 * N - A := by unfold wrap64; omega
  rw [e1, e2, tdiv4]
  unfold rt q4 wrap64
  split <;> omega
theorem rt_bd (A N : Int) (h0 : 0 ≤ A) (h1 : A ≤ 4080) (h2 : 0 ≤ N) (h3 : N ≤ 255) : 0 ≤ rt A N ∧ rt A N ≤ 4080 := by
  unfold rt q4
  split <;> omega
theorem rt_mono (A B N : Int) (h : A ≤ B) : rt A N ≤ rt B N := by
  unfold rt q4
  split <;> split <;> omega
theorem rate_eq (a n : Int) : pace_Rate.f a n = some (rt (cl a 0 4080) (cl n 0 255)) := by
  have h1 := cl_bd a 0 4080 (by omega)
  have h2 := cl_bd n 0 255 (by omega)
  unfold pace_Rate.f
  simp only [between_eq, Option.bind_some]
  rw [rt_eq _ _ h1.1 h1.2 h2.1 h2.2]
def lm (A L H : Int) : Int := mn (L + A / 16) (mx L H)
theorem lm_eq (A L H : Int) (h0 : 0 ≤ A) (h1 : A ≤ 4080) (h2 : 2 ≤ L) (h3 : L ≤ 64) :
    mn (wrap64 (L + wrap64 (Int.tdiv A 16))) (mx L H) = lm A L H := by
  rw [Int.tdiv_eq_ediv_of_nonneg h0]
  have e1 : wrap64 (A / 16) = A / 16 := by unfold wrap64; omega
  have e2 : wrap64 (L + A / 16) = L + A / 16 := by unfold wrap64; omega
  rw [e1, e2]
  rfl
theorem limit_eq (a l h : Int) : pace_Limit.f a l h = some (lm (cl a 0 4080) (cl l 2 64) (cl h 2 64)) := by
  have h1 := cl_bd a 0 4080 (by omega)
  have h2 := cl_bd l 2 64 (by omega)
  unfold pace_Limit.f
  simp only [between_eq, Option.bind_some]
  rw [lm_eq _ _ _ h1.1 h1.2 h2.1 h2.2]
theorem lm_bd (A L H : Int) (h0 : 0 ≤ A) (h2 : 2 ≤ L) (h3 : L ≤ 64) (h4 : 2 ≤ H) (h5 : H ≤ 64) : 2 ≤ lm A L H ∧ lm A L H ≤ 64 := by
  unfold lm mn mx
  by_cases h : L < H <;> simp only [h, if_true, if_false] <;> split <;> omega
theorem lm_mono (A B L H : Int) (h : A ≤ B) : lm A L H ≤ lm B L H := by
  unfold lm mn mx
  by_cases h : L < H <;> simp only [h, if_true, if_false] <;> (repeat' split) <;> omega
theorem awake_t : rundlelaw07_awake.f = some true := by
  unfold rundlelaw07_awake.f
  rw [rate_eq]
  have e : rt (cl 0 0 4080) (cl 1 0 255) = 4 := by decide
  rw [e, limit_eq]
  decide

theorem PaceBounds : rundlelaw07_PaceBounds.Pure := by
  intro a b n low high _ _ _ _ _
  unfold rundlelaw07_PaceBounds.f
  simp only [rate_eq, limit_eq, awake_t, Option.bind_some, if_true]
  have ha := cl_bd a 0 4080 (by omega)
  have hn := cl_bd n 0 255 (by omega)
  have hl := cl_bd low 2 64 (by omega)
  have hh := cl_bd high 2 64 (by omega)
  have r := rt_bd _ _ ha.1 ha.2 hn.1 hn.2
  have l := lm_bd _ _ _ ha.1 hl.1 hl.2 hh.1 hh.2
  rw [if_pos r.1, if_pos r.2, if_pos l.1, if_pos l.2]
  by_cases h : a > b
  · rw [if_pos h]
  · have m := cl_mono a b 0 4080 (by omega)
    have m2 := rt_mono _ _ (cl n 0 255) m
    have m3 := lm_mono _ _ (cl low 2 64) (cl high 2 64) m
    rw [if_neg h, if_pos m2]
    simp [m3]

end Go.Proofs.Ytnnkckijpikhlaa.Pure
