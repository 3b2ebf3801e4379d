/- PaceSettles: behind forty changes of as many entries each a rate is within 3 of 16 times as many; for every rate and every byte. -/
import Derived.Test.YtnnkckijpikhlaaPPaceSettlesx1
namespace Go.Proofs.Ytnnkckijpikhlaa.Pure
open Go.RowKit Go.Proofs.Ytnnkckijpikhlaa.PPaceSettles Go.Proofs.YtnnkckijpikhlaaW.PrintWords Go.Proofs.YtnnkckijpikhlaaW.PrintLast
set_option linter.unusedVariables false

theorem i64_of {a : Int} (h : (Lit.int .i64 a).wf = true) : -9223372036854775808 ≤ a ∧ a ≤ 9223372036854775807 := by
  simpa [Lit.wf, IntKind.min, IntKind.max, IntKind.signed, IntKind.bits] using h
def cl (a lo hi : Int) : Int := mn (mx a lo) hi
theorem cl_bd (a lo hi : Int) (h : lo ≤ hi) : lo ≤ cl a lo hi ∧ cl a lo hi ≤ hi := by
  unfold cl mn mx
  by_cases h1 : a < lo <;> simp only [h1, if_true, if_false] <;> split <;> omega
theorem cl_mono (a b lo hi : Int) (h : a ≤ b) : cl a lo hi ≤ cl b lo hi := by
  unfold cl mn mx
  by_cases h1 : a < lo <;> by_cases h2 : b < lo <;> simp only [h1, h2, if_true, if_false] <;> (repeat' split) <;> omega
theorem between_eq (a lo hi : Int) : pace_between.f a lo hi = some (cl a lo hi) := rfl
/-- a quarter, toward zero -/
def q4 (x : Int) : Int := if 0 ≤ x then x / 4 else -((-x) / 4)
theorem tdiv4 (x : Int) : Int.tdiv x 4 = q4 x := by
  unfold q4
  by_cases h : 0 ≤ x
  · rw [if_pos h, Int.tdiv_eq_ediv_of_nonneg h]
  · rw [if_neg h]
    have h2 : 0 ≤ -x := by omega
    rw [← Int.tdiv_eq_ediv_of_nonneg h2, Int.neg_tdiv, Int.neg_neg]
def rt (A N : Int) : Int := A + q4 (16 * N - A)
theorem rt_eq (A N : Int) (h0 : 0 ≤ A) (h1 : A ≤ 4080) (h2 : 0 ≤ N) (h3 : N ≤ 255) :
    wrap64 (A + wrap64 (Int.tdiv (wrap64 (wrap64 (16 * N) - A)) 4)) = rt A N := by
  have e1 : wrap64 (16 * N) = 16 * N := by unfold wrap64; omega
  have e2 : wrap64 (16 * N - A) = 16 * N - A := by unfold wrap64; omega
  rw [e1, e2, tdiv4]
  unfold rt q4 wrap64
  split <;> omega
theorem rt_bd (A N : Int) (h0 : 0 ≤ A) (h1 : A ≤ 4080) (h2 : 0 ≤ N) (h3 : N ≤ 255) : 0 ≤ rt A N ∧ rt A N ≤ 4080 := by
  unfold rt q4
  split <;> omega
theorem rt_mono (A B N : Int) (h : A ≤ B) : rt A N ≤ rt B N := by
  unfold rt q4
  split <;> split <;> omega
theorem rate_eq (a n : Int) : pace_Rate.f a n = some (rt (cl a 0 4080) (cl n 0 255)) := by
  have h1 := cl_bd a 0 4080 (by omega)
  have h2 := cl_bd n 0 255 (by omega)
  unfold pace_Rate.f
  simp only [between_eq, Option.bind_some]
  rw [rt_eq _ _ h1.1 h1.2 h2.1 h2.2]
def lm (A L H : Int) : Int := mn (L + A / 16) (mx L H)
theorem lm_eq (A L H : Int) (h0 : 0 ≤ A) (h1 : A ≤ 4080) (h2 : 2 ≤ L) (h3 : L ≤ 64) :
    mn (wrap64 (L + wrap64 (Int.tdiv A 16))) (mx L H) = lm A L H := by
  rw [Int.tdiv_eq_ediv_of_nonneg h0]
  have e1 : wrap64 (A / 16) = A / 16 := by unfold wrap64; omega
  have e2 : wrap64 (L + A / 16) = L + A / 16 := by unfold wrap64; omega
  rw [e1, e2]
  rfl
theorem limit_eq (a l h : Int) : pace_Limit.f a l h = some (lm (cl a 0 4080) (cl l 2 64) (cl h 2 64)) := by
  have h1 := cl_bd a 0 4080 (by omega)
  have h2 := cl_bd l 2 64 (by omega)
  unfold pace_Limit.f
  simp only [between_eq, Option.bind_some]
  rw [lm_eq _ _ _ h1.1 h1.2 h2.1 h2.2]
theorem lm_bd (A L H : Int) (h0 : 0 ≤ A) (h2 : 2 ≤ L) (h3 : L ≤ 64) (h4 : 2 ≤ H) (h5 : H ≤ 64) : 2 ≤ lm A L H ∧ lm A L H ≤ 64 := by
  unfold lm mn mx
  by_cases h : L < H <;> simp only [h, if_true, if_false] <;> split <;> omega
theorem lm_mono (A B L H : Int) (h : A ≤ B) : lm A L H ≤ lm B L H := by
  unfold lm mn mx
  by_cases h : L < H <;> simp only [h, if_true, if_false] <;> (repeat' split) <;> omega
theorem awake_t : rundlelaw07_awake.f = some true := by
  unfold rundlelaw07_awake.f
  rw [rate_eq]
  have e : rt (cl 0 0 4080) (cl 1 0 255) = 4 := by decide
  rw [e, limit_eq]
  decide

/-- how far off a rate may be behind one change more -/
def fs (d : Int) : Int := d - d / 4
def fsn : Nat → Int → Int
  | 0, d => d
  | k + 1, d => fsn k (fs d)
theorem fsn_step (k : Nat) (d e : Int) (h : fs d = e) : fsn (k + 1) d = fsn k e := by rw [← h]; rfl
theorem fsn39 : fsn 39 4080 ≤ 3 := by
  rw [fsn_step 38 4080 3060 (by decide)]
  rw [fsn_step 37 3060 2295 (by decide)]
  rw [fsn_step 36 2295 1722 (by decide)]
  rw [fsn_step 35 1722 1292 (by decide)]
  rw [fsn_step 34 1292 969 (by decide)]
  rw [fsn_step 33 969 727 (by decide)]
  rw [fsn_step 32 727 546 (by decide)]
  rw [fsn_step 31 546 410 (by decide)]
  rw [fsn_step 30 410 308 (by decide)]
  rw [fsn_step 29 308 231 (by decide)]
  rw [fsn_step 28 231 174 (by decide)]
  rw [fsn_step 27 174 131 (by decide)]
  rw [fsn_step 26 131 99 (by decide)]
  rw [fsn_step 25 99 75 (by decide)]
  rw [fsn_step 24 75 57 (by decide)]
  rw [fsn_step 23 57 43 (by decide)]
  rw [fsn_step 22 43 33 (by decide)]
  rw [fsn_step 21 33 25 (by decide)]
  rw [fsn_step 20 25 19 (by decide)]
  rw [fsn_step 19 19 15 (by decide)]
  rw [fsn_step 18 15 12 (by decide)]
  rw [fsn_step 17 12 9 (by decide)]
  rw [fsn_step 16 9 7 (by decide)]
  rw [fsn_step 15 7 6 (by decide)]
  rw [fsn_step 14 6 5 (by decide)]
  rw [fsn_step 13 5 4 (by decide)]
  rw [fsn_step 12 4 3 (by decide)]
  rw [fsn_step 11 3 3 (by decide)]
  rw [fsn_step 10 3 3 (by decide)]
  rw [fsn_step 9 3 3 (by decide)]
  rw [fsn_step 8 3 3 (by decide)]
  rw [fsn_step 7 3 3 (by decide)]
  rw [fsn_step 6 3 3 (by decide)]
  rw [fsn_step 5 3 3 (by decide)]
  rw [fsn_step 4 3 3 (by decide)]
  rw [fsn_step 3 3 3 (by decide)]
  rw [fsn_step 2 3 3 (by decide)]
  rw [fsn_step 1 3 3 (by decide)]
  rw [fsn_step 0 3 3 (by decide)]
  decide
theorem rt_off (A N e : Int) (h0 : 0 ≤ A) (h1 : A ≤ 4080) (h2 : 0 ≤ N) (h3 : N ≤ 255) (h4 : A - 16 * N ≤ e) (h5 : 16 * N - A ≤ e) : rt A N - 16 * N ≤ fs e ∧ 16 * N - rt A N ≤ fs e := by
  unfold rt q4 fs
  split <;> omega
theorem cl_id (a lo hi : Int) (h0 : lo ≤ a) (h1 : a ≤ hi) : cl a lo hi = a := by
  unfold cl mn mx
  rw [if_neg (by omega), if_neg (by omega)]
theorem loop (n : Int) (h2 : 0 ≤ n) (h3 : n ≤ 255) : ∀ (d k : Nat) (r i e : Int), i = 40 - (d : Int) → d ≤ 39 → d < k → 0 ≤ r → r ≤ 4080 → r - 16 * n ≤ e → 16 * n - r ≤ e → fsn d e ≤ 3 → rundlelaw07_PaceSettles.l0 k r n i = some true := by
  have en : wrap64 n = n := by unfold wrap64; omega
  have e16 : wrap64 (16 * n) = 16 * n := by unfold wrap64; omega
  intro d
  induction d with
  | zero =>
    intro k r i e hi _ hk hr0 hr1 ha hb he
    obtain ⟨k, rfl⟩ : ∃ m, k = m + 1 := ⟨k - 1, by omega⟩
    have he' : e ≤ 3 := he
    have ew : wrap64 (r - 16 * n) = r - 16 * n := by unfold wrap64; omega
    simp only [rundlelaw07_PaceSettles.l0]
    rw [if_neg (by omega), en, e16, ew, if_pos (by omega)]
    simp; omega
  | succ d ih =>
    intro k r i e hi hd hk hr0 hr1 ha hb he
    obtain ⟨k, rfl⟩ : ∃ m, k = m + 1 := ⟨k - 1, by omega⟩
    have ei : wrap64 (i + 1) = i + 1 := by unfold wrap64; omega
    simp only [rundlelaw07_PaceSettles.l0]
    rw [if_pos (by omega), en, rate_eq, cl_id r 0 4080 hr0 hr1, cl_id n 0 255 h2 h3, ei]
    simp only [Option.bind_some]
    have b := rt_bd r n hr0 hr1 h2 h3
    have o := rt_off r n e hr0 hr1 h2 h3 ha hb
    exact ih k _ _ (fs e) (by omega) (by omega) (by omega) b.1 b.2 o.1 o.2 he
theorem key (r n : Int) (h2 : 0 ≤ n) (h3 : n ≤ 255) (k : Nat) (hk : 40 ≤ k) : rundlelaw07_PaceSettles.l0 (k + 1) r n 0 = some true := by
  have en : wrap64 n = n := by unfold wrap64; omega
  have c := cl_bd r 0 4080 (by omega)
  have b := rt_bd _ n c.1 c.2 h2 h3
  have e1 : wrap64 (0 + 1) = 1 := by unfold wrap64; omega
  simp only [rundlelaw07_PaceSettles.l0]
  rw [if_pos (by omega), en, rate_eq, cl_id n 0 255 h2 h3, e1]
  simp only [Option.bind_some]
  exact loop n h2 h3 39 k _ _ 4080 (by omega) (by omega) (by omega) b.1 b.2 (by omega) (by omega) fsn39
theorem key2 (r n : Int) (h2 : 0 ≤ n) (h3 : n ≤ 255) (k : Nat) (hk : 40 ≤ k) : rundlelaw07_PaceSettles.f (k + 1) r n = some true := by
  unfold rundlelaw07_PaceSettles.f
  rw [awake_t]
  simp only [Option.bind_some, if_true]
  exact key r n h2 h3 k hk
theorem PaceSettles : rundlelaw07_PaceSettles.Pure := by
  intro r n _ hn
  have hn' : 0 ≤ n ∧ n ≤ 255 := by simpa [Lit.wf, IntKind.min, IntKind.max, IntKind.signed, IntKind.bits] using hn
  exact ⟨40 + 1, key2 r n hn'.1 hn'.2 40 (Nat.le_refl _)⟩

end Go.Proofs.Ytnnkckijpikhlaa.Pure
