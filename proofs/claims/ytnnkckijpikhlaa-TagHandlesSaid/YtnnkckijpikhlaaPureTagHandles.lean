/- TagHandles: the handle of any place and generation, and what any number is as a handle, are the document's; for all ints. -/
import Derived.Test.YtnnkckijpikhlaaPTagHandlesx1
import Derived.Laws.BitsLemmas
import Derived.Laws.BitsAllLaws
namespace Go.Proofs.Ytnnkckijpikhlaa.Pure
open Go.RowKit Go.Proofs.Ytnnkckijpikhlaa.PTagHandles Go.Proofs.YtnnkckijpikhlaaW.PrintWords Go.Proofs.YtnnkckijpikhlaaW.PrintLast
set_option linter.unusedVariables false

theorem i64_of {a : Int} (h : (Lit.int .i64 a).wf = true) : -9223372036854775808 ≤ a ∧ a ≤ 9223372036854775807 := by
  simpa [Lit.wf, IntKind.min, IntKind.max, IntKind.signed, IntKind.bits] using h
theorem wraps_i64 (n : Int) (h₀ : 0 ≤ n) (h₁ : n < 2 ^ 63) : IntKind.i64.wrap n = n := by rw [IntKind.wrap_i64]; omega
theorem and16 (a : Int) : Go.bits .and .i64 a 65535 = a % 65536 := by
  have e : (BitVec.ofInt 64 a &&& BitVec.ofInt 64 65535).toNat = (a % 65536).toNat := by
    rw [BitVec.toNat_and, BitVec.toNat_ofInt, BitVec.toNat_ofInt]
    have h : ((65535 : Int) % ((2 ^ 64 : Nat) : Int)).toNat = 2 ^ 16 - 1 := by decide
    rw [h, Nat.and_two_pow_sub_one_eq_mod]
    omega
  have e2 : Go.bits .and .i64 a 65535 = IntKind.i64.wrap ((BitVec.ofInt 64 a &&& BitVec.ofInt 64 65535).toNat : Int) := rfl
  rw [e2, e, wraps_i64 _ (by omega) (by omega)]
  omega
theorem and31 (a : Int) : Go.bits .and .i64 a 2147483647 = a % 2147483648 := by
  have e : (BitVec.ofInt 64 a &&& BitVec.ofInt 64 2147483647).toNat = (a % 2147483648).toNat := by
    rw [BitVec.toNat_and, BitVec.toNat_ofInt, BitVec.toNat_ofInt]
    have h : ((2147483647 : Int) % ((2 ^ 64 : Nat) : Int)).toNat = 2 ^ 31 - 1 := by decide
    rw [h, Nat.and_two_pow_sub_one_eq_mod]
    omega
  have e2 : Go.bits .and .i64 a 2147483647 = IntKind.i64.wrap ((BitVec.ofInt 64 a &&& BitVec.ofInt 64 2147483647).toNat : Int) := rfl
  rw [e2, e, wraps_i64 _ (by omega) (by omega)]
  omega
theorem or31 (v h : Int) (h0 : 0 ≤ v) (h1 : v ≤ 1073741824) (h2 : 0 ≤ h) (h3 : h < 2147483648) : Go.bits .or .i64 (wrap64 (v * 2147483648)) h = v * 2147483648 + h := by
  have e : wrap64 (v * 2147483648) = v * 2147483648 := by unfold wrap64; omega
  rw [e]
  exact bits_join .i64 63 (by decide) wraps_i64 31 _ _ (by omega) (by omega) (by omega) h2 (by omega) (by omega)
theorem or16 (g p : Int) (h0 : 0 ≤ g) (h1 : g ≤ 16383) (h2 : 0 ≤ p) (h3 : p ≤ 65534) : Go.bits .or .i64 (wrap64 (g * 65536)) (wrap64 (p + 1)) = g * 65536 + p + 1 := by
  have e : wrap64 (g * 65536) = g * 65536 := by unfold wrap64; omega
  have e2 : wrap64 (p + 1) = p + 1 := by unfold wrap64; omega
  rw [e, e2, bits_join .i64 63 (by decide) wraps_i64 16 _ _ (by omega) (by omega) (by omega) (by omega) (by omega) (by omega)]
  omega
theorem within_eq (a b : Int) : tag_within.f a b = some (decide (0 ≤ a ∧ a ≤ b)) := by
  unfold tag_within.f
  by_cases h : a ≥ 0
  · rw [if_pos h]; congr 1; simp; omega
  · rw [if_neg h]; congr 1; simp; omega
/-- is a number a handle? -/
def hr (h : Int) : Bool := decide (0 < h ∧ h < 1073741824 ∧ h % 65536 ≠ 0)
theorem hr_iff (h : Int) : hr h = true ↔ (0 < h ∧ h < 1073741824 ∧ h % 65536 ≠ 0) := by simp [hr]
theorem right_eq (h : Int) : tag_Right.f h = some (hr h) := by
  unfold tag_Right.f hr
  rw [within_eq]
  simp only [Option.bind_some, and16]
  by_cases c : 0 ≤ h / 65536 ∧ h / 65536 ≤ 16383
  · rw [if_pos (by simpa using c)]
    congr 1
    by_cases c2 : h % 65536 = 0
    · simp [c2]
    · have e : (h % 65536 != 0) = true := by simpa using c2
      rw [e]; symm; simp only [decide_eq_true_eq]; omega
  · rw [if_neg (by simpa using c)]
    congr 1; symm; simp only [decide_eq_false_iff_not]; omega
theorem word_eq (h v : Int) : tag_Word.f h v = some (if (h = 0 ∨ hr h = true) ∧ 0 ≤ v ∧ v ≤ 1073741824 then v * 2147483648 + h else -1) := by
  unfold tag_Word.f
  by_cases h0 : h = 0
  · rw [if_pos h0, within_eq]
    simp only [Option.bind_some]
    by_cases hv : 0 ≤ v ∧ v ≤ 1073741824
    · rw [if_pos (by simpa using hv), if_pos ⟨Or.inl h0, hv⟩, or31 v h hv.1 hv.2 (by omega) (by omega)]
    · rw [if_neg (by simpa using hv), if_neg (fun c => hv c.2)]
  · rw [if_neg h0, right_eq]
    simp only [Option.bind_some]
    by_cases hh : hr h = true
    · have hh' := (hr_iff h).1 hh
      rw [if_pos hh, within_eq]
      simp only [Option.bind_some]
      by_cases hv : 0 ≤ v ∧ v ≤ 1073741824
      · rw [if_pos (by simpa using hv), if_pos ⟨Or.inr hh, hv⟩, or31 v h hv.1 hv.2 (by omega) (by omega)]
      · rw [if_neg (by simpa using hv), if_neg (fun c => hv c.2)]
    · rw [if_neg hh, if_neg (fun c => c.1.elim h0 hh)]
theorem handle_eq (p g : Int) : tag_Handle.f p g = some (if (0 ≤ p ∧ p ≤ 65534) ∧ 0 ≤ g ∧ g ≤ 16383 then g * 65536 + p + 1 else 0) := by
  unfold tag_Handle.f
  rw [within_eq]
  simp only [Option.bind_some]
  by_cases hp : 0 ≤ p ∧ p ≤ 65534
  · rw [if_pos (by simpa using hp), within_eq]
    simp only [Option.bind_some]
    by_cases hg : 0 ≤ g ∧ g ≤ 16383
    · rw [if_pos (by simpa using hg), if_pos ⟨hp, hg⟩, or16 g p hg.1 hg.2 hp.1 hp.2]
    · rw [if_neg (by simpa using hg), if_neg (fun c => hg c.2)]
  · rw [if_neg (by simpa using hp), if_neg (fun c => hp c.1)]
theorem awake_t : rundlelaw11_awake.f = some true := by
  unfold rundlelaw11_awake.f
  rw [handle_eq]
  simp only [Option.bind_some, word_eq]
  decide

theorem place_eq (h : Int) : tag_Place.f h = some (if hr h = true then h % 65536 - 1 else -1) := by
  unfold tag_Place.f
  rw [right_eq]
  simp only [Option.bind_some, and16]
  by_cases c : hr h = true
  · rw [if_pos c, if_pos c]; congr 1; unfold wrap64; omega
  · rw [if_neg c, if_neg c]
theorem gen_eq (h : Int) : tag_Gen.f h = some (if hr h = true then h / 65536 else -1) := by
  unfold tag_Gen.f
  rw [right_eq]
  simp only [Option.bind_some]
  by_cases c : hr h = true
  · rw [if_pos c, if_pos c]
  · rw [if_neg c, if_neg c]

theorem ref_handle (p g : Int) : rundleref11_Handle.f p g = some (if (0 ≤ p ∧ p ≤ 65534) ∧ 0 ≤ g ∧ g ≤ 16383 then g * 65536 + p + 1 else 0) := by
  unfold rundleref11_Handle.f
  by_cases c1 : p < 0
  · rw [if_pos c1, if_neg (fun c => by omega)]
  · rw [if_neg c1]
    by_cases c2 : p > 65534
    · rw [if_pos c2, if_neg (fun c => by omega)]
    · rw [if_neg c2]
      by_cases c3 : g < 0
      · rw [if_pos c3, if_neg (fun c => by omega)]
      · rw [if_neg c3]
        by_cases c4 : g > 16383
        · rw [if_pos c4, if_neg (fun c => by omega)]
        · rw [if_neg c4, if_pos (by omega)]
          congr 1
          unfold wrap64
          omega
theorem ref_right (h : Int) : rundleref11_Right.f h = some (hr h) := by
  unfold rundleref11_Right.f hr
  by_cases c1 : h > 0
  · rw [if_pos c1]
    by_cases c2 : h < 1073741824
    · rw [if_pos c2, Int.tmod_eq_emod_of_nonneg (by omega)]
      congr 1
      rw [Bool.eq_iff_iff]
      simp only [decide_eq_true_eq]
      omega
    · rw [if_neg c2]; congr 1; symm; simp only [decide_eq_false_iff_not]; omega
  · rw [if_neg c1]; congr 1; symm; simp only [decide_eq_false_iff_not]; omega
theorem TagHandles : rundlelaw11_TagHandles.Pure := by
  intro p g h _ _ _
  refine ⟨1, ?_⟩
  unfold rundlelaw11_TagHandles.f
  simp only [awake_t, handle_eq, ref_handle, right_eq, ref_right, Option.bind_some, if_true, bne_self_eq_false, Bool.false_eq_true, if_false]
  unfold rundlelaw11_TagHandles.j0
  simp only [ref_right, place_eq, gen_eq, Option.bind_some, Bool.false_eq_true, if_false]
  by_cases c : hr h = true
  · have c' := (hr_iff h).1 c
    simp only [c, if_true]
    rw [Int.tmod_eq_emod_of_nonneg (by omega), Int.tdiv_eq_ediv_of_nonneg (by omega)]
    have e1 : wrap64 (h % 65536 - 1) = h % 65536 - 1 := by unfold wrap64; omega
    have e2 : wrap64 (h / 65536) = h / 65536 := by unfold wrap64; omega
    rw [e1, e2, if_pos rfl]
    simp
  · simp [c]

end Go.Proofs.Ytnnkckijpikhlaa.Pure
