/- TagBack: what was put together is taken apart as it was; for all places, generations and versions. -/
import Derived.Test.YtnnkckijpikhlaaPTagBackx1
import Derived.Laws.BitsLemmas
import Derived.Laws.BitsAllLaws
namespace Go.Proofs.Ytnnkckijpikhlaa.Pure
open Go.RowKit Go.Proofs.Ytnnkckijpikhlaa.PTagBack Go.Proofs.YtnnkckijpikhlaaW.PrintWords Go.Proofs.YtnnkckijpikhlaaW.PrintLast
set_option linter.unusedVariables false

theorem i64_of {a : Int} (h : (Lit.int .i64 a).wf = true) : -9223372036854775808 ≤ a ∧ a ≤ 9223372036854775807 := by
  simpa [Lit.wf, IntKind.min, IntKind.max, IntKind.signed, IntKind.bits] using h
theorem wraps_i64 (n : Int) (h₀ : 0 ≤ n) (h₁ : n < 2 ^ 63) : IntKind.i64.wrap n = n := by rw [IntKind.wrap_i64]; omega
theorem and16 (a : Int) : Go.bits .and .i64 a 65535 = a % 65536 := by
  have e : (BitVec.ofInt 64 a &&& BitVec.ofInt 64 65535).toNat = (a % 65536).toNat := by
    rw [BitVec.toNat_and, BitVec.toNat_ofInt, BitVec.toNat_ofInt]
    have h : ((65535 : Int) % ((2 ^ 64 : Nat) : Int)).toNat = 2 ^ 16 - 1 := by decide
    rw [h, Nat.and_two_pow_sub_one_eq_mod]
    omega
  have e2 : Go.bits .and .i64 a 65535 = IntKind.i64.wrap ((BitVec.ofInt 64 a &&& BitVec.ofInt 64 65535).toNat : Int) := rfl
  rw [e2, e, wraps_i64 _ (by omega) (by omega)]
  omega
theorem and31 (a : Int) : Go.bits .and .i64 a 2147483647 = a % 2147483648 := by
  have e : (BitVec.ofInt 64 a &&& BitVec.ofInt 64 2147483647).toNat = (a % 2147483648).toNat := by
    rw [BitVec.toNat_and, BitVec.toNat_ofInt, BitVec.toNat_ofInt]
    have h : ((2147483647 : Int) % ((2 ^ 64 : Nat) : Int)).toNat = 2 ^ 31 - 1 := by decide
    rw [h, Nat.and_two_pow_sub_one_eq_mod]
    omega
  have e2 : Go.bits .and .i64 a 2147483647 = IntKind.i64.wrap ((BitVec.ofInt 64 a &&& BitVec.ofInt 64 2147483647).toNat : Int) := rfl
  rw [e2, e, wraps_i64 _ (by omega) (by omega)]
  omega
theorem or31 (v h : Int) (h0 : 0 ≤ v) (h1 : v ≤ 1073741824) (h2 : 0 ≤ h) (h3 : h < 2147483648) : Go.bits .or .i64 (wrap64 (v * 2147483648)) h = v * 2147483648 + h := by
  have e : wrap64 (v * 2147483648) = v * 2147483648 := by unfold wrap64; omega
  rw [e]
  exact bits_join .i64 63 (by decide) wraps_i64 31 _ _ (by omega) (by omega) (by omega) h2 (by omega) (by omega)
theorem or16 (g p : Int) (h0 : 0 ≤ g) (h1 : g ≤ 16383) (h2 : 0 ≤ p) (h3 : p ≤ 65534) : Go.bits .or .i64 (wrap64 (g * 65536)) (wrap64 (p + 1)) = g * 65536 + p + 1 := by
  have e : wrap64 (g * 65536) = g * 65536 := by unfold wrap64; omega
  have e2 : wrap64 (p + 1) = p + 1 := by unfold wrap64; omega
  rw [e, e2, bits_join .i64 63 (by decide) wraps_i64 16 _ _ (by omega) (by omega) (by omega) (by omega) (by omega) (by omega)]
  omega
theorem within_eq (a b : Int) : tag_within.f a b = some (decide (0 ≤ a ∧ a ≤ b)) := by
  unfold tag_within.f
  by_cases h : a ≥ 0
  · rw [if_pos h]; congr 1; simp; omega
  · rw [if_neg h]; congr 1; simp; omega
/-- is a number a handle? -/
def hr (h : Int) : Bool := decide (0 < h ∧ h < 1073741824 ∧ h % 65536 ≠ 0)
theorem hr_iff (h : Int) : hr h = true ↔ (0 < h ∧ h < 1073741824 ∧ h % 65536 ≠ 0) := by simp [hr]
theorem right_eq (h : Int) : tag_Right.f h = some (hr h) := by
  unfold tag_Right.f hr
  rw [within_eq]
  simp only [Option.bind_some, and16]
  by_cases c : 0 ≤ h / 65536 ∧ h / 65536 ≤ 16383
  · rw [if_pos (by simpa using c)]
    congr 1
    by_cases c2 : h % 65536 = 0
    · simp [c2]
    · have e : (h % 65536 != 0) = true := by simpa using c2
      rw [e]; symm; simp only [decide_eq_true_eq]; omega
  · rw [if_neg (by simpa using c)]
    congr 1; symm; simp only [decide_eq_false_iff_not]; omega
theorem word_eq (h v : Int) : tag_Word.f h v = some (if (h = 0 ∨ hr h = true) ∧ 0 ≤ v ∧ v ≤ 1073741824 then v * 2147483648 + h else -1) := by
  unfold tag_Word.f
  by_cases h0 : h = 0
  · rw [if_pos h0, within_eq]
    simp only [Option.bind_some]
    by_cases hv : 0 ≤ v ∧ v ≤ 1073741824
    · rw [if_pos (by simpa using hv), if_pos ⟨Or.inl h0, hv⟩, or31 v h hv.1 hv.2 (by omega) (by omega)]
    · rw [if_neg (by simpa using hv), if_neg (fun c => hv c.2)]
  · rw [if_neg h0, right_eq]
    simp only [Option.bind_some]
    by_cases hh : hr h = true
    · have hh' := (hr_iff h).1 hh
      rw [if_pos hh, within_eq]
      simp only [Option.bind_some]
      by_cases hv : 0 ≤ v ∧ v ≤ 1073741824
      · rw [if_pos (by simpa using hv), if_pos ⟨Or.inr hh, hv⟩, or31 v h hv.1 hv.2 (by omega) (by omega)]
      · rw [if_neg (by simpa using hv), if_neg (fun c => hv c.2)]
    · rw [if_neg hh, if_neg (fun c => c.1.elim h0 hh)]
theorem handle_eq (p g : Int) : tag_Handle.f p g = some (if (0 ≤ p ∧ p ≤ 65534) ∧ 0 ≤ g ∧ g ≤ 16383 then g * 65536 + p + 1 else 0) := by
  unfold tag_Handle.f
  rw [within_eq]
  simp only [Option.bind_some]
  by_cases hp : 0 ≤ p ∧ p ≤ 65534
  · rw [if_pos (by simpa using hp), within_eq]
    simp only [Option.bind_some]
    by_cases hg : 0 ≤ g ∧ g ≤ 16383
    · rw [if_pos (by simpa using hg), if_pos ⟨hp, hg⟩, or16 g p hg.1 hg.2 hp.1 hp.2]
    · rw [if_neg (by simpa using hg), if_neg (fun c => hg c.2)]
  · rw [if_neg (by simpa using hp), if_neg (fun c => hp c.1)]
theorem awake_t : rundlelaw11_awake.f = some true := by
  unfold rundlelaw11_awake.f
  rw [handle_eq]
  simp only [Option.bind_some, word_eq]
  decide

theorem place_eq (h : Int) : tag_Place.f h = some (if hr h = true then h % 65536 - 1 else -1) := by
  unfold tag_Place.f
  rw [right_eq]
  simp only [Option.bind_some, and16]
  by_cases c : hr h = true
  · rw [if_pos c, if_pos c]; congr 1; unfold wrap64; omega
  · rw [if_neg c, if_neg c]
theorem gen_eq (h : Int) : tag_Gen.f h = some (if hr h = true then h / 65536 else -1) := by
  unfold tag_Gen.f
  rw [right_eq]
  simp only [Option.bind_some]
  by_cases c : hr h = true
  · rw [if_pos c, if_pos c]
  · rw [if_neg c, if_neg c]

theorem stamp_eq (w : Int) : tag_Stamp.f w = some (if (0 ≤ w / 2147483648 ∧ w / 2147483648 ≤ 1073741824) ∧ (w % 2147483648 = 0 ∨ hr (w % 2147483648) = true) then w / 2147483648 else -1) := by
  unfold tag_Stamp.f
  rw [within_eq]
  simp only [Option.bind_some, and31]
  by_cases c : 0 ≤ w / 2147483648 ∧ w / 2147483648 ≤ 1073741824
  · rw [if_pos (by simpa using c)]
    by_cases c2 : w % 2147483648 = 0
    · rw [if_pos c2, if_pos ⟨c, Or.inl c2⟩]
    · rw [if_neg c2, right_eq]
      simp only [Option.bind_some]
      by_cases c3 : hr (w % 2147483648) = true
      · rw [if_pos c3, if_pos ⟨c, Or.inr c3⟩]
      · rw [if_neg c3, if_neg (fun d => d.2.elim c2 c3)]
  · rw [if_neg (by simpa using c), if_neg (fun d => c d.1)]
theorem to_eq (w : Int) : tag_To.f w = some (if 0 ≤ w ∧ hr (w % 2147483648) = true then w % 2147483648 else 0) := by
  unfold tag_To.f
  by_cases c : w < 0
  · rw [if_pos c, if_neg (fun d => by omega)]
  · rw [if_neg c]
    simp only [and31, right_eq, Option.bind_some]
    by_cases c3 : hr (w % 2147483648) = true
    · rw [if_pos c3, if_pos ⟨by omega, c3⟩]
    · rw [if_neg c3, if_neg (fun d => c3 d.2)]

theorem TagBack : rundlelaw11_TagBack.Pure := by
  intro a0 a1 a2 h0 h1 h2
  have b0 : 0 ≤ a0 ∧ a0 ≤ 65535 := by simpa [Lit.wf, IntKind.min, IntKind.max, IntKind.signed, IntKind.bits] using h0
  have b1 : 0 ≤ a1 ∧ a1 ≤ 65535 := by simpa [Lit.wf, IntKind.min, IntKind.max, IntKind.signed, IntKind.bits] using h1
  have b2 : 0 ≤ a2 ∧ a2 ≤ 4294967295 := by simpa [Lit.wf, IntKind.min, IntKind.max, IntKind.signed, IntKind.bits] using h2
  have e0 : wrap64 a0 = a0 := by unfold wrap64; omega
  have e1 : wrap64 a1 = a1 := by unfold wrap64; omega
  have e2 : wrap64 a2 = a2 := by unfold wrap64; omega
  unfold rundlelaw11_TagBack.f
  rw [e0, e1, e2, Int.tmod_eq_emod_of_nonneg b0.1, Int.tmod_eq_emod_of_nonneg b1.1, Int.tmod_eq_emod_of_nonneg b2.1]
  have p0 : 0 ≤ a0 % 65535 ∧ a0 % 65535 ≤ 65534 := by omega
  have g0 : 0 ≤ a1 % 16384 ∧ a1 % 16384 ≤ 16383 := by omega
  have v0 : 0 ≤ a2 % 1073741825 ∧ a2 % 1073741825 ≤ 1073741824 := by omega
  generalize a0 % 65535 = p at *
  generalize a1 % 16384 = g at *
  generalize a2 % 1073741825 = v at *
  have H : hr (g * 65536 + p + 1) = true := (hr_iff _).2 (by omega)
  have w1 : (v * 2147483648 + (g * 65536 + p + 1)) % 2147483648 = g * 65536 + p + 1 := by omega
  have w2 : (v * 2147483648 + (g * 65536 + p + 1)) / 2147483648 = v := by omega
  have z1 : (v * 2147483648 + 0) % 2147483648 = 0 := by omega
  have z2 : (v * 2147483648 + 0) / 2147483648 = v := by omega
  have z3 : hr 0 = false := by decide
  rw [awake_t, handle_eq, if_pos ⟨p0, g0⟩]
  simp only [Option.bind_some, if_true]
  rw [word_eq, word_eq, if_pos ⟨Or.inr H, v0⟩, if_pos ⟨Or.inl rfl, v0⟩]
  simp only [Option.bind_some, right_eq, place_eq, gen_eq, to_eq, stamp_eq, H, if_true, w1, w2, z1, z2, z3]
  have p1 : (g * 65536 + p + 1) % 65536 - 1 = p := by omega
  have g1 : (g * 65536 + p + 1) / 65536 = g := by omega
  simp only [p1, g1, if_true, v0, and_true, Bool.false_eq_true, or_false, and_false, if_false, or_true]
  have w3 : v * 2147483648 < v * 2147483648 + (g * 65536 + p + 1) := by omega
  have w4 : ¬ v * 2147483648 + (g * 65536 + p + 1) < 0 := by omega
  simp [w3, w4]

end Go.Proofs.Ytnnkckijpikhlaa.Pure
