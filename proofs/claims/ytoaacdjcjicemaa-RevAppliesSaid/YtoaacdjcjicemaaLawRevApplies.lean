/- The row of the law RevApplies: its contract, read at every start that fits. -/
import Derived.Test.YtoaacdjcjicemaaRows
import Derived.Test.YtoaacdjcjicemaaRs
import Derived.Test.YtoaacdjcjicemaaRevAppliesW
import Derived.Test.YtoaacdjcjicemaaEntRevApplies
import Derived.WalkKit
import Derived.Lib.SmallJoins
import Derived.ProofKit
import Derived.OpenShut
import Derived.ShutString
import Derived.ChangeOld
import Derived.Below
import Derived.SizedLaws
namespace Go.Proofs.Ytoaacdjcjicemaa.revApplies
open Go.ChangeShapes Go.WideShapes Go.ChangeAt Go.RowKit
open Go.ChangeMaps (open_string shut_string)
open Go.Proofs.YtoaacdjcjicemaaW.PrintWords
set_option linter.unusedVariables false
theorem own : ownKnob Try.prog.godebug = none := by kernel_rfl
theorem laidOut : laidOutB Try.prog = true := by kernel_rfl
set_option maxRecDepth 100000 in
theorem lifted (os : Os) (started : os.Started) (H : Type) (enc : TypeId × Value → H) :
    ReturnsInHanded {} Try.checked os 3 .any (Rows.revAppliesSpec.pre6 enc Try.prog Try.f3 Rows.revAppliesRow.domain false) (Rows.revAppliesSpec.post enc Try.prog Try.f3 false true false false) := by
  refine returnsInHanded_of_change_sized (C := Try.checked) own started (by kernel_rfl) Try.func3
    (ChangeSpec.witness6 (enc := enc) (C := Try.checked) false ⟨#[], #[.int .i64 0, .int .i64 0, .agg #[.string ByteArray.empty, .string ByteArray.empty, .bool false], .slice none 0 0, .slice none 0 0, .int .i64 0], []⟩ 8 (by kernel_rfl) (by kernel_rfl) (by kernel_rfl) (by kernel_rfl)) ?_
  intro W base args ds gs before hval0 hW hcnd hsz0 _
  have hsz : (DataW.weightsEach Try.prog (Try.f3.params.toList ++ Rows.revAppliesSpec.plain.varTypes Try.prog) (ds ++ gs)).all (· ≤ reachBytes) = true := hsz0
  have hval : ∀ (j : Nat) t v, Try.f3.params[j]? = some t → args[j]? = some v → Value.okWide Try.prog W .any base t v := hval0
  have hW' := hW
  obtain ⟨p, q, hA0, hV, rfl, hfz, hnd⟩ := hW
  have hA : DataW.TrodAll enc Try.prog W 0 (fun _ => true) true Try.f3.params.toList args.toList ds p := hA0
  rw [Try.params3] at hA hval hsz
  obtain ⟨v0, vs0, d0, ds0, p0, q0, hargs, rfl, rfl, h0, r0⟩ := trodAll_cons hA
  obtain ⟨v1, vs1, d1, ds1, p1, q1, rfl, rfl, rfl, h1, r1⟩ := trodAll_cons r0
  obtain ⟨v2, vs2, d2, ds2, p2, q2, rfl, rfl, rfl, h2, r2⟩ := trodAll_cons r1
  obtain ⟨v3, vs3, d3, ds3, p3, q3, rfl, rfl, rfl, h3, r3⟩ := trodAll_cons r2
  obtain ⟨v4, vs4, d4, ds4, p4, q4, rfl, rfl, rfl, h4, r4⟩ := trodAll_cons r3
  obtain ⟨v5, vs5, d5, ds5, p5, q5, rfl, rfl, rfl, h5, r5⟩ := trodAll_cons r4
  obtain ⟨rfl, rfl, rfl⟩ := trodAll_nil r5
  obtain rfl : args = #[v0, v1, v2, v3, v4, v5] := by cases args; simp_all
  obtain ⟨rfl, rfl⟩ := trodVars_none hV
  obtain ⟨a0, rfl, rfl, rfl, w0⟩ := open_int Try.underlying3 (hval 0 3 v0 rfl rfl) h0
  obtain ⟨a1, rfl, rfl, rfl, w1⟩ := open_int Try.underlying3 (hval 1 3 v1 rfl rfl) h1
  have k2 := h2
  have lt2 : ∀ x ∈ p2, x.block < W.heap.size := by obtain ⟨m, hm⟩ := k2; exact DataW.trod_lt m _ _ _ hm
  obtain ⟨b20, b21, b22, y20, y21, y22, n2, rfl, _, _, hy20, hy21, hy22⟩ := Joins.open_agg3 Try.underlying23 (by kernel_rfl) (by kernel_rfl) (hval 2 23 v2 rfl rfl) h2
  obtain ⟨a2_0, e20, _, z2_0⟩ := DataW.trod_string Try.underlying9 hy20
  obtain rfl : b20 = .string a2_0 := by simpa using e20
  obtain ⟨a2_1, e21, _, z2_1⟩ := DataW.trod_string Try.underlying9 hy21
  obtain rfl : b21 = .string a2_1 := by simpa using e21
  obtain ⟨a2_2, e22, _⟩ := DataW.trod_bool Try.underlying4 hy22
  obtain rfl : b22 = .bool a2_2 := by simpa using e22
  obtain ⟨A3, len3, c3, rfl⟩ := okWide_slice Try.underlying24 (hval 3 24 v3 rfl rfl)
  have k3 := h3
  have lt3 : ∀ x ∈ p3, x.block < W.heap.size := by obtain ⟨m, hm⟩ := k3; exact DataW.trod_lt m _ _ _ hm
  obtain ⟨l3, rfl, le3, m3, rr3, x3⟩ : ∃ l : List PRevApplies.S62, len3 = l.length ∧ l.length ≤ c3 ∧ c3 ≤ maxLen ∧ Kd.C PRevApplies.k62 W A3 l.length l ∧ ∀ x ∈ l, (fun _ => True) x := by
    obtain ⟨fuel, hf⟩ := h3
    obtain ⟨A, c, l, e, g1, g2, g3, g4⟩ := Rs.row_of Try.underlying24 (by kernel_rfl) EntRevApplies.opens_ent hf
    simp [Value.cells] at e
    obtain ⟨rfl, rfl, rfl⟩ := e
    exact ⟨l, rfl, g1, g2, g3, g4⟩
  obtain ⟨A4, len4, c4, rfl⟩ := okWide_slice Try.underlying24 (hval 4 24 v4 rfl rfl)
  have k4 := h4
  have lt4 : ∀ x ∈ p4, x.block < W.heap.size := by obtain ⟨m, hm⟩ := k4; exact DataW.trod_lt m _ _ _ hm
  obtain ⟨l4, rfl, le4, m4, rr4, x4⟩ : ∃ l : List PRevApplies.S62, len4 = l.length ∧ l.length ≤ c4 ∧ c4 ≤ maxLen ∧ Kd.C PRevApplies.k62 W A4 l.length l ∧ ∀ x ∈ l, (fun _ => True) x := by
    obtain ⟨fuel, hf⟩ := h4
    obtain ⟨A, c, l, e, g1, g2, g3, g4⟩ := Rs.row_of Try.underlying24 (by kernel_rfl) EntRevApplies.opens_ent hf
    simp [Value.cells] at e
    obtain ⟨rfl, rfl, rfl⟩ := e
    exact ⟨l, rfl, g1, g2, g3, g4⟩
  obtain ⟨a5, rfl, rfl, rfl, w5⟩ := open_int Try.underlying3 (hval 5 3 v5 rfl rfl) h5
  clear hA0 hval0 hsz0 hsz
  refine ((RvRevApplies.RevApplies_walk a0 a1 a2_0 a2_1 a2_2 A3 c3 l3 A4 c4 l4 a5 W rr3 le3 rr4 le4)).mono fun e W' ⟨he, bel⟩ => ?_
  subst he
  exact ⟨_, rfl, _, _, _, [], _, [], hW', trodAll_mk1 (shut_bool Try.underlying4 _), (trodAll_cons_mk (shut_int Try.underlying3 w0) (trodAll_cons_mk (shut_int Try.underlying3 w1) (trodAll_cons_mk (Below.trod laidOut (by kernel_rfl) (of_decide_eq_true (by kernel_rfl)) k2 bel lt2) (trodAll_cons_mk (Below.trod laidOut (by kernel_rfl) (of_decide_eq_true (by kernel_rfl)) k3 bel lt3) (trodAll_cons_mk (Below.trod laidOut (by kernel_rfl) (of_decide_eq_true (by kernel_rfl)) k4 bel lt4) (trodAll_cons_mk (shut_int Try.underlying3 w5) trodAll_mk0)))))), rfl, bel.frame _, fun h => by cases h⟩
theorem over : Rows.revAppliesRow.holds Try.pinned (OpenSpec.ofChange Rows.revAppliesSpec) :=
  OpenClaim.holds_of_wide 3 Try.f3 rfl rfl rfl rfl rfl rfl rfl ⟨rfl, rfl, rfl, rfl, rfl⟩ rfl rfl rfl rfl rfl (by kernel_rfl) Try.func3 (by kernel_rfl)
    (of_decide_eq_true (by kernel_rfl)) (by unfold Func.isWrapper; first | (rw [if_pos (by decide +kernel)]; kernel_rfl) | (rw [if_neg (by decide +kernel)]; exact ⟨rfl, rfl⟩))
    (fun os started H enc _ => lifted os started H enc)
theorem proved : Rows.RevAppliesSaid := over
#print axioms proved
end Go.Proofs.Ytoaacdjcjicemaa.revApplies
namespace Go.Proofs.Ytoaacdjcjicemaa
/-- The row, under a short name, for the claim. -/
theorem revApplies_holds : Rows.RevAppliesSaid := revApplies.proved
end Go.Proofs.Ytoaacdjcjicemaa
