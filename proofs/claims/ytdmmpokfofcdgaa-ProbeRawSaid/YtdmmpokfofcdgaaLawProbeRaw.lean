/- The row of the law ProbeRaw: its contract, read at every start that fits. -/
import Derived.Test.YtdmmpokfofcdgaaRows
import Derived.Test.YtdmmpokfofcdgaaRs
import Derived.Test.YtdmmpokfofcdgaaPProbeRawx2
import Derived.Test.YtdmmpokfofcdgaaPureProbeRaw
import Derived.WalkKit
import Derived.ProofKit
import Derived.OpenShut
import Derived.ShutString
import Derived.ChangeOld
import Derived.Below
import Derived.SizedLaws
namespace Go.Proofs.Ytdmmpokfofcdgaa.probeRaw
open Go.ChangeShapes Go.WideShapes Go.ChangeAt Go.RowKit
open Go.ChangeMaps (open_string shut_string)
open Go.Proofs.YtdmmpokfofcdgaaW.PrintWords
set_option linter.unusedVariables false
theorem own : ownKnob Try.prog.godebug = none := by kernel_rfl
theorem laidOut : laidOutB Try.prog = true := by kernel_rfl
set_option maxRecDepth 100000 in
theorem lifted (os : Os) (started : os.Started) (H : Type) (enc : TypeId × Value → H) :
    ReturnsInHanded {} Try.checked os 12 .any (Rows.probeRawSpec.pre6 enc Try.prog Try.f12 Rows.probeRawRow.domain false) (Rows.probeRawSpec.post enc Try.prog Try.f12 false true false false) := by
  refine returnsInHanded_of_change_sized (C := Try.checked) own started (by kernel_rfl) Try.func12
    (ChangeSpec.witness6 (enc := enc) (C := Try.checked) false ⟨#[], #[.slice none 0 0, .slice none 0 0, .string ByteArray.empty], []⟩ 8 (by kernel_rfl) (by kernel_rfl) (by kernel_rfl) (by kernel_rfl)) ?_
  intro W base args ds gs before hval0 hW hcnd hsz0 _
  have hsz : (DataW.weightsEach Try.prog (Try.f12.params.toList ++ Rows.probeRawSpec.plain.varTypes Try.prog) (ds ++ gs)).all (· ≤ reachBytes) = true := hsz0
  have hval : ∀ (j : Nat) t v, Try.f12.params[j]? = some t → args[j]? = some v → Value.okWide Try.prog W .any base t v := hval0
  have hW' := hW
  obtain ⟨p, q, hA0, hV, rfl, hfz, hnd⟩ := hW
  have hA : DataW.TrodAll enc Try.prog W 0 (fun _ => true) true Try.f12.params.toList args.toList ds p := hA0
  rw [Try.params12] at hA hval hsz
  obtain ⟨v0, vs0, d0, ds0, p0, q0, hargs, rfl, rfl, h0, r0⟩ := trodAll_cons hA
  obtain ⟨v1, vs1, d1, ds1, p1, q1, rfl, rfl, rfl, h1, r1⟩ := trodAll_cons r0
  obtain ⟨v2, vs2, d2, ds2, p2, q2, rfl, rfl, rfl, h2, r2⟩ := trodAll_cons r1
  obtain ⟨rfl, rfl, rfl⟩ := trodAll_nil r2
  obtain rfl : args = #[v0, v1, v2] := by cases args; simp_all
  obtain ⟨rfl, rfl⟩ := trodVars_none hV
  obtain ⟨A0, len0, c0, rfl⟩ := okWide_slice Try.underlying48 (hval 0 48 v0 rfl rfl)
  have k0 := h0
  have lt0 : ∀ x ∈ p0, x.block < W.heap.size := by obtain ⟨m, hm⟩ := k0; exact DataW.trod_lt m _ _ _ hm
  obtain ⟨l0, rfl, le0, m0, rr0, x0⟩ : ∃ l : List Int, len0 = l.length ∧ l.length ≤ c0 ∧ c0 ≤ maxLen ∧ Kd.C (Kd.int .i64) W A0 l.length l ∧ ∀ x ∈ l, (fun n => (Lit.int .i64 n).wf = true) x := by
    obtain ⟨fuel, hf⟩ := h0
    obtain ⟨A, c, l, e, g1, g2, g3, g4⟩ := Rs.row_of Try.underlying48 (by kernel_rfl) (Rs.opens_int Try.underlying3) hf
    simp [Value.cells] at e
    obtain ⟨rfl, rfl, rfl⟩ := e
    exact ⟨l, rfl, g1, g2, g3, g4⟩
  obtain ⟨A1, len1, c1, rfl⟩ := okWide_slice Try.underlying46 (hval 1 46 v1 rfl rfl)
  have k1 := h1
  have lt1 : ∀ x ∈ p1, x.block < W.heap.size := by obtain ⟨m, hm⟩ := k1; exact DataW.trod_lt m _ _ _ hm
  obtain ⟨l1, rfl, le1, m1, rr1, x1⟩ : ∃ l : List ByteArray, len1 = l.length ∧ l.length ≤ c1 ∧ c1 ≤ maxLen ∧ Kd.C Kd.string W A1 l.length l ∧ ∀ x ∈ l, (fun s => s.size ≤ maxLen) x := by
    obtain ⟨fuel, hf⟩ := h1
    obtain ⟨A, c, l, e, g1, g2, g3, g4⟩ := Rs.row_of Try.underlying46 (by kernel_rfl) (Rs.opens_string Try.underlying9) hf
    simp [Value.cells] at e
    obtain ⟨rfl, rfl, rfl⟩ := e
    exact ⟨l, rfl, g1, g2, g3, g4⟩
  obtain ⟨a2, rfl, rfl, rfl, y2⟩ := open_string Try.underlying9 (hval 2 9 v2 rfl rfl) h2
  have w2 : a2.size ≤ 140737488351232 := by
    have z := sized_string hsz (j := 2) (t := 9) rfl rfl
    rw [Array.length_toList] at z
    exact z
  clear hA0 hval0 hsz0 hsz
  refine (let hb : (l1.length : Int) ≤ 9223372036854775807 := by (unfold maxLen at m1; omega)
    let hk := (Pure.ProbeRaw l0 l1 a2 hb)
    (PProbeRaw.rundlelaw06_ProbeRaw.calls hk.choose A0 c0 l0 A1 c1 l1 a2 true W rr0 le0 rr1 le1 hk.choose_spec)).mono fun e W' ⟨he, bel⟩ => ?_
  subst he
  exact ⟨_, rfl, _, _, _, [], _, [], hW', trodAll_mk1 (shut_bool Try.underlying4 _), (trodAll_cons_mk (Below.trod laidOut (by kernel_rfl) (of_decide_eq_true (by kernel_rfl)) k0 bel lt0) (trodAll_cons_mk (Below.trod laidOut (by kernel_rfl) (of_decide_eq_true (by kernel_rfl)) k1 bel lt1) (trodAll_cons_mk (shut_string Try.underlying9 y2) trodAll_mk0))), rfl, bel.frame _, fun h => by cases h⟩
theorem over : Rows.probeRawRow.holds Try.pinned (OpenSpec.ofChange Rows.probeRawSpec) :=
  OpenClaim.holds_of_wide 12 Try.f12 rfl rfl rfl rfl rfl rfl rfl ⟨rfl, rfl, rfl, rfl, rfl⟩ rfl rfl rfl rfl rfl (by kernel_rfl) Try.func12 (by kernel_rfl)
    (of_decide_eq_true (by kernel_rfl)) (by unfold Func.isWrapper; first | (rw [if_pos (by decide +kernel)]; kernel_rfl) | (rw [if_neg (by decide +kernel)]; exact ⟨rfl, rfl⟩))
    (fun os started H enc _ => lifted os started H enc)
theorem proved : Rows.ProbeRawSaid := over
#print axioms proved
end Go.Proofs.Ytdmmpokfofcdgaa.probeRaw
namespace Go.Proofs.Ytdmmpokfofcdgaa
/-- The row, under a short name, for the claim. -/
theorem probeRaw_holds : Rows.ProbeRawSaid := probeRaw.proved
end Go.Proofs.Ytdmmpokfofcdgaa
