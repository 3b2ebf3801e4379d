/- What an argument's reading gives as nodes of chapter 18. Plain. -/
import Derived.Test.YtoaacdjcjicemaaRs
import Derived.Test.YtoaacdjcjicemaaPPlanRelinksx0
namespace Go.Proofs.Ytoaacdjcjicemaa.EntPlanRelinks
open Go.RowKit Go.ChangeShapes Go.WideShapes Go.Proofs.YtoaacdjcjicemaaW.PrintWords Go.Proofs.Ytoaacdjcjicemaa.PPlanRelinks
set_option linter.unusedVariables false
set_option linter.unusedSimpArgs false
def U8s (x : S108) : Prop := (Lit.int .u8 x.f0).wf = true ∧ (Lit.int .u8 x.f1).wf = true ∧ (Lit.int .u8 x.f2).wf = true ∧ (Lit.int .u8 x.f3).wf = true
theorem u8_in {n : Int} (h : (Lit.int .u8 n).wf = true) : 0 ≤ n ∧ n ≤ 255 := by simpa [Lit.wf, IntKind.min, IntKind.max, IntKind.signed, IntKind.bits] using h
theorem u32_in {n : Int} (h : (Lit.int .u32 n).wf = true) : 0 ≤ n ∧ n ≤ 4294967295 := by simpa [Lit.wf, IntKind.min, IntKind.max, IntKind.signed, IntKind.bits] using h
set_option maxRecDepth 100000 in
theorem opens_spec {H : Type} {enc : TypeId × Value → H} {w : World} {base : Nat} {spare : Nat → Bool} {held : Bool} : Rs.Opens enc Try.prog w base spare held 108 k108 U8s := by
  intro fuel cs y h
  have ht := Try.underlying108
  obtain ⟨xs, n, _, _, hl, hlen, hf⟩ := DataW.trod_struct ht h
  have hl6 : cs.length = 6 := hl.trans (by kernel_rfl)
  match cs, hl6 with
  | [x0, x1, x2, x3, x4, x5], _ =>
    have k1 : Try.prog.cellsOf 5 = 1 := by kernel_rfl
    have k3 : Try.prog.cellsOf 4 = 1 := by kernel_rfl
    match xs, hlen with
    | [y0, y1, y2, y3, y4, y5], _ =>
      have f0 := hf 0 _ rfl
      have f1 := hf 1 _ rfl
      have f2 := hf 2 _ rfl
      have f3 := hf 3 _ rfl
      have f4 := hf 4 _ rfl
      have f5 := hf 5 _ rfl
      simp only [k1, k3, List.drop_succ_cons, List.drop_zero, List.take_succ_cons, List.take_zero, List.getElem?_cons_zero, List.getElem?_cons_succ] at f0 f1 f2 f3 f4 f5
      obtain ⟨a0, e0, _, g0⟩ := DataW.trod_int Try.underlying5 f0
      obtain ⟨a1, e1, _, g1⟩ := DataW.trod_int Try.underlying5 f1
      obtain ⟨a2, e2, _, g2⟩ := DataW.trod_int Try.underlying5 f2
      obtain ⟨a3, e3, _, g3⟩ := DataW.trod_int Try.underlying5 f3
      obtain ⟨a4, e4, _⟩ := DataW.trod_bool Try.underlying4 f4
      obtain ⟨a5, e5, _⟩ := DataW.trod_bool Try.underlying4 f5
      injection e0 with e0
      injection e1 with e1
      injection e2 with e2
      injection e3 with e3
      injection e4 with e4
      injection e5 with e5
      subst e0 e1 e2 e3 e4 e5
      exact ⟨⟨a0, a1, a2, a3, a4, a5⟩, k108_mk _ ⟨a0, a1, a2, a3, a4, a5⟩, g0, g1, g2, g3⟩
end Go.Proofs.Ytoaacdjcjicemaa.EntPlanRelinks
