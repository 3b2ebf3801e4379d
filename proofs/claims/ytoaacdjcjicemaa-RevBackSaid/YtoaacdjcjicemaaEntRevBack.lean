/- What an argument's reading gives as entries of chapter 8. Plain. -/
import Derived.Test.YtoaacdjcjicemaaRs
import Derived.Test.YtoaacdjcjicemaaPRevBackx0
namespace Go.Proofs.Ytoaacdjcjicemaa.EntRevBack
open Go.RowKit Go.ChangeShapes Go.WideShapes Go.Proofs.YtoaacdjcjicemaaW.PrintWords Go.Proofs.Ytoaacdjcjicemaa.PRevBack
set_option linter.unusedVariables false
set_option linter.unusedSimpArgs false
set_option maxRecDepth 100000 in
theorem opens_ent {H : Type} {enc : TypeId × Value → H} {w : World} {base : Nat} {spare : Nat → Bool} {held : Bool} : Rs.Opens enc Try.prog w base spare held 62 k62 (fun _ => True) := by
  intro fuel cs y h
  have ht := Try.underlying62
  obtain ⟨xs, n, _, _, hl, hlen, hf⟩ := DataW.trod_struct ht h
  have hl3 : cs.length = 3 := hl.trans (by kernel_rfl)
  match cs, hl3 with
  | [x0, x1, x2], _ =>
    have k1 : Try.prog.cellsOf 9 = 1 := by kernel_rfl
    have k3 : Try.prog.cellsOf 4 = 1 := by kernel_rfl
    match xs, hlen with
    | [y0, y1, y2], _ =>
      have f0 := hf 0 _ rfl
      have f1 := hf 1 _ rfl
      have f2 := hf 2 _ rfl
      simp only [k1, k3, List.drop_succ_cons, List.drop_zero, List.take_succ_cons, List.take_zero, List.getElem?_cons_zero, List.getElem?_cons_succ] at f0 f1 f2
      obtain ⟨a0, e0, _⟩ := DataW.trod_string Try.underlying9 f0
      obtain ⟨a1, e1, _⟩ := DataW.trod_string Try.underlying9 f1
      obtain ⟨a2, e2, _⟩ := DataW.trod_bool Try.underlying4 f2
      injection e0 with e0
      injection e1 with e1
      injection e2 with e2
      subst e0 e1 e2
      exact ⟨⟨a0, a1, a2⟩, k62_mk _ ⟨a0, a1, a2⟩, trivial⟩
end Go.Proofs.Ytoaacdjcjicemaa.EntRevBack
