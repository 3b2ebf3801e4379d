/- What an argument's reading gives as asks of chapter 13. Plain. -/
import Derived.Test.YthgbgflpjggpmaaRs
import Derived.Test.YthgbgflpjggpmaaPStepAlonex0
namespace Go.Proofs.Ythgbgflpjggpmaa.EntAsk
open Go.RowKit Go.ChangeShapes Go.WideShapes Go.Proofs.YthgbgflpjggpmaaW.PrintWords Go.Proofs.Ythgbgflpjggpmaa.PStepAlone
set_option linter.unusedVariables false
set_option linter.unusedSimpArgs false
theorem u8_in {n : Int} (h : (Lit.int .u8 n).wf = true) : 0 ≤ n ∧ n ≤ 255 := by simpa [Lit.wf, IntKind.min, IntKind.max, IntKind.signed, IntKind.bits] using h
def Okk (x : S57) : Prop := 0 ≤ x.f0 ∧ x.f0 ≤ 255
theorem okk_rd {l : List S57} (h : ∀ x ∈ l, Okk x) : ∀ i, 0 ≤ i → i < (l.length : Int) → 0 ≤ (rd_T57 l i).f0 ∧ (rd_T57 l i).f0 ≤ 255 := by
  intro i h0 h1
  have hi : i.toNat < l.length := by omega
  unfold rd_T57
  rw [List.getD_eq_getElem?_getD, List.getElem?_eq_getElem hi]
  exact h _ (List.getElem_mem hi)
set_option maxRecDepth 100000 in
theorem opens_ask {H : Type} {enc : TypeId × Value → H} {w : World} {base : Nat} {spare : Nat → Bool} {held : Bool} : Rs.Opens enc Try.prog w base spare held 57 k57 Okk := by
  intro fuel cs y h
  have ht := Try.underlying57
  obtain ⟨xs, n, _, _, hl, hlen, hf⟩ := DataW.trod_struct ht h
  have hl6 : cs.length = 6 := hl.trans (by kernel_rfl)
  match cs, hl6 with
  | [x0, x1, x2, x3, x4, x5], _ =>
    have k1 : Try.prog.cellsOf 5 = 1 := by kernel_rfl
    have k2 : Try.prog.cellsOf 3 = 1 := by kernel_rfl
    have k3 : Try.prog.cellsOf 4 = 1 := by kernel_rfl
    match xs, hlen with
    | [y0, y1, y2, y3, y4, y5], _ =>
      have f0 := hf 0 _ rfl
      have f1 := hf 1 _ rfl
      have f2 := hf 2 _ rfl
      have f3 := hf 3 _ rfl
      have f4 := hf 4 _ rfl
      have f5 := hf 5 _ rfl
      simp only [k1, k2, k3, List.drop_succ_cons, List.drop_zero, List.take_succ_cons, List.take_zero, List.getElem?_cons_zero, List.getElem?_cons_succ] at f0 f1 f2 f3 f4 f5
      obtain ⟨a0, e0, _, w0⟩ := DataW.trod_int Try.underlying5 f0
      obtain ⟨a1, e1, _, w1⟩ := DataW.trod_int Try.underlying3 f1
      obtain ⟨a2, e2, _, w2⟩ := DataW.trod_int Try.underlying3 f2
      obtain ⟨a3, e3, _, w3⟩ := DataW.trod_int Try.underlying3 f3
      obtain ⟨a4, e4, _⟩ := DataW.trod_bool Try.underlying4 f4
      obtain ⟨a5, e5, _⟩ := DataW.trod_bool Try.underlying4 f5
      injection e0 with e0
      injection e1 with e1
      injection e2 with e2
      injection e3 with e3
      injection e4 with e4
      injection e5 with e5
      subst e0 e1 e2 e3 e4 e5
      exact ⟨⟨a0, a1, a2, a3, a4, a5⟩, k57_mk _ ⟨a0, a1, a2, a3, a4, a5⟩, u8_in w0⟩
end Go.Proofs.Ythgbgflpjggpmaa.EntAsk
