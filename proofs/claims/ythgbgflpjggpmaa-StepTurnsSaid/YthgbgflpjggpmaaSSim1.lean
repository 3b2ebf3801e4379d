/- An ask of memory, and of the document's: alike. Plain. -/
import Derived.Test.YthgbgflpjggpmaaSRef0
namespace Go.Proofs.Ythgbgflpjggpmaa.Mem
open Go.RowKit Go.Proofs.YthgbgflpjggpmaaW.PrintWords Go.Proofs.Ythgbgflpjggpmaa.Tags
open Go.Proofs.Ythgbgflpjggpmaa.PStepAlone (S57 k57)
open Go.Proofs.Ythgbgflpjggpmaa.RefAlloc (R R.at R.find R.look R.swap R.free R.freed R.tick R.retire R.reap S108.retire may put)
set_option linter.unusedVariables false
set_option linter.unusedSimpArgs false
/-- The document's One. -/
def oneR (r : R) (x : S57) (told : Int) : R × Int × Int × Int :=
  if x.f0 % 7 = 0 then ((R.alloc r 1 x.f2).1, (R.alloc r 1 x.f2).2.1, (R.alloc r 1 x.f2).2.2, if ((R.alloc r 1 x.f2).2.2 == 0) = true then (R.alloc r 1 x.f2).2.1 else told)
  else if x.f0 % 7 = 1 then ((r.look (hTo x told) 1).1, (r.look (hTo x told) 1).2.1, (r.look (hTo x told) 1).2.2, told)
  else if x.f0 % 7 = 2 then ((r.swap (hTo x told) 0 x.f2 true).1, 0, (r.swap (hTo x told) 0 x.f2 true).2.2, told)
  else if x.f0 % 7 = 3 then ((r.swap (hTo x told) x.f2 x.f3 false).1, flagI (r.swap (hTo x told) x.f2 x.f3 false).2.1, (r.swap (hTo x told) x.f2 x.f3 false).2.2, told)
  else if x.f0 % 7 = 4 then ((r.free (hTo x told)).1, 0, (r.free (hTo x told)).2, told)
  else if x.f0 % 7 = 5 then ((r.retire (hTo x told) x.f2).1, 0, (r.retire (hTo x told) x.f2).2, told)
  else ((r.reap x.f1 x.f2).1, flagI (r.reap x.f1 x.f2).2.1, (r.reap x.f1 x.f2).2.2, told)
theorem sim_one {m : M} {r : R} (h : Sim m r) (x : S57) (h0 : 0 ≤ x.f0 ∧ x.f0 ≤ 255) (told : Int) : outOf x told (askOf x told m).2 = (oneR r x told).2 ∧ Sim (askOf x told m).1 (oneR r x told).1 := by
  have hc : x.f0 % 7 = 0 ∨ x.f0 % 7 = 1 ∨ x.f0 % 7 = 2 ∨ x.f0 % 7 = 3 ∨ x.f0 % 7 = 4 ∨ x.f0 % 7 = 5 ∨ x.f0 % 7 = 6 := by omega
  unfold outOf askOf oneR
  rcases hc with e | e | e | e | e | e | e
  · have k := h.alloc 1 x.f2 (number x.f2) (Or.inl ⟨rfl, rfl⟩)
    simp [e, QAllocWord, k.1, k.2]
  · have k := h.word (hTo x told)
    simp [e, QWord, k.1, k.2]
  · have k := h.store (hTo x told) x.f2
    simp [e, QStore, k.1, k.2]
  · have k := h.swap (hTo x told) x.f2 x.f3
    simp [e, QSwap, k.1, k.2]
  · have k := h.free_ (hTo x told)
    simp [e, QFree, k.1, k.2]
  · have k := h.retire (hTo x told) x.f2
    simp [e, QRetire, k.1, k.2]
  · have k := h.reap x.f1 x.f2
    simp [e, QReap, k.1, k.2]
end Go.Proofs.Ythgbgflpjggpmaa.Mem
