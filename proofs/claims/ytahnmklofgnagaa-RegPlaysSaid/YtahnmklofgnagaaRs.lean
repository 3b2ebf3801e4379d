/- What an argument's reading gives as a kind of the print's: integers, bools, strings, and slices of whatever reads so. Plain lemmas. -/
import Derived.Test.YtahnmklofgnagaaWWords
import Derived.WalkKit
import Derived.ProofKit
import Derived.OpenShut
import Derived.ShutString
import Derived.ChangeOld
import Derived.Below
import Derived.SizedLaws
namespace Go.Proofs.Ytahnmklofgnagaa.Rs
open Go.RowKit Go.ChangeShapes Go.WideShapes Go.Proofs.YtahnmklofgnagaaW.PrintWords
section
variable {H : Type} {enc : TypeId × Value → H} {P : Program} {w : World} {base : Nat} {spare : Nat → Bool} {held : Bool}

/-- What reads as data of type t is of the kind d, and meets Φ. -/
def Opens {α : Type} (enc : TypeId × Value → H) (P : Program) (w : World) (base : Nat) (spare : Nat → Bool) (held : Bool) (t : TypeId) (d : Kd α) (Φ : α → Prop) : Prop :=
  ∀ fuel cs y, DataW.trod enc P w base spare held fuel t cs = some y → ∃ x, d.K w x cs ∧ Φ x
theorem opens_string {t : TypeId} (ht : P.underlying t = some .string) : Opens enc P w base spare held t Kd.string (fun s => s.size ≤ maxLen) := by
  intro fuel cs y h
  obtain ⟨s, rfl, _, hs⟩ := DataW.trod_string ht h
  exact ⟨s, rfl, hs⟩
theorem opens_int {t : TypeId} {k : IntKind} (ht : P.underlying t = some (.int k)) : Opens enc P w base spare held t (Kd.int k) (fun n => (Lit.int k n).wf = true) := by
  intro fuel cs y h
  obtain ⟨n, rfl, _, hs⟩ := DataW.trod_int ht h
  exact ⟨n, rfl, hs⟩
theorem opens_bool {t : TypeId} (ht : P.underlying t = some .bool) : Opens enc P w base spare held t Kd.bool (fun _ => True) := by
  intro fuel cs y h
  obtain ⟨b, rfl, _⟩ := DataW.trod_bool ht h
  exact ⟨b, rfl, trivial⟩
theorem mk_list {α : Type} (R : Nat → α → Prop) : ∀ n : Nat, (∀ i, i < n → ∃ x, R i x) → ∃ l : List α, l.length = n ∧ ∀ i x, l[i]? = some x → R i x
  | 0, _ => ⟨[], rfl, fun i x h => by simp at h⟩
  | n + 1, each => by
    obtain ⟨l, h1, h2⟩ := mk_list R n (fun i hi => each i (by omega))
    obtain ⟨x, h3⟩ := each n (by omega)
    refine ⟨l ++ [x], by simp [h1], fun i x' hi => ?_⟩
    by_cases hil : i < l.length
    · rw [List.getElem?_append_left hil] at hi
      exact h2 i x' hi
    · have e : i = n := by
        have := (List.getElem?_eq_some_iff.1 hi).1
        simp at this
        omega
      subst e
      rw [← h1, List.getElem?_concat_length] at hi
      injection hi with hi
      subst hi
      exact h3
theorem row_of {α : Type} {d : Kd α} {Φ : α → Prop} {t e : TypeId} (ht : P.underlying t = some (.slice e)) (hc : P.cellsOf e = d.sz) (el : Opens enc P w base spare held e d Φ) {fuel : Nat} {cs : List Value} {y : DataW H × List MemPlace}
    (h : DataW.trod enc P w base spare held fuel t cs = some y) : ∃ (A : Option Addr) (c : Nat) (l : List α), cs = [.slice A l.length c] ∧ l.length ≤ c ∧ c ≤ maxLen ∧ d.C w A l.length l ∧ ∀ x ∈ l, Φ x := by
  rcases DataW.trod_slice ht h with ⟨rfl, _⟩ | ⟨a, len, cap, elems, rest, n, _, rfl, _, hb, hl, hm, hlen, hel, _, _⟩
  · exact ⟨none, 0, [], rfl, Nat.le_refl _, Nat.zero_le _, ⟨rfl, by simp, fun h => by simp at h⟩, fun x hx => by simp at hx⟩
  · rw [hc] at hel
    have each : ∀ i, i < len → ∃ x c, c.length = d.sz ∧ d.K w x c ∧ Φ x ∧ ∀ j u, c[j]? = some u → w.cell? (a.add (i * d.sz + j)) = some u := by
      intro i hi
      have h1 := hel i hi
      rw [List.getElem?_eq_getElem (by omega), Option.bind_eq_some_iff] at h1
      obtain ⟨c, hcs, hy⟩ := h1
      obtain ⟨_, h2, h3⟩ := World.cells?_some hcs
      obtain ⟨x, hk, hx⟩ := el _ _ _ hy
      refine ⟨x, c, h2, hk, hx, fun j u hj => ?_⟩
      have hjl : j < d.sz := by have := (List.getElem?_eq_some_iff.1 hj).1; omega
      have h4 := h3 j hjl
      rw [hj] at h4
      rw [← h4]
      congr 1
      unfold Addr.add
      by_cases z1 : i * d.sz = 0
      · simp [z1]
      · by_cases z2 : j = 0
        · subst z2; simp
        · simp [z1, z2, Nat.add_assoc]
    have hx : ∃ l : List α, l.length = len ∧ ∀ i x, l[i]? = some x → ∃ c, c.length = d.sz ∧ d.K w x c ∧ Φ x ∧ ∀ j u, c[j]? = some u → w.cell? (a.add (i * d.sz + j)) = some u := by
      obtain ⟨l, h1, h2⟩ := mk_list (fun i x => ∃ c, c.length = d.sz ∧ d.K w x c ∧ Φ x ∧ ∀ j u, c[j]? = some u → w.cell? (a.add (i * d.sz + j)) = some u) len (fun i hi => each i hi)
      exact ⟨l, h1, h2⟩
    obtain ⟨l, h1, h2⟩ := hx
    subst h1
    refine ⟨some a, cap, l, rfl, hl, hm, ⟨rfl, ?_, fun _ => ⟨a, rfl, fun j p hj => ?_⟩⟩, fun x hx => ?_⟩
    · unfold maxLen at hm
      omega
    · obtain ⟨c, h3, h4, _, h5⟩ := h2 j p hj
      exact ⟨c, h3, h4, h5⟩
    · obtain ⟨i, hi⟩ := List.getElem?_of_mem hx
      obtain ⟨_, _, _, h6, _⟩ := h2 i x hi
      exact h6
theorem opens_slice {α : Type} {d : Kd α} {Φ : α → Prop} {t e : TypeId} (ht : P.underlying t = some (.slice e)) (hc : P.cellsOf e = d.sz) (el : Opens enc P w base spare held e d Φ) :
    Opens enc P w base spare held t (Kd.slice e d) (fun l => ∀ x ∈ l, Φ x) := by
  intro fuel cs y h
  obtain ⟨A, c, l, rfl, h1, _, h2, h3⟩ := row_of ht hc el h
  exact ⟨l, ⟨A, c, rfl, h1, h2⟩, h3⟩
end
end Go.Proofs.Ytahnmklofgnagaa.Rs
