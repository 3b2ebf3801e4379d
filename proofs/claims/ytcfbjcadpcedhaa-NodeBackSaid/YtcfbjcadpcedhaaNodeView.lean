/- Ages and nodes in memory as a map: what their making comes to. Plain lemmas. -/
import Derived.Test.YtcfbjcadpcedhaaNode10
namespace Go.Proofs.Ytcfbjcadpcedhaa.Mem
open Go.RowKit Go.Proofs.YtcfbjcadpcedhaaW.PrintWords Go.Proofs.YtcfbjcadpcedhaaW.PrintLast Go.Proofs.Ytcfbjcadpcedhaa.Tags
set_option linter.unusedVariables false
set_option linter.unusedSimpArgs false
section
variable {m m' : M} {x y : Int} {n k : Nat} {g : Int}
theorem lay_val (h : Shape m n k g) (hk : k + 2 ≤ n) (hg : g ≤ 16383) (ver : Int) (dead : Bool) (bef : Int) : ∃ (M1 M2 : M) (x1 x2 : Int), m.alloc (number bef) = (M1, x1, 0) ∧ M1.alloc (.iface 52 (Ag.v ⟨ver, dead, x1⟩)) = (M2, x2, 0) ∧ m.val x1 = none ∧ m.val x2 = none ∧ x1 ≠ x2 ∧
    M2.val x1 = some (number bef) ∧ M2.val x2 = some (.iface 52 (Ag.v ⟨ver, dead, x1⟩)) ∧ (∀ y, y ≠ x1 → y ≠ x2 → M2.val y = m.val y) ∧ Shape M2 n (k + 2) g := by
  obtain ⟨M1, x1, e1, n1, t1, s1⟩ := alloc_val h (by omega) hg 117 (.int .i64 bef)
  obtain ⟨M2, x2, e2, n2, t2, s2⟩ := alloc_val s1 (by omega) hg 52 (Ag.v ⟨ver, dead, x1⟩)
  have hne : x1 ≠ x2 := by rintro rfl; rw [t1.self] at n2; cases n2
  exact ⟨M1, M2, x1, x2, e1, e2, n1, by rw [← t1.other x2 (Ne.symm hne)]; exact n2, hne, (t2.other x1 hne).trans t1.self, t2.self, fun y h1 h2 => (t2.other y h2).trans (t1.other y h1), s2⟩
/-- A chain that is laid: newest first. -/
structure Row (m : M) (h : Int) (l : List (Int × Ag)) (n k : Nat) (g : Int) : Prop where
  C : Chain m h l
  nd : (prevs l).Nodup
  S : Shape m n k g
theorem Row.held_ {l : List (Int × Ag)} (h : Row m x l n k g) {y : Int} {a : Ag} (hy : (y, a) ∈ l) : m.val y ≠ none ∧ m.val a.prev ≠ none := by
  obtain ⟨h1, z, h2⟩ := h.C.age _ hy
  exact ⟨by rw [h1]; simp, by rw [h2]; simp⟩
theorem Row.lay {l : List (Int × Ag)} (h : Row m x l n k g) {M2 : M} {ver : Int} {dead : Bool} {x1 x2 : Int} (n1 : m.val x1 = none) (n2 : m.val x2 = none) (hne : x1 ≠ x2) (w1 : M2.val x1 = some (number x)) (w2 : M2.val x2 = some (.iface 52 (Ag.v ⟨ver, dead, x1⟩))) (w3 : ∀ y, y ≠ x1 → y ≠ x2 → M2.val y = m.val y) (s : Shape M2 n (k + 2) g) : Row M2 x2 ((x2, ⟨ver, dead, x1⟩) :: l) n (k + 2) g := by
  have hk : ∀ y u, m.val y = Option.some u → M2.val y = m.val y := fun y u hy => w3 y (by rintro rfl; rw [n1] at hy; cases hy) (by rintro rfl; rw [n2] at hy; cases hy)
  refine ⟨⟨rfl, by have := val_pos w2; omega, w2, x, w1, h.C.keep fun q hq => ?_⟩, ?_, s⟩
  · obtain ⟨a1, z, a2⟩ := h.C.age q hq
    exact ⟨hk _ _ a1, hk _ _ a2⟩
  · refine List.nodup_cons.2 ⟨fun hm => ?_, h.nd⟩
    obtain ⟨q, hq, e⟩ := List.mem_map.1 hm
    obtain ⟨_, z, a2⟩ := h.C.age q hq
    have e' : q.2.prev = x1 := e
    rw [e', n1] at a2
    cases a2
theorem allocs_room (hg : g ≤ 16383) : ∀ (vs : List Int) (m : M) (ts : List Int) (k : Nat), Shape m n k g → k + vs.length ≤ n → ∃ m' us, m.allocs vs ts = (m', ts ++ us, 0) ∧ us.length = vs.length ∧ Shape m' n (k + vs.length) g ∧ us.Nodup ∧ (∀ x ∈ us, m.val x = none) ∧ (∀ j, j < us.length → m'.val (us.getD j 0) = some (number (vs.getD j 0))) ∧ (∀ y, y ∉ us → m'.val y = m.val y)
  | [], m, ts, k, h, hk => ⟨m, [], by unfold M.allocs; simp, rfl, h, by simp, by simp, by simp, fun _ _ => rfl⟩
  | v :: vs, m, ts, k, h, hk => by
    simp only [List.length_cons] at hk
    obtain ⟨m1, x, e1, n1, t1, s1⟩ := alloc_val h (by omega) hg 117 (.int .i64 v)
    obtain ⟨m2, us, e2, l2, s2, d2, f2, w2, r2⟩ := allocs_room hg vs m1 (ts ++ [x]) (k + 1) s1 (by omega)
    have e1' : m.alloc (number v) = (m1, x, 0) := e1
    have hx : x ∉ us := fun hm => by have := f2 x hm; rw [t1.self] at this; cases this
    refine ⟨m2, x :: us, ?_, by simp [l2], by rw [List.length_cons, show k + (vs.length + 1) = k + 1 + vs.length by omega]; exact s2, List.nodup_cons.2 ⟨hx, d2⟩, fun y hy => ?_, fun j hj => ?_, fun y hy => ?_⟩
    · unfold M.allocs
      rw [e1']
      simp only [ne_eq, not_true_eq_false, if_false]
      rw [e2]
      simp
    · rcases List.mem_cons.1 hy with rfl | hy
      · exact n1
      · have := f2 y hy
        rwa [t1.other y (fun e => hx (e ▸ hy))] at this
    · cases j with
      | zero =>
        show m2.val x = some (number v)
        rw [r2 _ hx, t1.self]
      | succ j => exact w2 j (by simpa using hj)
    · rw [r2 y (fun h => hy (List.mem_cons_of_mem _ h))]
      exact t1.other y (fun e => hy (e ▸ List.mem_cons_self))
/-- Versions of a chain, newest first, out of its rises. -/
def vsOf (rs : List Int) : List Int := rs.foldl (fun acc r => (acc.headD 0 + 1 + r) :: acc) []
theorem vsOf_snoc (rs : List Int) (r : Int) : vsOf (rs ++ [r]) = ((vsOf rs).headD 0 + 1 + r) :: vsOf rs := by
  unfold vsOf
  rw [List.foldl_append]
  rfl
theorem vsOf_len : ∀ rs : List Int, (vsOf rs).length = rs.length := by
  intro rs
  have : ∀ (l acc : List Int), (l.foldl (fun acc r => (acc.headD 0 + 1 + r) :: acc) acc).length = acc.length + l.length := by
    intro l
    induction l with
    | nil => intro acc; simp
    | cons r l ih => intro acc; rw [List.foldl_cons, ih]; simp; omega
  have h := this rs []
  simpa [vsOf] using h
theorem vsOf_bound : ∀ (rs : List Int), (∀ r ∈ rs, 0 ≤ r ∧ r ≤ 255) → 0 ≤ (vsOf rs).headD 0 ∧ (vsOf rs).headD 0 ≤ 256 * rs.length := by
  intro rs
  have : ∀ (l : List Int), (∀ r ∈ l, 0 ≤ r ∧ r ≤ 255) → ∀ (acc : List Int) (b : Nat), 0 ≤ acc.headD 0 → acc.headD 0 ≤ 256 * b → 0 ≤ (l.foldl (fun acc r => (acc.headD 0 + 1 + r) :: acc) acc).headD 0 ∧ (l.foldl (fun acc r => (acc.headD 0 + 1 + r) :: acc) acc).headD 0 ≤ 256 * ((b + l.length : Nat) : Int) := by
    intro l
    induction l with
    | nil => intro _ acc b h1 h2; exact ⟨h1, by simpa using h2⟩
    | cons r l ih =>
      intro hr acc b h1 h2
      have h3 := hr r List.mem_cons_self
      have := ih (fun q hq => hr q (List.mem_cons_of_mem _ hq)) ((acc.headD 0 + 1 + r) :: acc) (b + 1) (by show 0 ≤ acc.headD 0 + 1 + r; omega) (by show acc.headD 0 + 1 + r ≤ _; omega)
      rw [List.foldl_cons, List.length_cons, show b + (l.length + 1) = b + 1 + l.length by omega]
      exact this
  intro hr
  have := this rs hr [] 0 (by simp) (by simp)
  simpa [vsOf] using this
end
end Go.Proofs.Ytcfbjcadpcedhaa.Mem
