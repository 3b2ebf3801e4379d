/- NodeBack: what Make and Lay leave in memory, and what is left where it is undone. Plain. -/
import Derived.Test.YtcfbjcadpcedhaaNFull0
namespace Go.Proofs.Ytcfbjcadpcedhaa.Mem
open Go.RowKit Go.Proofs.YtcfbjcadpcedhaaW.PrintWords Go.Proofs.YtcfbjcadpcedhaaW.PrintLast Go.Proofs.Ytcfbjcadpcedhaa.Tags
set_option linter.unusedVariables false
set_option linter.unusedSimpArgs false
section
variable {w0 w w' : World} {pb mb cb : Nat} {m m' : M} {n k : Nat} {g : Int}
theorem frees_keep : ∀ (ts : List Int) (m : M) (k : Nat) (g : Int), Shape m n (k + ts.length) g → g + ts.length ≤ 1000000 → ts.Nodup → (∀ x ∈ ts, m.val x ≠ none) → Shape (m.frees ts) n k (g + ts.length) ∧ ∀ y, y ∉ ts → (m.frees ts).val y = m.val y
  | [], m, k, g, h, _, _, _ => by
    have e : g + (([] : List Int).length : Int) = g := by simp
    rw [e]
    exact ⟨h, fun _ _ => rfl⟩
  | x :: ts, m, k, g, h, hg, hd, hv => by
    simp only [List.length_cons] at h hg
    obtain ⟨u, hu⟩ := Option.ne_none_iff_exists'.1 (hv x List.mem_cons_self)
    obtain ⟨m1, e1, t1, s1⟩ := free_val (k := k + ts.length) (by rw [show k + ts.length + 1 = k + (ts.length + 1) by omega]; exact h) (by omega) hu
    have hd' := List.nodup_cons.1 hd
    obtain ⟨hi, hj⟩ := frees_keep ts m1 k (g + 1) s1 (by omega) hd'.2 (fun y hy => by
      rw [t1.other y (by rintro rfl; exact hd'.1 hy)]
      exact hv y (List.mem_cons_of_mem _ hy))
    have e2 : m.frees (x :: ts) = m1.frees ts := by
      show M.frees (m.free x).1 ts = _
      rw [e1]
    rw [e2, List.length_cons, show g + ((ts.length + 1 : Nat) : Int) = g + 1 + (ts.length : Int) by omega]
    refine ⟨hi, fun y hy => ?_⟩
    rw [hj y (fun h => hy (List.mem_cons_of_mem _ h))]
    exact t1.other y (fun e => hy (e ▸ List.mem_cons_self))
theorem ferr_none {ts : List Int} (h : Shape m n (k + ts.length) g) (hg : g + ts.length ≤ 1000000) (hd : ts.Nodup) (hv : ∀ x ∈ ts, m.val x ≠ none) : m.ferr ts ts.length = 0 := by
  refine ferr_zero (fun j hj => ?_) _ (Nat.le_refl _)
  have htl : (ts.take j).length = j := by rw [List.length_take]; omega
  have hsub : ∀ x ∈ ts.take j, x ∈ ts := fun x hx => List.mem_of_mem_take hx
  obtain ⟨hs, hk⟩ := frees_keep (ts.take j) m (k + (ts.length - j)) g (by rw [htl, show k + (ts.length - j) + j = k + ts.length by omega]; exact h) (by rw [htl]; omega) (hd.sublist (List.take_sublist _ _)) (fun x hx => hv x (hsub x hx))
  have hx : ts.getD j 0 = ts[j] := by rw [List.getD_eq_getElem?_getD, List.getElem?_eq_getElem hj]; rfl
  have hnt : ts[j] ∉ ts.take j := by
    intro hm
    have hd' : (ts.take j ++ ts[j] :: ts.drop (j + 1)).Nodup := by rw [← List.drop_eq_getElem_cons hj, List.take_append_drop]; exact hd
    exact (List.nodup_append.1 hd').2.2 _ hm _ List.mem_cons_self rfl
  obtain ⟨u, hu⟩ := Option.ne_none_iff_exists'.1 (hv ts[j] (List.getElem_mem hj))
  rw [hx]
  obtain ⟨m1, e1, _, _⟩ := free_val (k := k + (ts.length - j) - 1) (by rw [show k + (ts.length - j) - 1 + 1 = k + (ts.length - j) by omega]; exact hs) (by rw [htl]; omega) ((hk _ hnt).trans hu)
  rw [e1]
/-- A node, and an age that leads to it, in memory. -/
structure Back (m : M) (n k : Nat) (low : ByteArray) (head ver : Int) (xs : List Int) (H t0 : Int) (rest : List Int) (A : Option Addr) (c : Nat) (x1 x2 : Int) : Prop where
  S : Shape m n (k + 4) 0
  H_ : m.val H = some (.iface 46 (Nd.v ⟨low, t0, A, rest.length, c⟩))
  w0 : m.val t0 = some (number head)
  ws : ∀ j, j < rest.length → m.val (rest.getD j 0) = some (number (xs.getD j 0))
  a : m.val x2 = some (.iface 52 (Ag.v ⟨ver, false, x1⟩))
  p : m.val x1 = some (number H)
  nd : (H :: t0 :: rest).Nodup
  d1 : x1 ∉ H :: t0 :: rest
  d2 : x2 ∉ H :: t0 :: rest
  d : x2 ≠ x1
  l : rest.length = k
  lx : xs.length = k
/-- A node alone. -/
structure Made (m : M) (n k : Nat) (low : ByteArray) (head : Int) (xs : List Int) (H t0 : Int) (rest : List Int) (A : Option Addr) (c : Nat) : Prop where
  S : Shape m n (k + 2) 0
  H_ : m.val H = some (.iface 46 (Nd.v ⟨low, t0, A, rest.length, c⟩))
  w0 : m.val t0 = some (number head)
  ws : ∀ j, j < rest.length → m.val (rest.getD j 0) = some (number (xs.getD j 0))
  nd : (H :: t0 :: rest).Nodup
  l : rest.length = k
  lx : xs.length = k
theorem make_room {low : ByteArray} {head : Int} {xs : List Int} (hx : xs.length = k) {e : Ending} (hn : n ≤ 1000) (hk : k + 2 ≤ n) (h : MakeIn w0 w pb mb cb low k ((M.new n).allocs (head :: xs) []) e w') :
    ∃ (M1 : M) (H t0 : Int) (rest : List Int) (A : Option Addr) (c : Nat), e = .returned (.tuple #[.int .i64 H, .int .i64 0]) ∧ Made M1 n k low head xs H t0 rest A c ∧ RdT w' A rest ∧ (∀ ad, A = some ad → w.heap.size ≤ ad.block) ∧ St w0 w' pb mb cb M1 ∧ Fr w w' mb cb := by
  obtain ⟨hF, h⟩ := h
  have hs := new_shape n (by omega)
  have hl : (head :: xs).length = k + 1 := by simp [hx]
  obtain ⟨m1, us, e1, l1, s1, d1, f1, v1, _⟩ := allocs_room (by omega) (head :: xs) (M.new n) [] 0 hs (by omega)
  rw [e1] at h
  rcases h with ⟨h, _⟩ | ⟨_, t0, rest, A, c, eu, er, hR, hb, M2, x2, e2, ha, h⟩
  · simp at h
  · simp only [List.nil_append] at eu ha
    subst eu
    rw [Nat.zero_add, hl] at s1
    obtain ⟨m2, x, ea, nx, tx, s2⟩ := alloc_val s1 (by omega) (by omega) 46 (Nd.v ⟨low, t0, A, k, c⟩)
    rw [ea] at ha
    injection ha with a1 ha
    injection ha with a2 a3
    subst a1 a2 a3
    rcases h with ⟨_, rfl, h⟩ | ⟨h, _⟩
    · have hv : ∀ j, j < (t0 :: rest).length → m2.val ((t0 :: rest).getD j 0) = some (number ((head :: xs).getD j 0)) := fun j hj => by
        have := v1 j hj
        rw [tx.other _ (by intro e; rw [e, nx] at this; cases this)]
        exact this
      have hxn : x ∉ t0 :: rest := fun hm => by
        obtain ⟨j, hj, ej⟩ := List.getElem_of_mem hm
        have := v1 j hj
        rw [List.getD_eq_getElem?_getD, List.getElem?_eq_getElem hj, Option.getD_some, ej, nx] at this
        cases this
      refine ⟨m2, x, t0, rest, A, c, rfl, ⟨s2, by rw [er]; exact tx.self, hv 0 (by simp), fun j hj => hv (j + 1) (by simpa using hj), List.nodup_cons.2 ⟨hxn, d1⟩, er, hx⟩, hR, hb, h, hF⟩
    · simp at h
theorem Made.held {low : ByteArray} {head : Int} {xs : List Int} {H t0 : Int} {rest : List Int} {A : Option Addr} {c : Nat} (h : Made m n k low head xs H t0 rest A c) : ∀ y ∈ H :: t0 :: rest, m.val y ≠ none := by
  intro y hy
  rcases List.mem_cons.1 hy with rfl | hy
  · rw [h.H_]; simp
  · rcases List.mem_cons.1 hy with rfl | hy
    · rw [h.w0]; simp
    · obtain ⟨j, hj, ej⟩ := List.getElem_of_mem hy
      have := h.ws j hj
      rw [List.getD_eq_getElem?_getD, List.getElem?_eq_getElem hj, Option.getD_some, ej] at this
      rw [this]; simp
theorem Made.lay {low : ByteArray} {head : Int} {xs : List Int} {H t0 : Int} {rest : List Int} {A : Option Addr} {c : Nat} (h : Made m n k low head xs H t0 rest A c) (hk : k + 4 ≤ n) (ver : Int) : ∃ (M1 M2 : M) (x1 x2 : Int), m.alloc (number H) = (M1, x1, 0) ∧ M1.alloc (.iface 52 (Ag.v ⟨ver, false, x1⟩)) = (M2, x2, 0) ∧ Back M2 n k low head ver xs H t0 rest A c x1 x2 := by
  obtain ⟨M1, M2, x1, x2, e1, e2, n1, n2, hne, v1, v2, v3, s⟩ := lay_val h.S (by omega) (by omega) ver false H
  have hh := h.held
  have d1 : x1 ∉ H :: t0 :: rest := fun hm => hh _ hm n1
  have d2 : x2 ∉ H :: t0 :: rest := fun hm => hh _ hm n2
  have hk : ∀ y ∈ H :: t0 :: rest, M2.val y = m.val y := fun y hy => v3 y (by rintro rfl; exact d1 hy) (by rintro rfl; exact d2 hy)
  refine ⟨M1, M2, x1, x2, e1, e2, s, (hk H (by simp)).trans h.H_, (hk t0 (by simp)).trans h.w0, fun j hj => (hk _ ?_).trans (h.ws j hj), v2, v1, h.nd, d1, d2, Ne.symm hne, h.l, h.lx⟩
  rw [List.getD_eq_getElem?_getD, List.getElem?_eq_getElem hj]
  exact List.mem_cons_of_mem _ (List.mem_cons_of_mem _ (List.getElem_mem hj))
theorem Back.cells {low : ByteArray} {head ver : Int} {xs : List Int} {H t0 : Int} {rest : List Int} {A : Option Addr} {c : Nat} {x1 x2 : Int} (h : Back m n k low head ver xs H t0 rest A c x1 x2) (e1 : m'.cells = m.cells) (e2 : m'.live = m.live) : Back m' n k low head ver xs H t0 rest A c x1 x2 :=
  ⟨h.S.of_cells e1 e2, (val_cells e1 _).trans h.H_, (val_cells e1 _).trans h.w0, fun j hj => (val_cells e1 _).trans (h.ws j hj), (val_cells e1 _).trans h.a, (val_cells e1 _).trans h.p, h.nd, h.d1, h.d2, h.d, h.l, h.lx⟩
theorem Back.held {low : ByteArray} {head ver : Int} {xs : List Int} {H t0 : Int} {rest : List Int} {A : Option Addr} {c : Nat} {x1 x2 : Int} (h : Back m n k low head ver xs H t0 rest A c x1 x2) : ∀ y ∈ H :: t0 :: rest, m.val y ≠ none := by
  intro y hy
  rcases List.mem_cons.1 hy with rfl | hy
  · rw [h.H_]; simp
  · rcases List.mem_cons.1 hy with rfl | hy
    · rw [h.w0]; simp
    · obtain ⟨j, hj, ej⟩ := List.getElem_of_mem hy
      have := h.ws j hj
      rw [List.getD_eq_getElem?_getD, List.getElem?_eq_getElem hj, Option.getD_some, ej] at this
      rw [this]; simp
/-- What is left where the node is undone: its age alone. -/
theorem Back.undone {low : ByteArray} {head ver : Int} {xs : List Int} {H t0 : Int} {rest : List Int} {A : Option Addr} {c : Nat} {x1 x2 : Int} (h : Back m n k low head ver xs H t0 rest A c x1 x2) (hk : k ≤ 1000) :
    m.ferr (H :: t0 :: rest) (H :: t0 :: rest).length = 0 ∧ ∃ g, Shape (m.frees (H :: t0 :: rest)) n 2 g ∧ g ≤ 2000 ∧ (m.frees (H :: t0 :: rest)).val x2 = some (.iface 52 (Ag.v ⟨ver, false, x1⟩)) ∧ (m.frees (H :: t0 :: rest)).val x1 = some (number H) := by
  have hl : (H :: t0 :: rest).length = k + 2 := by simp [h.l]
  have hS : Shape m n (2 + (H :: t0 :: rest).length) 0 := by rw [hl, show 2 + (k + 2) = k + 4 by omega]; exact h.S
  obtain ⟨s, hk2⟩ := frees_keep (H :: t0 :: rest) m 2 0 hS (by rw [hl]; omega) h.nd h.held
  refine ⟨ferr_none (k := 2) hS (by rw [hl]; omega) h.nd h.held, _, s, by rw [hl]; omega, (hk2 _ h.d2).trans h.a, (hk2 _ h.d1).trans h.p⟩
theorem lifted_all {x1 x2 : Int} {u : Value} {H : Int} (hS : Shape m n 2 g) (hg : g ≤ 2000) (a : m.val x2 = some (.iface 52 u)) (p : m.val x1 = some (number H)) (d : x2 ≠ x1) : m.ferr [x2, x1] 2 = 0 ∧ (m.frees [x2, x1]).live = 0 := by
  have hv : ∀ y ∈ [x2, x1], m.val y ≠ none := by
    intro y hy
    simp only [List.mem_cons, List.not_mem_nil, or_false] at hy
    rcases hy with rfl | rfl
    · rw [a]; simp
    · rw [p]; simp
  have hd : [x2, x1].Nodup := by simp [d]
  have s := (frees_keep [x2, x1] m 0 g (by simpa using hS) (by simp; omega) hd hv).1
  exact ⟨ferr_none (k := 0) (ts := [x2, x1]) (by simpa using hS) (by simp; omega) hd hv, s.live⟩
theorem i64_row {A : Option Addr} {l : List Int} (h : (Kd.int .i64).C w A l.length l) : Rd w A l := ⟨rfl, h.2.1, fun hn => by
  obtain ⟨ad, _, e, _⟩ := ReadsRow.get_ h 0 0 (Int.le_refl _) (by omega)
  refine ⟨ad, e, fun j hj => ?_⟩
  obtain ⟨ad2, c, e2, _, hk, hc⟩ := ReadsRow.get_ h 0 (j : Int) (by omega) (by omega)
  rw [e] at e2
  injection e2 with e2
  subst e2
  have hk' : c = [.int .i64 (l.getD j 0)] := hk
  subst hk'
  have := hc 0 _ rfl
  rw [show (j : Int).toNat * (Kd.int .i64).sz + 0 = j by show (j : Int).toNat * 1 + 0 = j; omega] at this
  exact this⟩
end
end Go.Proofs.Ytcfbjcadpcedhaa.Mem
