/- NodeFull, by hand: what making and laying come to where there is little room. -/
import Derived.Test.YtcfbjcadpcedhaaNAwake
import Derived.Laws.MakeOwn
namespace Go.Proofs.Ytcfbjcadpcedhaa.Mem
open Go.RowKit Go.Proofs.YtcfbjcadpcedhaaW.PrintWords Go.Proofs.YtcfbjcadpcedhaaW.PrintLast Go.Proofs.Ytcfbjcadpcedhaa.Tags
set_option linter.unusedVariables false
set_option linter.unusedSimpArgs false
theorem u8_in {a : Int} (h : (Lit.int .u8 a).wf = true) : 0 ≤ a ∧ a < 256 := by
  have h' : 0 ≤ a ∧ a ≤ 255 := by simpa [Lit.wf, IntKind.min, IntKind.max, IntKind.signed, IntKind.bits] using h
  omega
section
variable {w0 w w' : World} {pb mb cb : Nat} {m m' : M} {n : Nat}
theorem frees_all : ∀ (ts : List Int) (m : M) (k : Nat) (g : Int), Shape m n (k + ts.length) g → g + ts.length ≤ 1000000 → ts.Nodup → (∀ x ∈ ts, m.val x ≠ none) → Shape (m.frees ts) n k (g + ts.length)
  | [], m, k, g, h, _, _, _ => by
    have e : g + (([] : List Int).length : Int) = g := by simp
    rw [e]
    exact h
  | x :: ts, m, k, g, h, hg, hd, hv => by
    simp only [List.length_cons] at h hg
    obtain ⟨u, hu⟩ := Option.ne_none_iff_exists'.1 (hv x List.mem_cons_self)
    obtain ⟨m1, e1, t1, s1⟩ := free_val (k := k + ts.length) (by rw [show k + ts.length + 1 = k + (ts.length + 1) by omega]; exact h) (by omega) hu
    have hd' := List.nodup_cons.1 hd
    have hi := frees_all ts m1 k (g + 1) s1 (by omega) hd'.2 (fun y hy => by
      rw [t1.other y (by rintro rfl; exact hd'.1 hy)]
      exact hv y (List.mem_cons_of_mem _ hy))
    have e2 : m.frees (x :: ts) = m1.frees ts := by
      show M.frees (m.free x).1 ts = _
      rw [e1]
    rw [e2, List.length_cons, show g + ((ts.length + 1 : Nat) : Int) = g + 1 + (ts.length : Int) by omega]
    exact hi
theorem allocs_full : ∀ (vs : List Int) (m : M) (ts : List Int) (k : Nat), Shape m n k 0 → ts.length = k → ts.Nodup → (∀ x ∈ ts, m.val x ≠ none) → n < k + vs.length → ∃ m', m.allocs vs ts = (m', [], 3) ∧ Shape m' n 0 n
  | [], m, ts, k, h, _, _, _, hk => by
    have := h.kn
    simp at hk
    omega
  | v :: vs, m, ts, k, h, hl, hd, hv, hk => by
    simp only [List.length_cons] at hk
    have hkn := h.kn
    have hbig := h.big
    by_cases hlt : k < n
    · obtain ⟨m1, x, e1, n1, t1, s1⟩ := alloc_val h hlt (by omega) 117 (.int .i64 v)
      have e1' : m.alloc (number v) = (m1, x, 0) := e1
      have hx : x ∉ ts := fun hm => hv x hm n1
      have hd2 : (ts ++ [x]).Nodup := List.nodup_append.2 ⟨hd, by simp, fun a ha b hb e => by
        have hb' : b = x := by simpa using hb
        exact hx (by rw [← hb', ← e]; exact ha)⟩
      have hv2 : ∀ y ∈ ts ++ [x], m1.val y ≠ none := fun y hy => by
        rcases List.mem_append.1 hy with hq | hq
        · rw [t1.other y (by rintro rfl; exact hx hq)]
          exact hv y hq
        · have hy' : y = x := by simpa using hq
          rw [hy', t1.self]
          simp
      obtain ⟨m2, e2, s2⟩ := allocs_full vs m1 (ts ++ [x]) (k + 1) s1 (by simp [hl]) hd2 hv2 (by omega)
      refine ⟨m2, ?_, s2⟩
      unfold M.allocs
      rw [e1']
      simpa using e2
    · obtain rfl : k = n := by omega
      have e1 : m.alloc (number v) = (m.tick, 0, 3) := alloc_full h 117 (.int .i64 v)
      have hf := frees_all ts m.tick 0 0 (by rw [Nat.zero_add, hl]; exact h.tick) (by omega) hd (fun x hx => by rw [tick_val]; exact hv x hx)
      rw [hl, Int.zero_add] at hf
      refine ⟨m.tick.frees ts, ?_, hf⟩
      unfold M.allocs
      rw [e1]
      simp
/-- What Make comes to in a memory of n cells: all of it, or nothing. -/
theorem make_end {low : ByteArray} {k : Nat} {xs : List Int} (hx : xs.length = k) {e : Ending} (hn : n ≤ 1000) (h : MakeIn w0 w pb mb cb low k ((M.new n).allocs (0 :: xs) []) e w') :
    ∃ (M1 : M) (q : Nat) (g x e3 : Int), e = .returned (.tuple #[.int .i64 x, .int .i64 e3]) ∧ Shape M1 n q g ∧ g ≤ 1000 ∧ St w0 w' pb mb cb M1 ∧ Fr w w' mb cb ∧ ((n < k + 2 ∧ x = 0 ∧ e3 = 3 ∧ q = 0) ∨ (k + 2 ≤ n ∧ e3 = 0 ∧ q = k + 2)) := by
  obtain ⟨hF, h⟩ := h
  have hs := new_shape n (by omega)
  have hl : (0 :: xs).length = k + 1 := by simp [hx]
  by_cases h1 : n < k + 1
  · obtain ⟨m1, e1, s1⟩ := allocs_full (0 :: xs) (M.new n) [] 0 hs rfl (by simp) (by simp) (by omega)
    rw [e1] at h
    rcases h with ⟨_, rfl, h⟩ | ⟨h, _⟩
    · exact ⟨m1, 0, n, 0, 3, rfl, s1, by omega, h, hF, Or.inl ⟨by omega, rfl, rfl, rfl⟩⟩
    · simp at h
  · obtain ⟨m1, us, e1, l1, s1, d1, f1, v1, _⟩ := allocs_room (by omega) (0 :: xs) (M.new n) [] 0 hs (by omega)
    rw [e1] at h
    rcases h with ⟨h, _⟩ | ⟨_, t0, rest, A, c, eu, er, hR, -, M2, x2, e2, ha, h⟩
    · simp at h
    · simp only [List.nil_append] at eu ha
      subst eu
      rw [Nat.zero_add, hl] at s1
      by_cases h2 : n = k + 1
      · subst h2
        rw [alloc_full s1 46 _] at ha
        injection ha with a1 ha
        injection ha with a2 a3
        subst a1 a2 a3
        rcases h with ⟨h, _⟩ | ⟨_, rfl, h⟩
        · simp at h
        · have hf := frees_all (t0 :: rest) m1.tick 0 0 (by rw [Nat.zero_add, l1, hl]; exact s1.tick) (by rw [l1, hl]; omega) d1 (fun x hx => by
            obtain ⟨j, hj, ej⟩ := List.getElem_of_mem hx
            have := v1 j hj
            rw [List.getD_eq_getElem?_getD, List.getElem?_eq_getElem hj, Option.getD_some, ej] at this
            rw [tick_val, this]
            simp)
          rw [l1, hl] at hf
          exact ⟨_, 0, _, 0, 3, rfl, hf, by omega, h, hF, Or.inl ⟨by omega, rfl, rfl, rfl⟩⟩
      · obtain ⟨m2, x, ea, _, _, s2⟩ := alloc_val s1 (by omega) (by omega) 46 (Nd.v ⟨low, t0, A, k, c⟩)
        rw [ea] at ha
        injection ha with a1 ha
        injection ha with a2 a3
        subst a1 a2 a3
        rcases h with ⟨_, rfl, h⟩ | ⟨h, _⟩
        · exact ⟨m2, k + 2, 0, x, 0, rfl, s2, by omega, h, hF, Or.inr ⟨by omega, rfl, rfl⟩⟩
        · simp at h
/-- What Lay comes to: all of it, or nothing. -/
theorem lay_end {q : Nat} {g : Int} (h : St w0 w pb mb cb m) (hS : Shape m n q g) (hg : g ≤ 1000) (ver : Int) (dead : Bool) (bef : Int) :
    ∃ (M2 : M) (x e3 : Int), Calls Try.prog 17 #[ptr pb, revV ver dead, .int .i64 bef] w (Endp w0 w pb mb cb (.tuple #[.int .i64 x, .int .i64 e3]) M2) ∧ ((n < q + 2 ∧ x = 0 ∧ e3 = 3 ∧ M2.live = q) ∨ (q + 2 ≤ n ∧ e3 = 0 ∧ M2.live = (q : Int) + 2)) := by
  have hkn := hS.kn
  by_cases h0 : q = n
  · subst h0
    exact ⟨_, 0, 3, lay_full h ver dead bef (by decide) (alloc_full hS 117 (.int .i64 bef)), Or.inl ⟨by omega, rfl, rfl, hS.tick.live⟩⟩
  · by_cases h1 : q + 1 = n
    · obtain ⟨m1, x1, e1, n1, t1, s1⟩ := alloc_val hS (by omega) (by omega) 117 (.int .i64 bef)
      have s1' : Shape m1 n n g := h1 ▸ s1
      have hs1 : Shape m1.tick n (q + 1) g := s1.tick
      obtain ⟨m3, e3, _, s3⟩ := free_val (x := x1) hs1 (by omega) (by rw [tick_val]; exact t1.self)
      exact ⟨m3, 0, 3, lay_undone h ver dead bef (by decide) e1 (alloc_full s1' 52 _) e3, Or.inl ⟨by omega, rfl, rfl, s3.live⟩⟩
    · obtain ⟨M1, M2, x1, x2, e1, e2, _, _, _, _, _, _, s2⟩ := lay_val hS (by omega) (by omega) ver dead bef
      exact ⟨M2, x2, 0, lay_ok h ver dead bef e1 e2, Or.inr ⟨by omega, rfl, by rw [s2.live]; omega⟩⟩
theorem int_info3 : (Try.prog.info? 3).map (fun i => (i.zero, i.size, i.bytes)) = some (some (.int .i64 0), 1, 8) := by kernel_rfl
theorem make_zeros {xs : List Int} {k : Nat} (hx : xs = List.replicate k 0) (hk : k ≤ 1000) (w : World) : ∃ w1, (Instr.makeSlice 32 (.int .i64 (k : Int)) (.int .i64 (k : Int))).run Try.prog w = .ok (.slice (some ⟨w.heap.size, 0, none⟩) xs.length k) w1 ∧ RdT w1 (some ⟨w.heap.size, 0, none⟩) xs ∧ Below w.heap.size w w1 := by
  obtain ⟨i, hi, hz⟩ := Option.map_eq_some_iff.1 int_info3
  simp only [Prod.mk.injEq] at hz
  obtain ⟨hz, hs, hb⟩ := hz
  have hr := run_make (P := Try.prog) w 32 3 i _ Try.underlying32 hi hz .i64 .i64 k k (by omega) (Int.le_refl _) (by rw [hb]; omega) (by omega)
  rw [hs] at hr
  simp only [Int.toNat_natCast] at hr
  have hl : xs.length = k := by rw [hx]; simp
  rw [hl]
  refine ⟨_, hr, ⟨⟨rfl, by simp [hl]; omega, fun _ => ⟨_, rfl, fun j hj => ?_⟩⟩, fun ad e => ?_⟩, below_alloc (Below.refl _ _) _⟩
  · rw [Addr.add_lit, Nat.zero_add]
    refine (blk_cell (blk_new _ _) j).trans ?_
    have hj' : j < k := by omega
    have e1 : xs.getD j 0 = 0 := by rw [hx]; simp [List.getD_eq_getElem?_getD, List.getElem?_replicate, hj']
    rw [e1]
    simp [madeCells, Value.cells, hj', Nat.mod_one]
  · injection e with e
    subst e
    exact ⟨rfl, _, blk_new _ _⟩
end
end Go.Proofs.Ytcfbjcadpcedhaa.Mem
