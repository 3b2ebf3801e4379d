/- Descriptors, by a port that asks memory at once: what Load and laid answer. -/
import Derived.Test.YtahnmklofgnagaaSt0
namespace Go.Proofs.Ytahnmklofgnagaa.Mem
open Go.RowKit Go.Proofs.YtahnmklofgnagaaW.PrintWords Go.Proofs.YtahnmklofgnagaaW.PrintLast Go.Proofs.Ytahnmklofgnagaa.Tags
set_option linter.unusedVariables false
set_option linter.unusedSimpArgs false
section
variable {w0 w w' : World} {pb mb cb : Nat} {m m' : M}
/-- A descriptor. -/
structure D where
  ver : Int
  bef : Int
  st : Int
  A : Option Addr
  n : Nat
  k : Nat
abbrev D.v (d : D) : Value := .agg #[.int .i64 d.ver, .int .i64 d.bef, .int .i64 d.st, .slice d.A d.n d.k]
abbrev D.z : D := ⟨0, 0, 0, none, 0, 0⟩
def asL : List Value → Option D
  | [.int .i64 a, .int .i64 b, .int .i64 c, .slice A n k] => some ⟨a, b, c, A, n, k⟩
  | _ => none
theorem asL_some {l : List Value} {d : D} (h : asL l = some d) : l = [.int .i64 d.ver, .int .i64 d.bef, .int .i64 d.st, .slice d.A d.n d.k] := by
  unfold asL at h
  split at h
  · injection h with h
    subst h
    rfl
  · cases h
def asV : Value → Option D
  | .agg xs => asL xs.toList
  | _ => none
theorem asV_some {x : Value} {d : D} (h : asV x = some d) : x = d.v := by
  unfold asV at h
  split at h
  · rename_i xs
    have e := asL_some h
    unfold D.v
    rw [← e]
  · cases h
def asD : Value → Option D
  | .iface T x => if T = 51 then asV x else none
  | _ => none
/-- What has a descriptor's type is one. -/
def okD : Value → Bool
  | .iface T x => decide (T ≠ 51) || (asV x).isSome
  | _ => true
def M.okd (m : M) : Bool := m.cells.all fun c => okD c.v
theorem okD_cases {v : Value} (h : okD v = true) : (∃ d : D, v = .iface 51 d.v ∧ asD v = some d) ∨ ((∀ x, v ≠ .iface 51 x) ∧ asD v = none) := by
  unfold okD at h
  split at h
  · rename_i T x
    by_cases hT : T = 51
    · subst hT
      have h2 : (asV x).isSome = true := by simpa using h
      obtain ⟨d, hd⟩ := Option.isSome_iff_exists.1 h2
      refine Or.inl ⟨d, by rw [asV_some hd], ?_⟩
      show (if (51 : TypeId) = 51 then asV x else none) = some d
      rw [if_pos rfl, hd]
    · refine Or.inr ⟨fun y e => ?_, ?_⟩
      · injection e with e
        exact hT e
      · show (if T = 51 then asV x else none) = none
        rw [if_neg hT]
  · rename_i h1
    refine Or.inr ⟨fun x e => h1 _ _ e, ?_⟩
    unfold asD
    split
    · exact absurd rfl (h1 _ _)
    · rfl
theorem okd_at (h : m.okd = true) (i : Nat) : okD (m.at i).v = true := by
  unfold M.okd at h
  unfold M.at
  by_cases hi : i < m.cells.length
  · rw [List.getD_eq_getElem?_getD, List.getElem?_eq_getElem hi]
    exact List.all_eq_true.1 h _ (List.getElem_mem hi)
  · rw [List.getD_eq_getElem?_getD, List.getElem?_eq_none (by omega)]
    rfl
theorem okd_load (h : m.okd = true) (x : Int) : okD (m.load x).2.1 = true := by
  unfold M.load
  split
  · rfl
  · split
    · rfl
    · exact okd_at h _
def M.dload (m : M) (h : Int) : M × D × Int := if (m.load h).2.2 ≠ 0 then ((m.load h).1, D.z, (m.load h).2.2) else match asD (m.load h).2.1 with
  | some d => ((m.load h).1, d, 0)
  | none => ((m.load h).1, D.z, 6)
theorem ta_desc (d : D) (w : World) : (Instr.typeAssert (.iface 51 d.v) 20 51 true).run Try.prog w = .ok (.tuple #[d.v, .bool true]) w := by kernel_rfl
theorem zero_desc (w : World) : (zeroValue 51).run Try.prog w = .ok D.z.v w := by kernel_rfl
theorem ta_other {T : TypeId} (u : Value) (hT : T ≠ 51) (w : World) : (Instr.typeAssert (.iface T u) 20 51 true).run Try.prog w = .ok (.tuple #[D.z.v, .bool false]) w := by
  have hu := Try.underlying51
  have hz := zero_desc w
  simp [Instr.typeAssert, run_underlying hu, hT, hz]
theorem ta_nilD (w : World) : (Instr.typeAssert .nilIface 20 51 true).run Try.prog w = .ok (.tuple #[D.z.v, .bool false]) w := by kernel_rfl
theorem nilbox (w : World) (b : Nat) (h : b = w.heap.size) : (w.alloc (.cells #[.int .i64 0, .int .i64 0, .int .i64 0, .slice none 0 0] 51)).heap[b]? = some (.cells #[.int .i64 0, .int .i64 0, .int .i64 0, .slice none 0 0] 51 (0, 0)) := h ▸ blk_new w _
set_option maxHeartbeats 1600000 in
set_option maxRecDepth 100000 in
theorem dload_calls (h : St w0 w pb mb cb m) (ho : m.okd = true) (x : Int) : Calls Try.prog 23 #[ptr pb, .int .i64 x] w (Endp w0 w pb mb cb (.tuple #[(m.dload x).2.1.v, .int .i64 (m.dload x).2.2]) (m.dload x).1) := by
  obtain ⟨M1, d1, e1, hy⟩ : ∃ M1 d1 e1, m.dload x = (M1, d1, e1) := ⟨_, _, _, rfl⟩
  rw [hy]
  unfold M.dload at hy
  obtain ⟨W, hW⟩ : ∃ W : World, W = w.alloc (.cells #[.int .i64 0, .int .i64 0, .int .i64 0, .slice none 0 0] 51) := ⟨_, rfl⟩
  have hb : Below w.heap.size w W := hW ▸ below_alloc (Below.refl _ _) _
  have hK : W.heap[w.heap.size]? = some (.cells #[.int .i64 0, .int .i64 0, .int .i64 0, .slice none 0 0] 51 (0, 0)) := hW ▸ blk_new w _
  have h1 := h.below hb
  have hbw : w0.heap.size ≤ w.heap.size := h.F.size
  have hl := okd_load ho x
  have HW := Lib.hid hW
  have HB := Lib.hid hb
  clear hW hb
  go_enter Try.func23, Try.ntmps23
  go_wp2_with fail
  rw [← HW.out]
  refine (qLoad h1 x).mono ?_
  have hv : (m.load x).2.1 = .nilIface ∨ ∃ T u, (m.load x).2.1 = .iface T u := load_iface h.A x
  rintro e W2 ⟨rfl, h2, hF⟩
  have hK2 := hF.blk h1.A hK (by decide) (by decide)
  obtain ⟨k0, k1, k2, k3⟩ := box4 hK2
  have z0 := blk_frozen hK2 0
  have z1 := blk_frozen hK2 1
  have z2 := blk_frozen hK2 2
  have z3 := blk_frozen hK2 3
  generalize m.load x = r at *
  obtain ⟨M2, v, e⟩ := r
  simp only at h2 hl hy hv ⊢
  have HF := Lib.hid ((Fr.of_below HB.out mb cb).trans hF)
  have HK2 := Lib.hid hK2
  clear hK2 hF h1 hK
  by_cases he : e = 0
  · subst he
    rw [if_neg (by decide)] at hy
    rcases okD_cases hl with ⟨d, hd, ha⟩ | ⟨hd, ha⟩
    · rw [ha] at hy
      injection hy with hy1 hy
      injection hy with hy2 hy3
      subst hd hy1 hy2 hy3
      clear hv hl ha
      have hta := ta_desc d
      have HK3 := Lib.hid (blk_alloc HK2.out (.cells #[.int .i64 d.ver, .int .i64 d.bef, .int .i64 d.st, .slice d.A d.n d.k] 51))
      have y0 := blk_frozen HK3.out 0
      have y1 := blk_frozen HK3.out 1
      have y2 := blk_frozen HK3.out 2
      have y3 := blk_frozen HK3.out 3
      obtain ⟨q0, q1, q2, q3⟩ := box4 HK3.out
      go_wp2_with fail
      have hk := blk4 HK3.out (.int .i64 d.ver) (.int .i64 d.bef) (.int .i64 d.st) (.slice d.A d.n d.k)
      have hon := only4 (W2.alloc (.cells #[.int .i64 d.ver, .int .i64 d.bef, .int .i64 d.st, .slice d.A d.n d.k] 51)) w.heap.size (.int .i64 d.ver) (.int .i64 d.bef) (.int .i64 d.st) (.slice d.A d.n d.k)
      obtain ⟨u0, u1, u2, u3⟩ := box4 hk
      have FIN := Lib.hid (show Endp w0 w pb mb cb (.tuple #[d.v, .int .i64 0]) M2 (.returned (.tuple #[d.v, .int .i64 0])) _ from ⟨rfl, (h2.alloc (.cells #[.int .i64 d.ver, .int .i64 d.bef, .int .i64 d.st, .slice d.A d.n d.k] 51)).only hon HK3.out (by decide) (by decide) (by decide) hbw, (HF.out.alloc _).only hon (Nat.le_refl _)⟩)
      clear hk hon k0 k1 k2 k3 z0 z1 z2 z3 y0 y1 y2 y3 q0 q1 q2 q3
      exact bodyPost_ret (v := .tuple #[d.v, .int .i64 0]) (by simp [results, Try.results23, go_sem, u0, u1, u2, u3, D.v, D.z]) rfl FIN.out
    · rw [ha] at hy
      injection hy with hy1 hy
      injection hy with hy2 hy3
      subst hy1 hy2 hy3
      rcases hv with hv | ⟨T, u, hv⟩
      · subst hv
        clear hl ha hd
        have hta := ta_nilD
        have HK3 := Lib.hid (blk_alloc HK2.out (.cells #[.int .i64 0, .int .i64 0, .int .i64 0, .slice none 0 0] 51))
        have y0 := blk_frozen HK3.out 0
        have y1 := blk_frozen HK3.out 1
        have y2 := blk_frozen HK3.out 2
        have y3 := blk_frozen HK3.out 3
        obtain ⟨q0, q1, q2, q3⟩ := box4 HK3.out
        go_wp2_with fail
        have hk := blk4 HK3.out (.int .i64 0) (.int .i64 0) (.int .i64 0) (.slice none 0 0)
        have hon := only4 (W2.alloc (.cells #[.int .i64 0, .int .i64 0, .int .i64 0, .slice none 0 0] 51)) w.heap.size (.int .i64 0) (.int .i64 0) (.int .i64 0) (.slice none 0 0)
        obtain ⟨u0, u1, u2, u3⟩ := box4 hk
        have FIN := Lib.hid (show Endp w0 w pb mb cb (.tuple #[D.z.v, .int .i64 6]) M2 (.returned (.tuple #[D.z.v, .int .i64 6])) _ from ⟨rfl, (h2.alloc (.cells #[.int .i64 0, .int .i64 0, .int .i64 0, .slice none 0 0] 51)).only hon HK3.out (by decide) (by decide) (by decide) hbw, (HF.out.alloc _).only hon (Nat.le_refl _)⟩)
        clear hk hon k0 k1 k2 k3 z0 z1 z2 z3 y0 y1 y2 y3 q0 q1 q2 q3
        exact bodyPost_ret (v := .tuple #[D.z.v, .int .i64 6]) (by simp [results, Try.results23, go_sem, u0, u1, u2, u3, D.v, D.z]) rfl FIN.out
      · subst hv
        have hT : T ≠ 51 := fun e => hd u (by rw [e])
        have HT := Lib.hid hT
        clear hl ha hd hT
        have hta := ta_other u HT.out
        have HK3 := Lib.hid (blk_alloc HK2.out (.cells #[.int .i64 0, .int .i64 0, .int .i64 0, .slice none 0 0] 51))
        have y0 := blk_frozen HK3.out 0
        have y1 := blk_frozen HK3.out 1
        have y2 := blk_frozen HK3.out 2
        have y3 := blk_frozen HK3.out 3
        obtain ⟨q0, q1, q2, q3⟩ := box4 HK3.out
        go_wp2_with fail
        have hk := blk4 HK3.out (.int .i64 0) (.int .i64 0) (.int .i64 0) (.slice none 0 0)
        have hon := only4 (W2.alloc (.cells #[.int .i64 0, .int .i64 0, .int .i64 0, .slice none 0 0] 51)) w.heap.size (.int .i64 0) (.int .i64 0) (.int .i64 0) (.slice none 0 0)
        obtain ⟨u0, u1, u2, u3⟩ := box4 hk
        have FIN := Lib.hid (show Endp w0 w pb mb cb (.tuple #[D.z.v, .int .i64 6]) M2 (.returned (.tuple #[D.z.v, .int .i64 6])) _ from ⟨rfl, (h2.alloc (.cells #[.int .i64 0, .int .i64 0, .int .i64 0, .slice none 0 0] 51)).only hon HK3.out (by decide) (by decide) (by decide) hbw, (HF.out.alloc _).only hon (Nat.le_refl _)⟩)
        clear hk hon k0 k1 k2 k3 z0 z1 z2 z3 y0 y1 y2 y3 q0 q1 q2 q3
        exact bodyPost_ret (v := .tuple #[D.z.v, .int .i64 6]) (by simp [results, Try.results23, go_sem, u0, u1, u2, u3, D.v, D.z]) rfl FIN.out
  · have g1 : (e != 0) = true := by simpa using he
    rw [if_pos he] at hy
    injection hy with hy1 hy
    injection hy with hy2 hy3
    subst hy1 hy2 hy3
    go_wp2_with fail
    have hk := blk4 HK2.out (.int .i64 0) (.int .i64 0) (.int .i64 0) (.slice none 0 0)
    have hon := only4 W2 w.heap.size (.int .i64 0) (.int .i64 0) (.int .i64 0) (.slice none 0 0)
    obtain ⟨u0, u1, u2, u3⟩ := box4 hk
    have FIN := Lib.hid (show Endp w0 w pb mb cb (.tuple #[D.z.v, .int .i64 e]) M2 (.returned (.tuple #[D.z.v, .int .i64 e])) _ from ⟨rfl, h2.only hon HK2.out (by decide) (by decide) (by decide) hbw, HF.out.only hon (Nat.le_refl _)⟩)
    clear hk hon k0 k1 k2 k3 z0 z1 z2 z3
    exact bodyPost_ret (v := .tuple #[D.z.v, .int .i64 e]) (by simp [results, Try.results23, go_sem, u0, u1, u2, u3, D.v, D.z]) rfl FIN.out
end
end Go.Proofs.Ytahnmklofgnagaa.Mem
