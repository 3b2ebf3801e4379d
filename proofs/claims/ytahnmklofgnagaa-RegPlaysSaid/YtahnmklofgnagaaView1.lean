/- Descriptors in memory as a map: what their making, publishing and undoing come to. Plain lemmas. -/
import Derived.Test.YtahnmklofgnagaaView0
import Derived.Test.YtahnmklofgnagaaDesc3
namespace Go.Proofs.Ytahnmklofgnagaa.Mem
open Go.RowKit Go.Proofs.YtahnmklofgnagaaW.PrintWords Go.Proofs.YtahnmklofgnagaaW.PrintLast Go.Proofs.Ytahnmklofgnagaa.Tags
set_option linter.unusedVariables false
set_option linter.unusedSimpArgs false
section
variable {m m' : M} {x y : Int} {i : Nat} {n k : Nat} {g : Int}
theorem okd_cells (e : m'.cells = m.cells) : m'.okd = m.okd := by unfold M.okd; rw [e]
theorem okd_put (h : m.okd = true) (i : Nat) (c : Cl) (hc : okD c.v = true) : (m.put i c).okd = true := by
  unfold M.okd M.put
  refine List.all_eq_true.2 fun d hd => ?_
  rcases List.mem_or_eq_of_mem_set hd with hd | rfl
  · exact List.all_eq_true.1 h d hd
  · exact hc
theorem okD_number (z : Int) : okD (number z) = true := rfl
theorem okd_tick (h : m.okd = true) : m.tick.okd = true := h
theorem okd_gone (h : m.okd = true) : m.gone.okd = true := h
theorem okd_hold (h : m.okd = true) (i : Nat) (z : Int) : (m.tick.hold i (number z)).okd = true := okd_put (okd_tick h) i _ rfl
theorem okd_word (h : m.okd = true) (x : Int) : (m.word x).1.okd = true := by
  unfold M.word
  split
  · exact h
  · split <;> exact h
theorem okd_load1 (h : m.okd = true) (x : Int) : (m.load x).1.okd = true := by
  unfold M.load
  split
  · exact h
  · split <;> exact h
theorem okd_store (h : m.okd = true) (x z : Int) : (m.store x z).1.okd = true := by
  unfold M.store
  split
  · exact h
  · split
    · exact okd_hold h _ _
    · exact h
theorem okd_swap (h : m.okd = true) (x a z : Int) : (m.swap x a z).1.okd = true := by
  unfold M.swap
  split
  · exact h
  · split
    · split
      · exact okd_hold h _ _
      · exact h
    · exact h
theorem okd_free (h : m.okd = true) (x : Int) : (m.free x).1.okd = true := by
  unfold M.free
  split
  · exact h
  · rename_i i _
    exact okd_put (okd_tick h) i ⟨.nilIface, wrap64 ((m.tick.at i).gen + 1), 0, false⟩ rfl
theorem okd_retire (h : m.okd = true) (x s : Int) : (m.retire x s).1.okd = true := by
  unfold M.retire
  split
  · exact h
  · rename_i i _
    exact okd_put (okd_tick h) i ((m.at i).retire s) (okd_at h i)
theorem okd_alloc (h : m.okd = true) (v : Value) (hv : okD v = true) : (m.alloc v).1.okd = true := by
  unfold M.alloc M.putv
  split
  · exact okd_put (okd_tick h) _ _ hv
  · exact h
theorem okD_desc (d : D) : okD (.iface 51 d.v) = true := rfl
theorem okd_new (n : Nat) : (M.new n).okd = true := by
  unfold M.okd M.new
  refine List.all_eq_true.2 fun c hc => ?_
  obtain rfl := List.eq_of_mem_replicate hc
  rfl
theorem dload_val {d : D} (hv : m.val x = some (.iface 51 d.v)) : m.dload x = (m.tick, d, 0) := by
  have e := load_val hv (by decide)
  unfold M.dload
  rw [e]
  rfl
theorem laid_val (h : Shape m n k g) (hk : k + 2 ≤ n) (hg : g ≤ 16383) (s : Int) (d : D) : ∃ m' x st, m.laid s d = (m', x, 0) ∧ m.val st = none ∧ m.val x = none ∧ x ≠ st ∧ m'.val st = some (number s) ∧ m'.val x = some (.iface 51 (D.v { d with st := st })) ∧
    (∀ y, y ≠ st → y ≠ x → m'.val y = m.val y) ∧ Shape m' n (k + 2) g ∧ (m.okd = true → m'.okd = true) := by
  obtain ⟨m1, st, e1, n1, t1, s1⟩ := alloc_val h (by omega) hg 166 (.int .i64 s)
  obtain ⟨m2, x, e2, n2, t2, s2⟩ := alloc_val s1 (by omega) hg 51 (D.v { d with st := st })
  have hne : x ≠ st := by rintro rfl; rw [t1.self] at n2; cases n2
  refine ⟨m2, x, st, ?_, n1, ?_, hne, ?_, t2.self, fun y h1 h2 => (t2.other y h2).trans (t1.other y h1), s2, fun ho => ?_⟩
  · unfold M.laid
    have e1' : m.alloc (number s) = (m1, st, 0) := e1
    rw [e1']
    simp only [ne_eq, not_true_eq_false, if_false]
    have e2' : m1.alloc (.iface 51 (D.v { ver := d.ver, bef := d.bef, st := st, A := d.A, n := d.n, k := d.k })) = (m2, x, 0) := e2
    rw [e2']
    simp only [ne_eq, not_true_eq_false, if_false]
  · rw [← t1.other x hne]; exact n2
  · rw [t2.other st (Ne.symm hne)]; exact t1.self
  · have a := okd_alloc ho (number s) rfl
    have e1' : m.alloc (number s) = (m1, st, 0) := e1
    rw [e1'] at a
    have b := okd_alloc a (.iface 51 (D.v { d with st := st })) (okD_desc _)
    rw [e2] at b
    exact b
/-- What the top tells: a descriptor, and its status. -/
structure TopAt (m : M) (top hd : Int) (d : D) (s : Int) : Prop where
  t_ : m.val top = some (number hd)
  h_ : m.val hd = some (.iface 51 d.v)
  s_ : m.val d.st = some (number s)
  ne : d.st ≠ top
theorem val_ne {x y : Int} {u v : Value} (h1 : m.val x = some u) (h2 : m.val y = some v) (hne : u ≠ v) : x ≠ y := by
  rintro rfl
  rw [h1] at h2
  injection h2 with h2
  exact hne h2
theorem number_ne {z : Int} {T : TypeId} {u : Value} (hT : T ≠ 166) : number z ≠ .iface T u := by
  intro e
  injection e with e
  exact hT e.symm
theorem TopAt.cells {top hd : Int} {d : D} {s : Int} (h : TopAt m top hd d s) (e : m'.cells = m.cells) : TopAt m' top hd d s := ⟨(val_cells e _).trans h.t_, (val_cells e _).trans h.h_, (val_cells e _).trans h.s_, h.ne⟩
theorem latest_val {top hd : Int} {d : D} {s : Int} (h : TopAt m top hd d s) : m.latest top = (m.tick.tick.tick, hd, d, s == 1, 0) := by
  have e1 := word_val h.t_
  have e2 : m.tick.dload hd = (m.tick.tick, d, 0) := dload_val ((tick_val m hd).trans h.h_)
  have e3 : m.tick.tick.word d.st = (m.tick.tick.tick, s, 0) := word_val (((tick_val m.tick d.st).trans (tick_val m d.st)).trans h.s_)
  unfold M.latest
  rw [e1]
  simp only [ne_eq, not_true_eq_false, if_false]
  rw [e2]
  simp only [ne_eq, not_true_eq_false, if_false]
  rw [e3]
  simp
theorem version_val {top hd : Int} {d : D} {s : Int} (h : TopAt m top hd d s) : m.version top = (m.tick.tick.tick, if s = 1 then d.ver else d.bef, 0) := by
  unfold M.version
  rw [latest_val h]
  by_cases c : s = 1
  · subst c
    simp
  · simp [c]
theorem undo_val (h : Shape m n (k + 2) g) (hg : g ≤ 16383) {x : Int} {d : D} {u : Value} (hx : m.val x = some (.iface 51 d.v)) (hs : m.val d.st = some u) (hne : d.st ≠ x) : ∃ m', m.undo x = (m', 0) ∧ m'.val x = none ∧ m'.val d.st = none ∧ (∀ y, y ≠ x → y ≠ d.st → m'.val y = m.val y) ∧ Shape m' n k (g + 2) ∧ (m.okd = true → m'.okd = true) := by
  have e0 := dload_val hx
  obtain ⟨m1, e1, t1, s1⟩ := free_val h.tick (by omega) ((tick_val m x).trans hx)
  obtain ⟨m2, e2, t2, s2⟩ := free_val s1 (by omega) (x := d.st) (u := u) ((t1.other _ hne).trans ((tick_val m _).trans hs))
  refine ⟨m2, ?_, (t2.other x (Ne.symm hne)).trans t1.self, t2.self, fun y h1 h2 => (t2.other y h2).trans ((t1.other y h1).trans (tick_val m y)), by have := s2; rw [show g + 1 + 1 = g + 2 by omega] at this; exact this, fun ho => ?_⟩
  · unfold M.undo
    rw [e0]
    simp only [ne_eq, not_true_eq_false, if_false]
    rw [e1]
    simp only
    rw [e2]
    rfl
  · have a := okd_free (okd_tick ho) x
    rw [e1] at a
    have b := okd_free a d.st
    rw [e2] at b
    exact b
/-- A descriptor without swaps is made, published, done, and the one before undone. -/
theorem publish_val {top hd : Int} {d : D} (hT : TopAt m top hd d 1) (h : Shape m n k g) (h2k : 2 ≤ k) (hk : k + 2 ≤ n) (hg : g ≤ 16000) (ho : m.okd = true) (z : Int) :
    ∃ (M1 M2 M3 M4 M5 M6 : M) (gg nc : Int) , m.latest top = (M1, hd, ⟨d.ver, d.bef, d.st, d.A, d.n, d.k⟩, true, 0) ∧ M1.laid 0 ⟨z, d.ver, 0, none, 0, 0⟩ = (M2, gg, 0) ∧ M2.swap top hd gg = (M3, true, 0) ∧ M3.okd = true ∧ M3.dload gg = (M4, ⟨z, d.ver, nc, none, 0, 0⟩, 0) ∧ M4.swap nc 0 1 = (M5, true, 0) ∧ M5.okd = true ∧ M5.undo hd = (M6, 0) ∧
      TopAt M6 top gg ⟨z, d.ver, nc, none, 0, 0⟩ 1 ∧ Shape M6 n k (g + 2) ∧ M6.okd = true ∧ ∀ y u, m.val y = some u → y ≠ top → y ≠ hd → y ≠ d.st → M6.val y = some u := by
  have e1 := latest_val hT
  obtain ⟨M1, hM1⟩ : ∃ M1, M1 = m.tick.tick.tick := ⟨_, rfl⟩
  rw [← hM1] at e1
  have c1 : M1.cells = m.cells := by rw [hM1]; rfl
  have s1 : Shape M1 n k g := by rw [hM1]; exact h.tick.tick.tick
  have T1 := hT.cells c1
  have o1 : M1.okd = true := by rw [okd_cells c1]; exact ho
  have v1 : ∀ y, M1.val y = m.val y := val_cells c1
  clear hM1 hT h
  obtain ⟨M2, gg, nc, e2, n1, n2, n3, w1, w2, w3, s2, o2⟩ := laid_val s1 hk (by omega) 0 ⟨z, d.ver, 0, none, 0, 0⟩
  have f1 : ∀ y u, M1.val y = some u → y ≠ nc ∧ y ≠ gg := fun y u hy => ⟨(by rintro rfl; rw [n1] at hy; cases hy), (by rintro rfl; rw [n2] at hy; cases hy)⟩
  have k2 : ∀ y u, M1.val y = some u → M2.val y = some u := fun y u hy => (w3 y (f1 y u hy).1 (f1 y u hy).2).trans hy
  obtain ⟨M3, e3, t3, s3⟩ := swap_val s2 (k2 _ _ T1.t_) gg
  have ntop := f1 _ _ T1.t_
  have o3 : M3.okd = true := by have := okd_swap (o2 o1) top hd gg; rw [e3] at this; exact this
  have g3 : M3.val gg = some (.iface 51 (D.v ⟨z, d.ver, nc, none, 0, 0⟩)) := (t3.other gg (Ne.symm ntop.2)).trans w2
  have e4 := dload_val g3
  have g4 : M3.tick.val nc = some (number 0) := ((tick_val M3 nc).trans (t3.other nc (Ne.symm ntop.1))).trans w1
  obtain ⟨M5, e5, t5, s5⟩ := swap_val s3.tick g4 1
  have o5 : M5.okd = true := by have := okd_swap (okd_tick o3) nc 0 1; rw [e5] at this; exact this
  have hth : top ≠ hd := val_ne T1.t_ T1.h_ (number_ne (by decide))
  have hsh : d.st ≠ hd := val_ne T1.s_ T1.h_ (number_ne (by decide))
  have k5 : ∀ y u, M1.val y = some u → y ≠ top → M5.val y = some u := fun y u hy hne => (t5.other y (f1 y u hy).1).trans ((tick_val M3 y).trans ((t3.other y hne).trans (k2 y u hy)))
  have s5' : Shape M5 n (k + 2) g := s5
  have hst := T1.ne
  obtain ⟨M6, e6, u1, u2, u3, s6, o6⟩ := undo_val s5' (by omega) (k5 hd _ T1.h_ (Ne.symm hth)) (k5 d.st _ T1.s_ hst) hsh
  have fh := f1 _ _ T1.h_
  have fs := f1 _ _ T1.s_
  refine ⟨M1, M2, M3, M3.tick, M5, M6, gg, nc, e1, e2, e3, o3, e4, e5, o5, e6, ⟨?_, ?_, ?_, ?_⟩, s6, o6 o5, fun y u hy h1 h2 h3 => ?_⟩
  · rw [u3 top hth (Ne.symm hst), t5.other top ntop.1, tick_val, t3.self]
  · rw [u3 gg (Ne.symm fh.2) (Ne.symm fs.2), t5.other gg n3, tick_val, g3]
  · show M6.val nc = _
    rw [u3 nc (Ne.symm fh.1) (Ne.symm fs.1), t5.self]
  · exact Ne.symm ntop.1
  · rw [u3 y h2 h3]
    exact k5 y u ((v1 y).trans hy) h1
end
end Go.Proofs.Ytahnmklofgnagaa.Mem
