/- Descriptors, by a port that asks memory at once: what Load and laid answer. -/
import Derived.Test.YtahnmklofgnagaaPort1
import Derived.Test.YtahnmklofgnagaaPort2
import Derived.Test.YtahnmklofgnagaaPort3
import Derived.Test.YtahnmklofgnagaaPort4
namespace Go.Proofs.Ytahnmklofgnagaa.Mem
open Go.RowKit Go.Proofs.YtahnmklofgnagaaW.PrintWords Go.Proofs.YtahnmklofgnagaaW.PrintLast Go.Proofs.Ytahnmklofgnagaa.Tags
set_option linter.unusedVariables false
set_option linter.unusedSimpArgs false
section
variable {w0 w w' : World} {pb mb cb : Nat} {m m' : M}
/-- A port over memory, behind a beginning. -/
structure St (w0 w : World) (pb mb cb : Nat) (m : M) : Prop where
  A : At w mb cb m
  P : PD w pb mb
  F : Fr w0 w mb cb
theorem St.refl (hA : At w mb cb m) (hP : PD w pb mb) : St w w pb mb cb m := ⟨hA, hP, Fr.refl _ _ _⟩
theorem St.below (h : St w0 w pb mb cb m) (hb : Below w.heap.size w w') : St w0 w' pb mb cb m := ⟨h.A.below hb, h.P.below hb, h.F.trans (Fr.of_below hb _ _)⟩
theorem St.alloc (h : St w0 w pb mb cb m) (o : Obj) : St w0 (w.alloc o) pb mb cb m := h.below (below_alloc (Below.refl _ _) _)
theorem St.drewN (h : St w0 w pb mb cb m) (n : Nat) : St w0 (w.drewN n) pb mb cb m := h.below (pw_below_drewN (Below.refl _ _) n)
theorem St.lt_mb (h : St w0 w pb mb cb m) : mb < w.heap.size := blk_lt h.A.hm
theorem St.lt_cb (h : St w0 w pb mb cb m) : cb < w.heap.size := blk_lt h.A.hc
theorem St.lt_pb (h : St w0 w pb mb cb m) : pb < w.heap.size := blk_lt h.P
/-- A store into a block of another type that is new. -/
theorem St.set (h : St w0 w pb mb cb m) {b k : Nat} {cs : Array Value} {t : TypeId} (hk : w.heap[b]? = some (.cells cs t (0, 0))) (h1 : t ≠ 132) (h2 : t ≠ 165) (h3 : t ≠ 111) (hb : w0.heap.size ≤ b) (v : Value) : St w0 (w.setCell ⟨b, k, none⟩ v) pb mb cb m := by
  have n1 : mb ≠ b := by rintro rfl; exact h1 ((by have := hk.symm.trans h.A.hm; injection this with this; injection this))
  have n2 : cb ≠ b := by rintro rfl; exact h2 ((by have := hk.symm.trans h.A.hc; injection this with this; injection this))
  have n3 : pb ≠ b := by rintro rfl; exact h3 ((by have := hk.symm.trans h.P; injection this with this; injection this))
  have ho := Only.set w ⟨b, k, none⟩ v
  exact ⟨h.A.only ho n1 n2, (ho.block pb n3).trans h.P, h.F.only ho hb⟩
theorem St.only (h : St w0 w pb mb cb m) {b : Nat} (ho : Only w w' b) {cs : Array Value} {t : TypeId} (hk : w.heap[b]? = some (.cells cs t (0, 0))) (h1 : t ≠ 132) (h2 : t ≠ 165) (h3 : t ≠ 111) (hb : w0.heap.size ≤ b) : St w0 w' pb mb cb m := by
  have n1 : mb ≠ b := by rintro rfl; exact h1 ((by have := hk.symm.trans h.A.hm; injection this with this; injection this))
  have n2 : cb ≠ b := by rintro rfl; exact h2 ((by have := hk.symm.trans h.A.hc; injection this with this; injection this))
  have n3 : pb ≠ b := by rintro rfl; exact h3 ((by have := hk.symm.trans h.P; injection this with this; injection this))
  exact ⟨h.A.only ho n1 n2, (ho.block pb n3).trans h.P, h.F.only ho hb⟩
/-- A block of another type is as it was behind a call. -/
theorem Fr.blk (hF : Fr w w' mb cb) (hA : At w mb cb m) {b : Nat} {cs : Array Value} {t : TypeId} (hk : w.heap[b]? = some (.cells cs t (0, 0))) (h1 : t ≠ 132) (h2 : t ≠ 165) : w'.heap[b]? = some (.cells cs t (0, 0)) := by
  have n1 : b ≠ mb := by rintro rfl; exact h1 ((by have := hk.symm.trans hA.hm; injection this with this; injection this))
  have n2 : b ≠ cb := by rintro rfl; exact h2 ((by have := hk.symm.trans hA.hc; injection this with this; injection this))
  exact (hF.block b (blk_lt hk) n1 n2).trans hk
/-- What a call by a port comes to. -/
def Endp (w0 w : World) (pb mb cb : Nat) (a : Value) (m' : M) (e : Ending) (w' : World) : Prop := e = .returned a ∧ St w0 w' pb mb cb m' ∧ Fr w w' mb cb
theorem Endp.of {a : Value} (h : St w0 w pb mb cb m) (F : Nat) (args : Array Value) (hc : Calls Try.prog F args w (Ends w mb cb a m')) : Calls Try.prog F args w (Endp w0 w pb mb cb a m') :=
  hc.mono fun e w' ⟨h1, h2, h3⟩ => ⟨h1, ⟨h2, h.P.fr h.A h3, h.F.trans h3⟩, h3⟩
theorem qAllocWord (h : St w0 w pb mb cb m) (n : Int) : Calls Try.prog 72 #[ptr pb, .int .i64 n] w (Endp w0 w pb mb cb (.tuple #[.int .i64 (m.alloc (number n)).2.1, .int .i64 (m.alloc (number n)).2.2]) (m.alloc (number n)).1) := Endp.of h _ _ (pAllocWord h.A h.P n)
theorem qAlloc (h : St w0 w pb mb cb m) (T : TypeId) (u : Value) (hv : OkV (.iface T u)) : Calls Try.prog 25 #[ptr pb, .iface T u] w (Endp w0 w pb mb cb (.tuple #[.int .i64 (m.alloc (.iface T u)).2.1, .int .i64 (m.alloc (.iface T u)).2.2]) (m.alloc (.iface T u)).1) := Endp.of h _ _ (pAlloc h.A h.P T u hv)
theorem qLoad (h : St w0 w pb mb cb m) (x : Int) : Calls Try.prog 78 #[ptr pb, .int .i64 x] w (Endp w0 w pb mb cb (.tuple #[(m.load x).2.1, .int .i64 (m.load x).2.2]) (m.load x).1) := Endp.of h _ _ (pLoad h.A h.P x)
theorem qWord (h : St w0 w pb mb cb m) (x : Int) : Calls Try.prog 79 #[ptr pb, .int .i64 x] w (Endp w0 w pb mb cb (.tuple #[.int .i64 (m.word x).2.1, .int .i64 (m.word x).2.2]) (m.word x).1) := Endp.of h _ _ (pWord h.A h.P x)
theorem qStore (h : St w0 w pb mb cb m) (x n : Int) : Calls Try.prog 109 #[ptr pb, .int .i64 x, .int .i64 n] w (Endp w0 w pb mb cb (.int .i64 (m.store x n).2) (m.store x n).1) := Endp.of h _ _ (pStore h.A h.P x n)
theorem qSwap (h : St w0 w pb mb cb m) (x o n : Int) : Calls Try.prog 92 #[ptr pb, .int .i64 x, .int .i64 o, .int .i64 n] w (Endp w0 w pb mb cb (.tuple #[.bool (m.swap x o n).2.1, .int .i64 (m.swap x o n).2.2]) (m.swap x o n).1) := Endp.of h _ _ (pSwap h.A h.P x o n)
theorem qFree (h : St w0 w pb mb cb m) (x : Int) : Calls Try.prog 27 #[ptr pb, .int .i64 x] w (Endp w0 w pb mb cb (.int .i64 (m.free x).2) (m.free x).1) := Endp.of h _ _ (pFree h.A h.P x)
theorem qRetire (h : St w0 w pb mb cb m) (x s : Int) : Calls Try.prog 86 #[ptr pb, .int .i64 x, .int .i64 s] w (Endp w0 w pb mb cb (.int .i64 (m.retire x s).2) (m.retire x s).1) := Endp.of h _ _ (pRetire h.A h.P x s)
theorem qReap (h : St w0 w pb mb cb m) (p b : Int) : Calls Try.prog 40 #[ptr pb, .int .i64 p, .int .i64 b] w (Endp w0 w pb mb cb (.tuple #[.bool (m.reap p b).2.1, .int .i64 (m.reap p b).2.2]) (m.reap p b).1) := Endp.of h _ _ (pReap h.A h.P p b)
/-- A descriptor. -/
structure D where
  ver : Int
  bef : Int
  st : Int
  A : Option Addr
  n : Nat
  k : Nat
abbrev D.v (d : D) : Value := .agg #[.int .i64 d.ver, .int .i64 d.bef, .int .i64 d.st, .slice d.A d.n d.k]
abbrev D.z : D := ⟨0, 0, 0, none, 0, 0⟩
def asL : List Value → Option D
  | [.int .i64 a, .int .i64 b, .int .i64 c, .slice A n k] => some ⟨a, b, c, A, n, k⟩
  | _ => none
theorem asL_some {l : List Value} {d : D} (h : asL l = some d) : l = [.int .i64 d.ver, .int .i64 d.bef, .int .i64 d.st, .slice d.A d.n d.k] := by
  unfold asL at h
  split at h
  · injection h with h
    subst h
    rfl
  · cases h
def asV : Value → Option D
  | .agg xs => asL xs.toList
  | _ => none
theorem asV_some {x : Value} {d : D} (h : asV x = some d) : x = d.v := by
  unfold asV at h
  split at h
  · rename_i xs
    have e := asL_some h
    unfold D.v
    rw [← e]
  · cases h
def asD : Value → Option D
  | .iface T x => if T = 51 then asV x else none
  | _ => none
/-- What has a descriptor's type is one. -/
def okD : Value → Bool
  | .iface T x => decide (T ≠ 51) || (asV x).isSome
  | _ => true
def M.okd (m : M) : Bool := m.cells.all fun c => okD c.v
theorem okD_cases {v : Value} (h : okD v = true) : (∃ d : D, v = .iface 51 d.v ∧ asD v = some d) ∨ ((∀ x, v ≠ .iface 51 x) ∧ asD v = none) := by
  unfold okD at h
  split at h
  · rename_i T x
    by_cases hT : T = 51
    · subst hT
      have h2 : (asV x).isSome = true := by simpa using h
      obtain ⟨d, hd⟩ := Option.isSome_iff_exists.1 h2
      refine Or.inl ⟨d, by rw [asV_some hd], ?_⟩
      show (if (51 : TypeId) = 51 then asV x else none) = some d
      rw [if_pos rfl, hd]
    · refine Or.inr ⟨fun y e => ?_, ?_⟩
      · injection e with e
        exact hT e
      · show (if T = 51 then asV x else none) = none
        rw [if_neg hT]
  · rename_i h1
    refine Or.inr ⟨fun x e => h1 _ _ e, ?_⟩
    unfold asD
    split
    · exact absurd rfl (h1 _ _)
    · rfl
theorem okd_at (h : m.okd = true) (i : Nat) : okD (m.at i).v = true := by
  unfold M.okd at h
  unfold M.at
  by_cases hi : i < m.cells.length
  · rw [List.getD_eq_getElem?_getD, List.getElem?_eq_getElem hi]
    exact List.all_eq_true.1 h _ (List.getElem_mem hi)
  · rw [List.getD_eq_getElem?_getD, List.getElem?_eq_none (by omega)]
    rfl
theorem okd_load (h : m.okd = true) (x : Int) : okD (m.load x).2.1 = true := by
  unfold M.load
  split
  · rfl
  · split
    · rfl
    · exact okd_at h _
def M.dload (m : M) (h : Int) : M × D × Int := if (m.load h).2.2 ≠ 0 then ((m.load h).1, D.z, (m.load h).2.2) else match asD (m.load h).2.1 with
  | some d => ((m.load h).1, d, 0)
  | none => ((m.load h).1, D.z, 6)
theorem ta_desc (d : D) (w : World) : (Instr.typeAssert (.iface 51 d.v) 20 51 true).run Try.prog w = .ok (.tuple #[d.v, .bool true]) w := by kernel_rfl
theorem zero_desc (w : World) : (zeroValue 51).run Try.prog w = .ok D.z.v w := by kernel_rfl
theorem ta_other {T : TypeId} (u : Value) (hT : T ≠ 51) (w : World) : (Instr.typeAssert (.iface T u) 20 51 true).run Try.prog w = .ok (.tuple #[D.z.v, .bool false]) w := by
  have hu := Try.underlying51
  have hz := zero_desc w
  simp [Instr.typeAssert, run_underlying hu, hT, hz]
theorem ta_nilD (w : World) : (Instr.typeAssert .nilIface 20 51 true).run Try.prog w = .ok (.tuple #[D.z.v, .bool false]) w := by kernel_rfl
theorem nilbox (w : World) (b : Nat) (h : b = w.heap.size) : (w.alloc (.cells #[.int .i64 0, .int .i64 0, .int .i64 0, .slice none 0 0] 51)).heap[b]? = some (.cells #[.int .i64 0, .int .i64 0, .int .i64 0, .slice none 0 0] 51 (0, 0)) := h ▸ blk_new w _
set_option maxHeartbeats 1600000 in
set_option maxRecDepth 100000 in
theorem dload_calls (h : St w0 w pb mb cb m) (ho : m.okd = true) (x : Int) : Calls Try.prog 23 #[ptr pb, .int .i64 x] w (Endp w0 w pb mb cb (.tuple #[(m.dload x).2.1.v, .int .i64 (m.dload x).2.2]) (m.dload x).1) := by
  obtain ⟨M1, d1, e1, hy⟩ : ∃ M1 d1 e1, m.dload x = (M1, d1, e1) := ⟨_, _, _, rfl⟩
  rw [hy]
  unfold M.dload at hy
  obtain ⟨W, hW⟩ : ∃ W : World, W = w.alloc (.cells #[.int .i64 0, .int .i64 0, .int .i64 0, .slice none 0 0] 51) := ⟨_, rfl⟩
  have hb : Below w.heap.size w W := hW ▸ below_alloc (Below.refl _ _) _
  have hK : W.heap[w.heap.size]? = some (.cells #[.int .i64 0, .int .i64 0, .int .i64 0, .slice none 0 0] 51 (0, 0)) := hW ▸ blk_new w _
  have h1 := h.below hb
  have hbw : w0.heap.size ≤ w.heap.size := h.F.size
  have hl := okd_load ho x
  have HW := Lib.hid hW
  have HB := Lib.hid hb
  clear hW hb
  go_enter Try.func23, Try.ntmps23
  go_wp2_with fail
  rw [← HW.out]
  refine (qLoad h1 x).mono ?_
  have hv : (m.load x).2.1 = .nilIface ∨ ∃ T u, (m.load x).2.1 = .iface T u := load_iface h.A x
  rintro e W2 ⟨rfl, h2, hF⟩
  have hK2 := hF.blk h1.A hK (by decide) (by decide)
  obtain ⟨k0, k1, k2, k3⟩ := box4 hK2
  have z0 := blk_frozen hK2 0
  have z1 := blk_frozen hK2 1
  have z2 := blk_frozen hK2 2
  have z3 := blk_frozen hK2 3
  generalize m.load x = r at *
  obtain ⟨M2, v, e⟩ := r
  simp only at h2 hl hy hv ⊢
  have HF := Lib.hid ((Fr.of_below HB.out mb cb).trans hF)
  have HK2 := Lib.hid hK2
  clear hK2 hF h1 hK
  by_cases he : e = 0
  · subst he
    rw [if_neg (by decide)] at hy
    rcases okD_cases hl with ⟨d, hd, ha⟩ | ⟨hd, ha⟩
    · rw [ha] at hy
      injection hy with hy1 hy
      injection hy with hy2 hy3
      subst hd hy1 hy2 hy3
      clear hv hl ha
      have hta := ta_desc d
      have HK3 := Lib.hid (blk_alloc HK2.out (.cells #[.int .i64 d.ver, .int .i64 d.bef, .int .i64 d.st, .slice d.A d.n d.k] 51))
      have y0 := blk_frozen HK3.out 0
      have y1 := blk_frozen HK3.out 1
      have y2 := blk_frozen HK3.out 2
      have y3 := blk_frozen HK3.out 3
      obtain ⟨q0, q1, q2, q3⟩ := box4 HK3.out
      go_wp2_with fail
      have hk := blk4 HK3.out (.int .i64 d.ver) (.int .i64 d.bef) (.int .i64 d.st) (.slice d.A d.n d.k)
      have hon := only4 (W2.alloc (.cells #[.int .i64 d.ver, .int .i64 d.bef, .int .i64 d.st, .slice d.A d.n d.k] 51)) w.heap.size (.int .i64 d.ver) (.int .i64 d.bef) (.int .i64 d.st) (.slice d.A d.n d.k)
      obtain ⟨u0, u1, u2, u3⟩ := box4 hk
      have FIN := Lib.hid (show Endp w0 w pb mb cb (.tuple #[d.v, .int .i64 0]) M2 (.returned (.tuple #[d.v, .int .i64 0])) _ from ⟨rfl, (h2.alloc (.cells #[.int .i64 d.ver, .int .i64 d.bef, .int .i64 d.st, .slice d.A d.n d.k] 51)).only hon HK3.out (by decide) (by decide) (by decide) hbw, (HF.out.alloc _).only hon (Nat.le_refl _)⟩)
      clear hk hon k0 k1 k2 k3 z0 z1 z2 z3 y0 y1 y2 y3 q0 q1 q2 q3
      exact bodyPost_ret (v := .tuple #[d.v, .int .i64 0]) (by simp [results, Try.results23, go_sem, u0, u1, u2, u3, D.v, D.z]) rfl FIN.out
    · rw [ha] at hy
      injection hy with hy1 hy
      injection hy with hy2 hy3
      subst hy1 hy2 hy3
      rcases hv with hv | ⟨T, u, hv⟩
      · subst hv
        clear hl ha hd
        have hta := ta_nilD
        have HK3 := Lib.hid (blk_alloc HK2.out (.cells #[.int .i64 0, .int .i64 0, .int .i64 0, .slice none 0 0] 51))
        have y0 := blk_frozen HK3.out 0
        have y1 := blk_frozen HK3.out 1
        have y2 := blk_frozen HK3.out 2
        have y3 := blk_frozen HK3.out 3
        obtain ⟨q0, q1, q2, q3⟩ := box4 HK3.out
        go_wp2_with fail
        have hk := blk4 HK3.out (.int .i64 0) (.int .i64 0) (.int .i64 0) (.slice none 0 0)
        have hon := only4 (W2.alloc (.cells #[.int .i64 0, .int .i64 0, .int .i64 0, .slice none 0 0] 51)) w.heap.size (.int .i64 0) (.int .i64 0) (.int .i64 0) (.slice none 0 0)
        obtain ⟨u0, u1, u2, u3⟩ := box4 hk
        have FIN := Lib.hid (show Endp w0 w pb mb cb (.tuple #[D.z.v, .int .i64 6]) M2 (.returned (.tuple #[D.z.v, .int .i64 6])) _ from ⟨rfl, (h2.alloc (.cells #[.int .i64 0, .int .i64 0, .int .i64 0, .slice none 0 0] 51)).only hon HK3.out (by decide) (by decide) (by decide) hbw, (HF.out.alloc _).only hon (Nat.le_refl _)⟩)
        clear hk hon k0 k1 k2 k3 z0 z1 z2 z3 y0 y1 y2 y3 q0 q1 q2 q3
        exact bodyPost_ret (v := .tuple #[D.z.v, .int .i64 6]) (by simp [results, Try.results23, go_sem, u0, u1, u2, u3, D.v, D.z]) rfl FIN.out
      · subst hv
        have hT : T ≠ 51 := fun e => hd u (by rw [e])
        have HT := Lib.hid hT
        clear hl ha hd hT
        have hta := ta_other u HT.out
        have HK3 := Lib.hid (blk_alloc HK2.out (.cells #[.int .i64 0, .int .i64 0, .int .i64 0, .slice none 0 0] 51))
        have y0 := blk_frozen HK3.out 0
        have y1 := blk_frozen HK3.out 1
        have y2 := blk_frozen HK3.out 2
        have y3 := blk_frozen HK3.out 3
        obtain ⟨q0, q1, q2, q3⟩ := box4 HK3.out
        go_wp2_with fail
        have hk := blk4 HK3.out (.int .i64 0) (.int .i64 0) (.int .i64 0) (.slice none 0 0)
        have hon := only4 (W2.alloc (.cells #[.int .i64 0, .int .i64 0, .int .i64 0, .slice none 0 0] 51)) w.heap.size (.int .i64 0) (.int .i64 0) (.int .i64 0) (.slice none 0 0)
        obtain ⟨u0, u1, u2, u3⟩ := box4 hk
        have FIN := Lib.hid (show Endp w0 w pb mb cb (.tuple #[D.z.v, .int .i64 6]) M2 (.returned (.tuple #[D.z.v, .int .i64 6])) _ from ⟨rfl, (h2.alloc (.cells #[.int .i64 0, .int .i64 0, .int .i64 0, .slice none 0 0] 51)).only hon HK3.out (by decide) (by decide) (by decide) hbw, (HF.out.alloc _).only hon (Nat.le_refl _)⟩)
        clear hk hon k0 k1 k2 k3 z0 z1 z2 z3 y0 y1 y2 y3 q0 q1 q2 q3
        exact bodyPost_ret (v := .tuple #[D.z.v, .int .i64 6]) (by simp [results, Try.results23, go_sem, u0, u1, u2, u3, D.v, D.z]) rfl FIN.out
  · have g1 : (e != 0) = true := by simpa using he
    rw [if_pos he] at hy
    injection hy with hy1 hy
    injection hy with hy2 hy3
    subst hy1 hy2 hy3
    go_wp2_with fail
    have hk := blk4 HK2.out (.int .i64 0) (.int .i64 0) (.int .i64 0) (.slice none 0 0)
    have hon := only4 W2 w.heap.size (.int .i64 0) (.int .i64 0) (.int .i64 0) (.slice none 0 0)
    obtain ⟨u0, u1, u2, u3⟩ := box4 hk
    have FIN := Lib.hid (show Endp w0 w pb mb cb (.tuple #[D.z.v, .int .i64 e]) M2 (.returned (.tuple #[D.z.v, .int .i64 e])) _ from ⟨rfl, h2.only hon HK2.out (by decide) (by decide) (by decide) hbw, HF.out.only hon (Nat.le_refl _)⟩)
    clear hk hon k0 k1 k2 k3 z0 z1 z2 z3
    exact bodyPost_ret (v := .tuple #[D.z.v, .int .i64 e]) (by simp [results, Try.results23, go_sem, u0, u1, u2, u3, D.v, D.z]) rfl FIN.out
end
end Go.Proofs.Ytahnmklofgnagaa.Mem
