/- Machines: New, run, Step, and what they tell. -/
import Derived.Test.YthgbgflpjggpmaaStep3
import Derived.Defers
import Derived.Recover
import Derived.Tactics2
namespace Go.Proofs.Ythgbgflpjggpmaa.Mem
open Go.RowKit Go.Proofs.YthgbgflpjggpmaaW.PrintWords Go.Proofs.YthgbgflpjggpmaaW.PrintLast Go.Proofs.Ythgbgflpjggpmaa.Tags
set_option linter.unusedVariables false
set_option linter.unusedSimpArgs false
section
variable {w w' w0 : World} {pb mb cb : Nat} {S : Nat → Prop} {s : PS} {v : Value}
abbrev pv : Value := .iface 99 (.agg #[])
theorem ta_pause (w : World) : (Instr.typeAssert pv 20 99 true).run Try.prog w = .ok (.tuple #[.agg #[], .bool true]) w := by kernel_rfl
set_option maxHeartbeats 1600000 in
set_option maxRecDepth 100000 in
theorem catch_pause (g : Nat) (x : Bool) (older : List PanicEntry) (w : World) (hk : w.heap[g]? = some (.cells #[.bool x] 4 (0, 0))) :
    CallsD Try.prog 50 #[.pointer (some ⟨g, 0, none⟩)] (.panicking ({ v := pv, recovered := false } :: older)) w fun e u' w' =>
      e = .returned (.tuple #[]) ∧ u' = .panicking ({ v := pv, recovered := true } :: older) ∧ w' = (w.alloc (.cells #[] 99)).setCell ⟨g, 0, none⟩ (.bool false) := by
  have hk1 := blk_alloc hk (.cells #[] 99)
  have c1 := box1 hk1
  have z1 := blk_frozen hk1 0
  have hta := ta_pause
  have hnil := fun W => run_eql_held_nil (P := Try.prog) W 20 99 (.agg #[]) (by kernel_rfl)
  refine callsD_of_wpS Try.func50 rfl fun c₀ cs hu => ?_
  apply wpS_seq
  apply wpS_region
  simp [wpOpsS, go_sem, recoverD, hu, Try.ntmps50, Exit.thenS]
  refine wpS_of_wp ?_
  change Code.wp _ _ _ { tmps := #[.pointer (some ⟨g, 0, none⟩), pv, undef, undef, pv, undef, undef, undef, undef, undef, undef, undef, undef, undef, undef], defers := [] } w
  go_wp2
  exact ⟨rfl, _, rfl, .tuple #[], by simp [results, Try.results50], rfl, rfl, rfl⟩
set_option maxHeartbeats 1600000 in
theorem catch_idle (p : Addr) (w : World) :
    CallsD Try.prog 50 #[.pointer (some p)] .returning w fun e u' w' => e = .returned (.tuple #[]) ∧ u' = .returning ∧ w' = w := by
  refine callsD_of_wpS Try.func50 rfl fun c₀ cs hu => ?_
  apply wpS_seq
  apply wpS_region
  simp [wpOpsS, go_sem, recoverD, hu, Try.ntmps50, Exit.thenS]
  refine wpS_of_wp ?_
  change Code.wp _ _ _ { tmps := #[.pointer (some p), .nilIface, undef, undef, .nilIface, undef, undef, undef, undef, undef, undef, undef, undef, undef, undef], defers := [] } w
  go_wp2
  cases c₀
  simp_all [bodyPostS, results, Try.results50]
theorem callP_ {ops : Array Oper} {Q : Exit → Go.Act → World → Prop} {oi : Oper} {N : Option Tmp} {a : Go.Act} {w : World} {K : Go.Act → World → Prop} (f : FuncId) (args : Array Value) (hw : Region.wanted oi (yielded ops a.tmps) = true) (hN : oi.dst = N) (hrun : (execOp a.eval oi).run Try.prog w = .ok (.enter f args) w)
    (h : Calls Try.prog f args w fun e w' => (∃ v, e = .returned v ∧ K (a.put N v) w') ∨ ∃ ch, e = .panicked ch ∧ Q (.panic ch) a w') : if Region.wanted oi (yielded ops a.tmps) = true then Oper.wp Try.prog oi a w K Q else K (a.put N undef) w := by
  rw [if_pos hw]
  subst hN
  unfold Oper.wp
  rw [hrun, Oper.upon_enter]
  refine h.mono fun e w'' hh => ?_
  rcases hh with ⟨v, rfl, hk⟩ | ⟨ch, rfl, hq⟩
  · exact hk
  · exact hq
theorem execFn {oi : Oper} {a : Go.Act} {w : World} {x : Operand} {os : Array Operand} {ts : Array TypeId} {f : Nat} {caps args : Array Value} (hop : oi.op = .call { callee := .value x, args := os, argTypes := ts }) (hx : a.eval x = .func (Fn.func f) #[] caps) (hargs : os.map a.eval = args)
    (hK : ∀ W, (callFunc f (args ++ caps)).run Try.prog W = .ok (.enter f (args ++ caps)) W) : (execOp a.eval oi).run Try.prog w = .ok (.enter f (args ++ caps)) w := by
  unfold execOp
  simp [hop, resolve, Deferred.ofValue, invoke, hx, hargs, hK]
/-- A region's post, where a panic's hangs on the deferred calls, the result's slot and the world alone. -/
def QP (n : Nat) (p : Value) (D : List Deferred) (PP : List PanicEntry → World → Prop) (Q : Exit → Go.Act → World → Prop) : Exit → Go.Act → World → Prop
  | .panic c, a, w => a.defers = D ∧ a.tmps.getD n undef = p ∧ PP c w
  | e, a, w => Q e a w
theorem qp_put {n N : Nat} (hn : N ≠ n) {p : Value} {D : List Deferred} {PP : List PanicEntry → World → Prop} {Q : Exit → Go.Act → World → Prop} {v : Value} (c : List PanicEntry) (a : Go.Act) (w : World) (h : QP n p D PP Q (.panic c) (a.put (some N) v) w) : QP n p D PP Q (.panic c) a w := by
  obtain ⟨h1, h2, h3⟩ := h
  refine ⟨h1, ?_, h3⟩
  rw [← h2]
  simp [Act.put, Array.getD_eq_getD_getElem?, Array.getElem?_setIfInBounds, hn]
theorem qp_norm {n : Nat} {p : Value} {D : List Deferred} {PP : List PanicEntry → World → Prop} {Q : Exit → Go.Act → World → Prop} {a : Go.Act} {w : World} (h : Q .normal a w) : QP n p D PP Q .normal a w := h
theorem wp_QP {n : Nat} {p : Value} {D : List Deferred} {PP : List PanicEntry → World → Prop} {Q : Exit → Go.Act → World → Prop} {c : Code} {a : Go.Act} {w : World} (h : c.wp Try.prog (QP n p D PP Q) a w) (hq : ∀ ch a w, a.defers = D → a.tmps.getD n undef = p → PP ch w → Q (.panic ch) a w) : c.wp Try.prog Q a w := by
  refine wp_mono h fun e a w hh => ?_
  cases e
  case panic ch => exact hq ch a w hh.1 hh.2.1 hh.2.2
  all_goals exact hh
/-- What a machine's function may write. -/
def Sf (pb mb cb : Nat) (v : Value) (k : Nat) : Prop := k = pb ∨ k = mb ∨ k = cb ∨ v.ownBlock = some k
theorem Sp.home (h : Sp w0 S w pb mb cb s v) : Sp w (Sf pb mb cb v) w pb mb cb s v :=
  ⟨h.A, h.P, h.L, Fx.refl _ _, Or.inl rfl, Or.inr (Or.inl rfl), Or.inr (Or.inr (Or.inl rfl)), fun k hk => Or.inl (Or.inr (Or.inr (Or.inr hk))), h.ok, h.len, h.le⟩
theorem Sp.back {s' : PS} {v' : Value} (h : Sp w0 S w pb mb cb s v) (k : Sp w (Sf pb mb cb v) w' pb mb cb s' v') : Sp w0 S w' pb mb cb s' v' := by
  have hf : ∀ i, Sf pb mb cb v i → S i ∨ w0.heap.size ≤ i := by
    rintro i (rfl | rfl | rfl | e)
    · exact Or.inl h.sp
    · exact Or.inl h.sm
    · exact Or.inl h.sc
    · exact h.sv i e
  exact ⟨k.A, k.P, k.L, h.F.trans k.F (fun i hi e => (hf i e).elim id (fun q => absurd hi (by omega))), h.sp, h.sm, h.sc, fun i hi => (k.sv i hi).elim (hf i) (fun q => Or.inr (Nat.le_trans h.F.size q)), k.ok, k.len, k.le⟩
/-- A machine's block. -/
def MG (w : World) (xb pb : Nat) (fv out : Value) (steps : Int) (ended : Bool) : Prop := w.heap[xb]? = some (.cells #[ptr pb, fv, out, .int .i64 steps, .bool ended] 74 (0, 0))
section
variable {xb : Nat} {fv out : Value} {steps : Int} {ended : Bool}
theorem MG.cells (h : MG w xb pb fv out steps ended) : w.cell? ⟨xb, 0, none⟩ = some (ptr pb) ∧ w.cell? ⟨xb, 1, none⟩ = some fv ∧ w.cell? ⟨xb, 2, none⟩ = some out ∧ w.cell? ⟨xb, 3, none⟩ = some (.int .i64 steps) ∧ w.cell? ⟨xb, 4, none⟩ = some (.bool ended) :=
  ⟨(blk_cell h 0).trans rfl, (blk_cell h 1).trans rfl, (blk_cell h 2).trans rfl, (blk_cell h 3).trans rfl, (blk_cell h 4).trans rfl⟩
theorem MG.below (h : MG w xb pb fv out steps ended) (hb : Below w.heap.size w w') : MG w' xb pb fv out steps ended := blk_below h hb
theorem MG.lt (h : MG w xb pb fv out steps ended) : xb < w.heap.size := blk_lt h
theorem MG.nf (h : MG w xb pb fv out steps ended) (k : Sp w0 S w pb mb cb s v) : ¬ Sf pb mb cb v xb := by
  rintro (e | e | e | e)
  · exact blk_ne h k.P (by decide) e
  · exact blk_ne h k.A.hm (by decide) e
  · exact blk_ne h k.A.hc (by decide) e
  · exact k.L.ne h (by decide) e.symm
theorem MG.fx {Z : Nat → Prop} (h : MG w xb pb fv out steps ended) (hn : ¬ Z xb) (hF : Fx Z w w') : MG w' xb pb fv out steps ended := (hF.block xb h.lt hn).trans h
theorem results_b {tmps : Array Value} {g : Nat} {b : Bool} {w : World} (h2 : tmps.getD 2 undef = .pointer (some ⟨g, 0, none⟩)) (hk : w.heap[g]? = some (.cells #[.bool b] 4 (0, 0))) : (results Try.f36 tmps).run Try.prog w = .ok (.bool b) w := by
  have c := box1 hk
  have h2' : tmps[2]?.getD undef = .pointer (some ⟨g, 0, none⟩) := by rw [← h2]; simp [Array.getD_eq_getD_getElem?]
  simp [results, Try.results36, go_sem, h2', c]
theorem MG.only {b : Nat} (h : MG w xb pb fv out steps ended) (k : Only w w' b) (hn : xb ≠ b) : MG w' xb pb fv out steps ended := (k.block xb hn).trans h
/-- What run ends in. -/
def Rend (w0 : World) (S : Nat → Prop) (xb pb mb cb : Nat) (fv out : Value) (steps : Int) (ended : Bool) (r : Res Value) (e : Ending) (w' : World) : Prop :=
  match r with
  | .ret x s => e = .returned (.bool true) ∧ MG w' xb pb fv x steps ended ∧ ∃ v, Sp w0 S w' pb mb cb s v
  | .out s => e = .returned (.bool false) ∧ MG w' xb pb fv out steps ended ∧ ∃ v, Sp w0 S w' pb mb cb s v
set_option maxHeartbeats 3200000 in
set_option maxRecDepth 100000 in
theorem run_calls {FN : Nat} {caps : Array Value} (h : Sp w0 S w pb mb cb s v) (hm : MG w xb pb (.func (Fn.func FN) #[] caps) out steps ended) (hx : S xb) {r : Res Value} (hr : ∀ x s', r = .ret x s' → x = .nilIface ∨ ∃ T y, x = .iface T y)
    (hK : ∀ W, (callFunc FN (#[ptr pb] ++ caps)).run Try.prog W = .ok (.enter FN (#[ptr pb] ++ caps)) W)
    (hf : ∀ W, Below w.heap.size w W → Calls Try.prog FN (#[ptr pb] ++ caps) W (Pend W (Sf pb mb cb v) pb mb cb r)) :
    Calls Try.prog 36 #[ptr xb] w (Rend w0 S xb pb mb cb (.func (Fn.func FN) #[] caps) out steps ended r) := by
  have hmf := makeFunc_run
  obtain ⟨W, hW⟩ : ∃ W : World, W = w.alloc (.cells #[.bool false] 4) := ⟨_, rfl⟩
  have hb : Below w.heap.size w W := hW ▸ below_alloc (Below.refl _ _) _
  have hk : W.heap[w.heap.size]? = some (.cells #[.bool false] 4 (0, 0)) := hW ▸ blk_new _ _
  have h1 := h.below hb
  have hm1 := hm.below hb
  obtain ⟨m0, m1, m2, m3, m4⟩ := hm1.cells
  have HW := Lib.hid hW
  have HB := Lib.hid hb
  have HK0 := Lib.hid hk
  have H1 := Lib.hid h1
  have HM1 := Lib.hid hm1
  have HF := Lib.hid hf
  have HLT := Lib.hid hm.lt
  have HS0 := Lib.hid h.F.size
  have N1 := Lib.hid (show pb ≠ w.heap.size from by have := h.P.lt; omega)
  have N2 := Lib.hid (show mb ≠ w.heap.size from by have := mb_lt h.A; omega)
  have N3 := Lib.hid (show cb ≠ w.heap.size from by have := cb_lt h.A; omega)
  have hn4 : ¬ Sf pb mb cb v w.heap.size := by
    rintro (e | e | e | e)
    · exact N1.out e.symm
    · exact N2.out e.symm
    · exact N3.out e.symm
    · have := h.L.lt e
      omega
  have N4 := Lib.hid hn4
  have N5 := Lib.hid (hm.nf h)
  clear hn4
  clear hW hb hk h1 hm1 hf hm
  go_enter_defers Try.func36, Try.ntmps36
  go_upto_region 1 with fail
  rw [← HW.out]
  go_upto_region 2 with fail
  refine wp_QP (n := 2) (p := .pointer (some ⟨w.heap.size, 0, none⟩)) (D := [{ target := Target.fn (Fn.func 50) #[.pointer (some ⟨w.heap.size, 0, none⟩)], args := #[] }]) (PP := fun ch W2 => ch = [{ v := pv, recovered := false }] ∧ ∃ s', r = .out s' ∧ W2.heap[w.heap.size]? = some (.cells #[.bool false] 4 (0, 0)) ∧ MG W2 xb pb (.func (Fn.func FN) #[] caps) out steps ended ∧ ∃ v', Sp w0 S W2 pb mb cb s' v') ?_ ?_
  rotate_left
  · rintro ch a W2 h1 h2 ⟨rfl, s', rfl, hk2, hm2, v', hs2⟩
    show Leaves _ _ _ _ _ _ _
    rw [h1]
    refine leaves_cons (f := 50) (args := #[.pointer (some ⟨w.heap.size, 0, none⟩)]) (by simp) (enters_ Try.func50 (by kernel_rfl) rfl _ _) ?_
    refine (catch_pause w.heap.size false [] W2 hk2).mono ?_
    rintro e u' w'' ⟨rfl, rfl, rfl⟩
    have hk3 := blk_alloc hk2 (.cells #[] 99)
    have hO : Only (W2.alloc (.cells #[] 99)) ((W2.alloc (.cells #[] 99)).setCell ⟨w.heap.size, 0, none⟩ (.bool false)) w.heap.size := Only.set _ _ _
    have hbe : Below W2.heap.size W2 (W2.alloc (.cells #[] 99)) := below_alloc (Below.refl _ _) _
    exact ⟨.bool false, results_b h2 (blk_put hk3 0 _ rfl), rfl, (hm2.below hbe).only hO (Nat.ne_of_lt HLT.out), v', (hs2.below hbe).other hO (Or.inl HS0.out) N1.out N2.out N3.out (hs2.L.ne hk2 (by decide))⟩
  refine start_ (n := 13) (S := fun w' => w'.cell? ⟨xb, 1, none⟩ = some (.func (Fn.func FN) #[] caps) ∧ w'.cell? ⟨xb, 0, none⟩ = some (ptr pb)) (ds := [9, 12]) #[false, false, false, false, false, false, false, false, false, false, false, false, false] rfl rfl rfl (⟨m1, m0⟩) ?_
  intro hHeld
  refine pure_ (i := 0) (N := some 4) (v := ?_) (a' := ?_) #[true, false, false, false, false, false, false, false, false, false, false, false, false] rfl rfl (by kernel_rfl) (qp_put (by decide)) (Or.inl ⟨by rfl, ?_⟩) ?_ ?_
  rotate_left
  · intro w'
    go_simp
    with_reducible rfl
  rotate_left
  · simp only [Act.put, List.setIfInBounds_toArray, List.set_cons_zero, List.set_cons_succ, i64_w, i32_w]
    rfl
  refine pure_ (i := 1) (N := some 5) (v := ?_) (a' := ?_) #[true, true, false, false, false, false, false, false, false, false, false, false, false] rfl rfl (by kernel_rfl) (qp_put (by decide)) (Or.inl ⟨by rfl, ?_⟩) ?_ ?_
  rotate_left
  · intro w'
    go_simp
    with_reducible rfl
  rotate_left
  · simp only [Act.put, List.setIfInBounds_toArray, List.set_cons_zero, List.set_cons_succ, i64_w, i32_w]
    rfl
  refine pure_ (i := 2) (N := some 6) (v := ?_) (a' := ?_) #[true, true, true, false, false, false, false, false, false, false, false, false, false] rfl rfl (by kernel_rfl) (qp_put (by decide)) (Or.inl ⟨by rfl, ?_⟩) ?_ ?_
  rotate_left
  · intro w'
    go_simp
    with_reducible rfl
  rotate_left
  · simp only [Act.put, List.setIfInBounds_toArray, List.set_cons_zero, List.set_cons_succ, i64_w, i32_w]
    rfl
  refine pure_ (i := 3) (N := some 7) (v := ?_) (a' := ?_) #[true, true, true, true, false, false, false, false, false, false, false, false, false] rfl rfl (by kernel_rfl) (qp_put (by decide)) (Or.inl ⟨by rfl, ?_⟩) ?_ ?_
  rotate_left
  · intro w'
    go_simp
    with_reducible rfl
  rotate_left
  · simp only [Act.put, List.setIfInBounds_toArray, List.set_cons_zero, List.set_cons_succ, i64_w, i32_w]
    rfl
  refine take_ (i := 4) (N := some 8) (v := ?_) (a' := ?_) #[true, true, true, true, true, false, false, false, false, false, false, false, false] rfl rfl (by kernel_rfl) (qp_put (by decide)) (Or.inl ⟨by rfl, ?_⟩) hHeld ?_ ?_
  rotate_left
  · rintro w' hHeld'
    have hHeld'' := hHeld'
    (try obtain ⟨r0_, r1_⟩ := hHeld')
    (try obtain ⟨r1_, r2_⟩ := r1_)
    (try obtain ⟨r2_, r3_⟩ := r2_)
    (try obtain ⟨r3_, r4_⟩ := r3_)
    (try obtain ⟨r4_, r5_⟩ := r4_)
    (try obtain ⟨r5_, r6_⟩ := r5_)
    (try obtain ⟨r6_, r7_⟩ := r6_)
    (try obtain ⟨r7_, r8_⟩ := r7_)
    (try obtain ⟨r8_, r9_⟩ := r8_)
    (try obtain ⟨r9_, r10_⟩ := r9_)
    (try obtain ⟨r10_, r11_⟩ := r10_)
    (try obtain ⟨r11_, r12_⟩ := r11_)
    (try obtain ⟨r12_, r13_⟩ := r12_)
    (try obtain ⟨r13_, r14_⟩ := r13_)
    (try obtain ⟨r14_, r15_⟩ := r14_)
    (try obtain ⟨r15_, r16_⟩ := r15_)
    (try obtain ⟨r16_, r17_⟩ := r16_)
    (try obtain ⟨r17_, r18_⟩ := r17_)
    (try obtain ⟨r18_, r19_⟩ := r18_)
    (try obtain ⟨r19_, r20_⟩ := r19_)
    (try obtain ⟨r20_, r21_⟩ := r20_)
    (try obtain ⟨r21_, r22_⟩ := r21_)
    (try obtain ⟨r22_, r23_⟩ := r22_)
    (try obtain ⟨r23_, r24_⟩ := r23_)
    (try obtain ⟨r24_, r25_⟩ := r24_)
    (try obtain ⟨r25_, r26_⟩ := r25_)
    (try obtain ⟨r26_, r27_⟩ := r26_)
    (try obtain ⟨r27_, r28_⟩ := r27_)
    (try obtain ⟨r28_, r29_⟩ := r28_)
    (try obtain ⟨r29_, r30_⟩ := r29_)
    (try obtain ⟨r7_, r8_⟩ := r7_)
    (try obtain ⟨r8_, r9_⟩ := r8_)
    go_simp
    with_reducible rfl
  rotate_left
  · simp only [Act.put, List.setIfInBounds_toArray, List.set_cons_zero, List.set_cons_succ, i64_w, i32_w]
    rfl
  refine pure_ (i := 5) (N := some 9) (v := ?_) (a' := ?_) #[true, true, true, true, true, true, false, false, false, false, false, false, false] rfl rfl (by kernel_rfl) (qp_put (by decide)) (Or.inl ⟨by rfl, ?_⟩) ?_ ?_
  rotate_left
  · intro w'
    go_simp
    with_reducible rfl
  rotate_left
  · simp only [Act.put, List.setIfInBounds_toArray, List.set_cons_zero, List.set_cons_succ, i64_w, i32_w]
    rfl
  refine pure_ (i := 6) (N := some 10) (v := ?_) (a' := ?_) #[true, true, true, true, true, true, true, false, false, false, false, false, false] rfl rfl (by kernel_rfl) (qp_put (by decide)) (Or.inl ⟨by rfl, ?_⟩) ?_ ?_
  rotate_left
  · intro w'
    go_simp
    with_reducible rfl
  rotate_left
  · simp only [Act.put, List.setIfInBounds_toArray, List.set_cons_zero, List.set_cons_succ, i64_w, i32_w]
    rfl
  refine pure_ (i := 7) (N := some 11) (v := ?_) (a' := ?_) #[true, true, true, true, true, true, true, true, false, false, false, false, false] rfl rfl (by kernel_rfl) (qp_put (by decide)) (Or.inl ⟨by rfl, ?_⟩) ?_ ?_
  rotate_left
  · intro w'
    go_simp
    with_reducible rfl
  rotate_left
  · simp only [Act.put, List.setIfInBounds_toArray, List.set_cons_zero, List.set_cons_succ, i64_w, i32_w]
    rfl
  refine take_ (i := 8) (N := some 12) (v := ?_) (a' := ?_) #[true, true, true, true, true, true, true, true, true, false, false, false, false] rfl rfl (by kernel_rfl) (qp_put (by decide)) (Or.inl ⟨by rfl, ?_⟩) hHeld ?_ ?_
  rotate_left
  · rintro w' hHeld'
    have hHeld'' := hHeld'
    (try obtain ⟨r0_, r1_⟩ := hHeld')
    (try obtain ⟨r1_, r2_⟩ := r1_)
    (try obtain ⟨r2_, r3_⟩ := r2_)
    (try obtain ⟨r3_, r4_⟩ := r3_)
    (try obtain ⟨r4_, r5_⟩ := r4_)
    (try obtain ⟨r5_, r6_⟩ := r5_)
    (try obtain ⟨r6_, r7_⟩ := r6_)
    (try obtain ⟨r7_, r8_⟩ := r7_)
    (try obtain ⟨r8_, r9_⟩ := r8_)
    (try obtain ⟨r9_, r10_⟩ := r9_)
    (try obtain ⟨r10_, r11_⟩ := r10_)
    (try obtain ⟨r11_, r12_⟩ := r11_)
    (try obtain ⟨r12_, r13_⟩ := r12_)
    (try obtain ⟨r13_, r14_⟩ := r13_)
    (try obtain ⟨r14_, r15_⟩ := r14_)
    (try obtain ⟨r15_, r16_⟩ := r15_)
    (try obtain ⟨r16_, r17_⟩ := r16_)
    (try obtain ⟨r17_, r18_⟩ := r17_)
    (try obtain ⟨r18_, r19_⟩ := r18_)
    (try obtain ⟨r19_, r20_⟩ := r19_)
    (try obtain ⟨r20_, r21_⟩ := r20_)
    (try obtain ⟨r21_, r22_⟩ := r21_)
    (try obtain ⟨r22_, r23_⟩ := r22_)
    (try obtain ⟨r23_, r24_⟩ := r23_)
    (try obtain ⟨r24_, r25_⟩ := r24_)
    (try obtain ⟨r25_, r26_⟩ := r25_)
    (try obtain ⟨r26_, r27_⟩ := r26_)
    (try obtain ⟨r27_, r28_⟩ := r27_)
    (try obtain ⟨r28_, r29_⟩ := r28_)
    (try obtain ⟨r29_, r30_⟩ := r29_)
    (try obtain ⟨r7_, r8_⟩ := r7_)
    (try obtain ⟨r8_, r9_⟩ := r8_)
    go_simp
    with_reducible rfl
  rotate_left
  · simp only [Act.put, List.setIfInBounds_toArray, List.set_cons_zero, List.set_cons_succ, i64_w, i32_w]
    rfl
  refine last_ (i := 9) (N := some 13) #[true, true, true, true, true, true, true, true, true, true, false, false, false] rfl rfl (by kernel_rfl) (by decide) (fun K hSh => ?_)
  refine callP_ _ _ (by rfl) rfl (execFn rfl rfl (by simp only [List.map_toArray, List.map_cons, List.map_nil]; rfl) hK) ?_
  refine (HF.out _ (pw_below_drewN HB.out 1)).mono ?_
  intro e W1 hp
  have hd1 : Below W.heap.size W (W.drewN 1) := pw_below_drewN (Below.refl _ _) 1
  cases r with
  | out s' =>
    obtain ⟨rfl, v', h2⟩ := hp
    exact Or.inr ⟨_, rfl, rfl, rfl, rfl, s', rfl, (h2.F.block _ (blk_lt (blk_drewN HK0.out 1)) N4.out).trans (blk_drewN HK0.out 1), (HM1.out.below hd1).fx N5.out h2.F, v', (H1.out.below hd1).back h2⟩
  | ret x s' =>
    obtain ⟨rfl, v', h2⟩ := hp
    refine Or.inl ⟨_, rfl, ?_⟩
    refine hSh.out _ _ ?_
    have hk1 := (h2.F.block _ (blk_lt (blk_drewN HK0.out 1)) N4.out).trans (blk_drewN HK0.out 1)
    have hm1 := (HM1.out.below hd1).fx N5.out h2.F
    have h3 := (H1.out.below hd1).back h2
    clear hSh h2 hHeld m0 m1 m2 m3 m4 hd1 h
    have hxv := hr x s' rfl
    obtain ⟨m0, m1, m2, m3, m4⟩ := hm1.cells
    have z2 := blk_frozen hm1 2
    obtain ⟨W2, hW2⟩ : ∃ y : World, y = W1.setCell ⟨xb, 2, none⟩ x := ⟨_, rfl⟩
    have hO2 : Only W1 W2 xb := hW2 ▸ Only.set _ _ _
    have hm2 : MG W2 xb pb (.func (Fn.func FN) #[] caps) x steps ended := hW2 ▸ blk_put hm1 2 _ rfl
    have hk2 := (hO2.block _ (Ne.symm (Nat.ne_of_lt HLT.out))).trans hk1
    have h4 := h3.other hO2 (Or.inr hx) (fun e => N5.out (Or.inl e.symm)) (fun e => N5.out (Or.inr (Or.inl e.symm))) (fun e => N5.out (Or.inr (Or.inr (Or.inl e.symm)))) (h3.L.ne hm1 (by decide))
    have hk3 : (W2.setCell ⟨w.heap.size, 0, none⟩ (.bool true)).heap[w.heap.size]? = some (.cells #[.bool true] 4 (0, 0)) := blk_put hk2 0 _ rfl
    have hO3 : Only W2 (W2.setCell ⟨w.heap.size, 0, none⟩ (.bool true)) w.heap.size := Only.set _ _ _
    have hm3 := hm2.only hO3 (Nat.ne_of_lt HLT.out)
    have h5 := h4.other hO3 (Or.inl HS0.out) N1.out N2.out N3.out (h4.L.ne hk2 (by decide))
    have c2 := box1 hk2
    have y2 := blk_frozen hk2 0
    have HK3 := Lib.hid hk3
    have HM3 := Lib.hid hm3
    have H5 := Lib.hid h5
    have HW2 := Lib.hid hW2
    clear hk1 hm1 h3 hO2 hm2 h4 hk3 hO3 hm3 h5 hk2 hW2
    refine norm_ (a' := ?_) ?_ ?_
    rotate_left
    · simp only [Act.put, List.setIfInBounds_toArray, List.set_cons_zero, List.set_cons_succ, i64_w, i32_w]
      rfl
    refine pure_ (i := 10) (N := some 14) (v := ?_) (a' := ?_) #[true, true, true, true, true, true, true, true, true, true, true, false, false] rfl rfl (by kernel_rfl) (qp_put (by decide)) (Or.inl ⟨by rfl, ?_⟩) ?_ ?_
    rotate_left
    · intro w'
      go_simp
      with_reducible rfl
    rotate_left
    · simp only [Act.put, List.setIfInBounds_toArray, List.set_cons_zero, List.set_cons_succ, i64_w, i32_w]
      rfl
    refine pure_ (i := 11) (N := some 15) (v := ?_) (a' := ?_) #[true, true, true, true, true, true, true, true, true, true, true, true, false] rfl rfl (by kernel_rfl) (qp_put (by decide)) (Or.inl ⟨by rfl, ?_⟩) ?_ ?_
    rotate_left
    · intro w'
      go_simp
      with_reducible rfl
    rotate_left
    · simp only [Act.put, List.setIfInBounds_toArray, List.set_cons_zero, List.set_cons_succ, i64_w, i32_w]
      rfl
    rcases hxv with rfl | ⟨T, u, rfl⟩
    all_goals
      refine last_ (i := 12) (N := none) #[true, true, true, true, true, true, true, true, true, true, true, true, true] rfl rfl (by kernel_rfl) (by decide) (fun K hSh => ?_)
      refine skip_ (w1 := W2) (by rfl) rfl (by rw [HW2.out]; go_simp <;> rfl) ?_
      refine hSh.out _ _ ?_
      refine done_ (by kernel_rfl) ?_
      clear m0 m1 m2 m3 m4 z2 HW2
      refine qp_norm ?_
      go_wp2_with fail
      refine leaves_cons (f := 50) (args := #[.pointer (some ⟨w.heap.size, 0, none⟩)]) (by simp) (enters_ Try.func50 (by kernel_rfl) rfl _ _) ?_
      refine (catch_idle ⟨w.heap.size, 0, none⟩ _).mono ?_
      rintro e u' w'' ⟨rfl, rfl, rfl⟩
      exact ⟨.bool true, results_b rfl HK3.out, rfl, HM3.out, v', H5.out⟩
/-- A machine. -/
structure MS where
  p : PS
  out : Value
  steps : Int
  ended : Bool
def MS.after (mo : Value) : Res Value → MS
  | .ret x s => { p := { s with log := [] }, out := x, steps := s.log.length, ended := true }
  | .out s => { p := s, out := mo, steps := s.log.length, ended := false }
/-- A step. -/
def MS.step (F : PS → Res Value) (m : MS) : MS :=
  if m.ended = true then m else MS.after m.out (F { m.p with at_ := 0, left := 1 })
/-- A machine, and its port, in memory. -/
structure Mc (w0 : World) (S : Nat → Prop) (w : World) (xb pb mb cb : Nat) (fv : Value) (m : MS) (v : Value) : Prop where
  P : Sp w0 S w pb mb cb m.p v
  M : MG w xb pb fv m.out m.steps m.ended
  sx : S xb
set_option maxHeartbeats 3200000 in
set_option maxRecDepth 100000 in
theorem step_calls {FN : Nat} {caps : Array Value} {m : MS} (h : Mc w0 S w xb pb mb cb (.func (Fn.func FN) #[] caps) m v) (hl : m.p.log.length ≤ 99999) {F : PS → Res Value} (hr : ∀ s x s', F s = .ret x s' → x = .nilIface ∨ ∃ T y, x = .iface T y)
    (hK : ∀ W, (callFunc FN (#[ptr pb] ++ caps)).run Try.prog W = .ok (.enter FN (#[ptr pb] ++ caps)) W)
    (hf : ∀ W, Fx (Sf pb mb cb v) w W → Sp W (Sf pb mb cb v) W pb mb cb { m.p with at_ := 0, left := 1 } v → Calls Try.prog FN (#[ptr pb] ++ caps) W (Pend W (Sf pb mb cb v) pb mb cb (F { m.p with at_ := 0, left := 1 }))) :
    Calls Try.prog 13 #[ptr xb] w fun e w' => e = .returned (.bool (m.step F).ended) ∧ ∃ v', Mc w0 S w' xb pb mb cb (.func (Fn.func FN) #[] caps) (m.step F) v' := by
  obtain ⟨m0, m1, m2, m3, m4⟩ := h.M.cells
  obtain ⟨mp, mo, ms, me⟩ := m
  simp only at m0 m1 m2 m3 m4 hf hl
  cases me with
  | true =>
    have H := Lib.hid h
    clear h hf
    go_enter Try.func13, Try.ntmps13
    go_wp2_with fail
    go_ret
    exact ⟨rfl, v, H.out⟩
  | false =>
    obtain ⟨p0, p1, p2, p3, p4⟩ := h.P.P.cells
    simp only at p0 p1 p2 p3 p4
    have z2 := blk_frozen h.P.P 2
    have z3 := blk_frozen h.P.P 3
    obtain ⟨r, hr0⟩ : ∃ r, F { mp with at_ := 0, left := 1 } = r := ⟨_, rfl⟩
    have hst : (MS.mk mp mo ms false).step F = MS.after mo r := by
      rw [← hr0]
      rfl
    rw [hst]
    rw [hr0] at hf
    have hr1 : ∀ x s', r = .ret x s' → x = .nilIface ∨ ∃ T y, x = .iface T y := fun x s' e => hr _ x s' (hr0.trans e)
    have nxp : xb ≠ pb := fun e => h.M.nf h.P (Or.inl e)
    have NF := Lib.hid (h.M.nf h.P)
    have H := Lib.hid h
    have HF := Lib.hid hf
    have HR := Lib.hid hr1
    clear h hf hst hr0 hr hr1
    go_enter Try.func13, Try.ntmps13
    go_upto_region 3 with fail
    refine start_ (n := 14) (S := fun w' => w'.cell? ⟨xb, 0, none⟩ = some (ptr pb) ∧ True) (ds := [13]) #[false, false, false, false, false, false, false, false, false, false, false, false, false, false] rfl rfl rfl (⟨m0, trivial⟩) ?_
    intro hHeld
    refine pure_ (i := 0) (N := some 7) (v := ?_) (a' := ?_) #[true, false, false, false, false, false, false, false, false, false, false, false, false, false] rfl rfl (by kernel_rfl) (fun _ _ _ h => h) (Or.inl ⟨by rfl, ?_⟩) ?_ ?_
    rotate_left
    · intro w'
      go_simp
      with_reducible rfl
    rotate_left
    · simp only [Act.put, List.setIfInBounds_toArray, List.set_cons_zero, List.set_cons_succ, i64_w, i32_w]
      rfl
    refine pure_ (i := 1) (N := some 8) (v := ?_) (a' := ?_) #[true, true, false, false, false, false, false, false, false, false, false, false, false, false] rfl rfl (by kernel_rfl) (fun _ _ _ h => h) (Or.inl ⟨by rfl, ?_⟩) ?_ ?_
    rotate_left
    · intro w'
      go_simp
      with_reducible rfl
    rotate_left
    · simp only [Act.put, List.setIfInBounds_toArray, List.set_cons_zero, List.set_cons_succ, i64_w, i32_w]
      rfl
    refine pure_ (i := 2) (N := some 9) (v := ?_) (a' := ?_) #[true, true, true, false, false, false, false, false, false, false, false, false, false, false] rfl rfl (by kernel_rfl) (fun _ _ _ h => h) (Or.inl ⟨by rfl, ?_⟩) ?_ ?_
    rotate_left
    · intro w'
      go_simp
      with_reducible rfl
    rotate_left
    · simp only [Act.put, List.setIfInBounds_toArray, List.set_cons_zero, List.set_cons_succ, i64_w, i32_w]
      rfl
    refine take_ (i := 3) (N := some 10) (v := ?_) (a' := ?_) #[true, true, true, true, false, false, false, false, false, false, false, false, false, false] rfl rfl (by kernel_rfl) (fun _ _ _ h => h) (Or.inl ⟨by rfl, ?_⟩) hHeld ?_ ?_
    rotate_left
    · rintro w' hHeld'
      have hHeld'' := hHeld'
      (try obtain ⟨r0_, r1_⟩ := hHeld')
      (try obtain ⟨r1_, r2_⟩ := r1_)
      (try obtain ⟨r2_, r3_⟩ := r2_)
      (try obtain ⟨r3_, r4_⟩ := r3_)
      (try obtain ⟨r4_, r5_⟩ := r4_)
      (try obtain ⟨r5_, r6_⟩ := r5_)
      (try obtain ⟨r6_, r7_⟩ := r6_)
      (try obtain ⟨r7_, r8_⟩ := r7_)
      (try obtain ⟨r8_, r9_⟩ := r8_)
      (try obtain ⟨r9_, r10_⟩ := r9_)
      (try obtain ⟨r10_, r11_⟩ := r10_)
      (try obtain ⟨r11_, r12_⟩ := r11_)
      (try obtain ⟨r12_, r13_⟩ := r12_)
      (try obtain ⟨r13_, r14_⟩ := r13_)
      (try obtain ⟨r14_, r15_⟩ := r14_)
      (try obtain ⟨r15_, r16_⟩ := r15_)
      (try obtain ⟨r16_, r17_⟩ := r16_)
      (try obtain ⟨r17_, r18_⟩ := r17_)
      (try obtain ⟨r18_, r19_⟩ := r18_)
      (try obtain ⟨r19_, r20_⟩ := r19_)
      (try obtain ⟨r20_, r21_⟩ := r20_)
      (try obtain ⟨r21_, r22_⟩ := r21_)
      (try obtain ⟨r22_, r23_⟩ := r22_)
      (try obtain ⟨r23_, r24_⟩ := r23_)
      (try obtain ⟨r24_, r25_⟩ := r24_)
      (try obtain ⟨r25_, r26_⟩ := r25_)
      (try obtain ⟨r26_, r27_⟩ := r26_)
      (try obtain ⟨r27_, r28_⟩ := r27_)
      (try obtain ⟨r28_, r29_⟩ := r28_)
      (try obtain ⟨r29_, r30_⟩ := r29_)
      (try obtain ⟨r7_, r8_⟩ := r7_)
      (try obtain ⟨r8_, r9_⟩ := r8_)
      go_simp
      with_reducible rfl
    rotate_left
    · simp only [Act.put, List.setIfInBounds_toArray, List.set_cons_zero, List.set_cons_succ, i64_w, i32_w]
      rfl
    refine pure_ (i := 4) (N := some 11) (v := ?_) (a' := ?_) #[true, true, true, true, true, false, false, false, false, false, false, false, false, false] rfl rfl (by kernel_rfl) (fun _ _ _ h => h) (Or.inl ⟨by rfl, ?_⟩) ?_ ?_
    rotate_left
    · intro w'
      go_simp
      with_reducible rfl
    rotate_left
    · simp only [Act.put, List.setIfInBounds_toArray, List.set_cons_zero, List.set_cons_succ, i64_w, i32_w]
      rfl
    refine pure_ (i := 5) (N := some 12) (v := ?_) (a' := ?_) #[true, true, true, true, true, true, false, false, false, false, false, false, false, false] rfl rfl (by kernel_rfl) (fun _ _ _ h => h) (Or.inl ⟨by rfl, ?_⟩) ?_ ?_
    rotate_left
    · intro w'
      go_simp
      with_reducible rfl
    rotate_left
    · simp only [Act.put, List.setIfInBounds_toArray, List.set_cons_zero, List.set_cons_succ, i64_w, i32_w]
      rfl
    refine pure_ (i := 6) (N := some 13) (v := ?_) (a' := ?_) #[true, true, true, true, true, true, true, false, false, false, false, false, false, false] rfl rfl (by kernel_rfl) (fun _ _ _ h => h) (Or.inl ⟨by rfl, ?_⟩) ?_ ?_
    rotate_left
    · intro w'
      go_simp
      with_reducible rfl
    rotate_left
    · simp only [Act.put, List.setIfInBounds_toArray, List.set_cons_zero, List.set_cons_succ, i64_w, i32_w]
      rfl
    refine take_ (i := 7) (N := some 14) (v := ?_) (a' := ?_) #[true, true, true, true, true, true, true, true, false, false, false, false, false, false] rfl rfl (by kernel_rfl) (fun _ _ _ h => h) (Or.inl ⟨by rfl, ?_⟩) hHeld ?_ ?_
    rotate_left
    · rintro w' hHeld'
      have hHeld'' := hHeld'
      (try obtain ⟨r0_, r1_⟩ := hHeld')
      (try obtain ⟨r1_, r2_⟩ := r1_)
      (try obtain ⟨r2_, r3_⟩ := r2_)
      (try obtain ⟨r3_, r4_⟩ := r3_)
      (try obtain ⟨r4_, r5_⟩ := r4_)
      (try obtain ⟨r5_, r6_⟩ := r5_)
      (try obtain ⟨r6_, r7_⟩ := r6_)
      (try obtain ⟨r7_, r8_⟩ := r7_)
      (try obtain ⟨r8_, r9_⟩ := r8_)
      (try obtain ⟨r9_, r10_⟩ := r9_)
      (try obtain ⟨r10_, r11_⟩ := r10_)
      (try obtain ⟨r11_, r12_⟩ := r11_)
      (try obtain ⟨r12_, r13_⟩ := r12_)
      (try obtain ⟨r13_, r14_⟩ := r13_)
      (try obtain ⟨r14_, r15_⟩ := r14_)
      (try obtain ⟨r15_, r16_⟩ := r15_)
      (try obtain ⟨r16_, r17_⟩ := r16_)
      (try obtain ⟨r17_, r18_⟩ := r17_)
      (try obtain ⟨r18_, r19_⟩ := r18_)
      (try obtain ⟨r19_, r20_⟩ := r19_)
      (try obtain ⟨r20_, r21_⟩ := r20_)
      (try obtain ⟨r21_, r22_⟩ := r21_)
      (try obtain ⟨r22_, r23_⟩ := r22_)
      (try obtain ⟨r23_, r24_⟩ := r23_)
      (try obtain ⟨r24_, r25_⟩ := r24_)
      (try obtain ⟨r25_, r26_⟩ := r25_)
      (try obtain ⟨r26_, r27_⟩ := r26_)
      (try obtain ⟨r27_, r28_⟩ := r27_)
      (try obtain ⟨r28_, r29_⟩ := r28_)
      (try obtain ⟨r29_, r30_⟩ := r29_)
      (try obtain ⟨r7_, r8_⟩ := r7_)
      (try obtain ⟨r8_, r9_⟩ := r8_)
      go_simp
      with_reducible rfl
    rotate_left
    · simp only [Act.put, List.setIfInBounds_toArray, List.set_cons_zero, List.set_cons_succ, i64_w, i32_w]
      rfl
    refine pure_ (i := 8) (N := some 15) (v := ?_) (a' := ?_) #[true, true, true, true, true, true, true, true, true, false, false, false, false, false] rfl rfl (by kernel_rfl) (fun _ _ _ h => h) (Or.inl ⟨by rfl, ?_⟩) ?_ ?_
    rotate_left
    · intro w'
      go_simp
      with_reducible rfl
    rotate_left
    · simp only [Act.put, List.setIfInBounds_toArray, List.set_cons_zero, List.set_cons_succ, i64_w, i32_w]
      rfl
    refine pure_ (i := 9) (N := some 16) (v := ?_) (a' := ?_) #[true, true, true, true, true, true, true, true, true, true, false, false, false, false] rfl rfl (by kernel_rfl) (fun _ _ _ h => h) (Or.inl ⟨by rfl, ?_⟩) ?_ ?_
    rotate_left
    · intro w'
      go_simp
      with_reducible rfl
    rotate_left
    · simp only [Act.put, List.setIfInBounds_toArray, List.set_cons_zero, List.set_cons_succ, i64_w, i32_w]
      rfl
    refine one_ (i := 10) (N := none) #[true, true, true, true, true, true, true, true, true, true, true, false, false, false] rfl rfl (by kernel_rfl) (by decide) (fun K hSh => ?_)
    refine skip_ (w1 := (w.drewN 1).setCell ⟨pb, 2, none⟩ (.int .i64 0)) (by rfl) rfl (by go_simp <;> rfl) ?_
    refine hSh.out _ _ (⟨(cell_far (p := ⟨pb, 2, none⟩) nxp _).trans m0, trivial⟩) ?_
    clear hHeld
    intro hHeld
    refine pure_ (i := 11) (N := some 17) (v := ?_) (a' := ?_) #[true, true, true, true, true, true, true, true, true, true, true, true, false, false] rfl rfl (by kernel_rfl) (fun _ _ _ h => h) (Or.inl ⟨by rfl, ?_⟩) ?_ ?_
    rotate_left
    · intro w'
      go_simp
      with_reducible rfl
    rotate_left
    · simp only [Act.put, List.setIfInBounds_toArray, List.set_cons_zero, List.set_cons_succ, i64_w, i32_w]
      rfl
    refine pure_ (i := 12) (N := some 18) (v := ?_) (a' := ?_) #[true, true, true, true, true, true, true, true, true, true, true, true, true, false] rfl rfl (by kernel_rfl) (fun _ _ _ h => h) (Or.inl ⟨by rfl, ?_⟩) ?_ ?_
    rotate_left
    · intro w'
      go_simp
      with_reducible rfl
    rotate_left
    · simp only [Act.put, List.setIfInBounds_toArray, List.set_cons_zero, List.set_cons_succ, i64_w, i32_w]
      rfl
    obtain ⟨W1, hW1⟩ : ∃ y : World, y = ((w.drewN 1).setCell ⟨pb, 2, none⟩ (.int .i64 0)).setCell ⟨pb, 3, none⟩ (.int .i64 1) := ⟨_, rfl⟩
    refine last_ (i := 13) (N := none) #[true, true, true, true, true, true, true, true, true, true, true, true, true, true] rfl rfl (by kernel_rfl) (by decide) (fun K hSh => ?_)
    refine skip_ (w1 := W1) (by rfl) rfl (by rw [hW1]; go_simp <;> rfl) ?_
    refine hSh.out _ _ ?_
    refine done_ (by kernel_rfl) ?_
    have hO1 : Only (w.drewN 1) W1 pb := hW1 ▸ (Only.set (w.drewN 1) ⟨pb, 2, none⟩ (.int .i64 0)).trans (Only.set _ ⟨pb, 3, none⟩ (.int .i64 1))
    have hd : Below w.heap.size w (w.drewN 1) := pw_below_drewN (Below.refl _ _) 1
    have hP1 : PG W1 pb mb v ((0 : Nat) : Int) 1 mp.note := hW1 ▸ blk_put (blk_put (blk_drewN H.out.P.P 1) 2 _ rfl) 3 _ rfl
    have h1 := (H.out.P.below hd).port (note := mp.note) hO1 hP1 (by have e1 : (1 : Int).toNat = 1 := rfl; omega) (by have e1 : (1 : Int).toNat = 1 := rfl; simp only [e1]; omega)
    have hm1 := (H.out.M.below hd).only hO1 nxp
    have hfx : Fx (Sf pb mb cb v) w W1 := (Fx.of_below _ hd).trans (Fx.of_only hO1 (Or.inl rfl)) (fun _ _ q => q)
    have HX := Lib.hid (run_calls h1 hm1 H.out.sx HR.out hK (fun W hb => HF.out W (hfx.trans (Fx.of_below _ hb) (fun _ _ q => q)) (h1.below hb).home))
    have SX := Lib.hid H.out.sx
    clear hO1 hd hP1 h1 hm1 hfx hW1 m0 m1 m2 m3 m4 p0 p1 p2 p3 p4 z2 z3 HF HR hHeld H
    go_wp2_with fail
    refine HX.out.mono ?_
    intro e W2 hp
    clear HX
    cases r with
    | out s' =>
      obtain ⟨rfl, hm2, v', h2⟩ := hp
      obtain ⟨A, c, rfl⟩ := h2.L.slice
      obtain ⟨W3, hW3⟩ : ∃ y : World, y = W2.setCell ⟨xb, 4, none⟩ (.bool false) := ⟨_, rfl⟩
      have hO3 : Only W2 W3 xb := hW3 ▸ Only.set _ _ _
      have hm3 : MG W3 xb pb (.func (Fn.func FN) #[] caps) mo ms false := hW3 ▸ blk_put hm2 4 _ rfl
      have n1 := hm2.nf h2
      have h3 := h2.other hO3 (Or.inr SX.out) (fun e => n1 (Or.inl e.symm)) (fun e => n1 (Or.inr (Or.inl e.symm))) (fun e => n1 (Or.inr (Or.inr (Or.inl e.symm)))) (fun e => n1 (Or.inr (Or.inr (Or.inr e.symm))))
      obtain ⟨W4, hW4⟩ : ∃ y : World, y = W3.setCell ⟨xb, 3, none⟩ (.int .i64 s'.log.length) := ⟨_, rfl⟩
      have hO4 : Only W3 W4 xb := hW4 ▸ Only.set _ _ _
      have hm4 : MG W4 xb pb (.func (Fn.func FN) #[] caps) mo s'.log.length false := hW4 ▸ blk_put hm3 3 _ rfl
      have h4 := h3.other hO4 (Or.inr SX.out) (fun e => n1 (Or.inl e.symm)) (fun e => n1 (Or.inr (Or.inl e.symm))) (fun e => n1 (Or.inr (Or.inr (Or.inl e.symm)))) (fun e => n1 (Or.inr (Or.inr (Or.inr e.symm))))
      obtain ⟨a0, a1, a2, a3, a4⟩ := hm2.cells
      have z4 := blk_frozen hm2 4
      obtain ⟨b0, b1, b2, b3, b4⟩ := hm3.cells
      have y3 := blk_frozen hm3 3
      obtain ⟨q0, q1, q2, q3, q4⟩ := h3.P.cells
      obtain ⟨d0, d1, d2, d3, d4⟩ := hm4.cells
      obtain ⟨L, hL⟩ : ∃ L, s'.log.length = L := ⟨_, rfl⟩
      rw [hL] at q1 hW4
      have FIN := Lib.hid (show Mc w0 S W4 xb pb mb cb (.func (Fn.func FN) #[] caps) (MS.after mo (.out s')) (.slice A s'.log.length c) from ⟨h4, hm4, SX.out⟩)
      have HW3 := Lib.hid hW3
      have HW4 := Lib.hid hW4
      clear hO3 hm3 n1 h3 hO4 hm4 h4 hm2 h2 hW3 hW4 hL
      go_upto_region 5 with fail
      rw [← HW3.out]
      go_upto_region 6 with fail
      rw [← HW4.out]
      go_wp2_with fail
      go_ret
      exact ⟨rfl, _, FIN.out⟩
    | ret x s' =>
      obtain ⟨rfl, hm2, v', h2⟩ := hp
      obtain ⟨A, c, rfl⟩ := h2.L.slice
      obtain ⟨W3, hW3⟩ : ∃ y : World, y = W2.setCell ⟨xb, 4, none⟩ (.bool true) := ⟨_, rfl⟩
      have hO3 : Only W2 W3 xb := hW3 ▸ Only.set _ _ _
      have hm3 : MG W3 xb pb (.func (Fn.func FN) #[] caps) x ms true := hW3 ▸ blk_put hm2 4 _ rfl
      have n1 := hm2.nf h2
      have h3 := h2.other hO3 (Or.inr SX.out) (fun e => n1 (Or.inl e.symm)) (fun e => n1 (Or.inr (Or.inl e.symm))) (fun e => n1 (Or.inr (Or.inr (Or.inl e.symm)))) (fun e => n1 (Or.inr (Or.inr (Or.inr e.symm))))
      obtain ⟨W4, hW4⟩ : ∃ y : World, y = W3.setCell ⟨xb, 3, none⟩ (.int .i64 s'.log.length) := ⟨_, rfl⟩
      have hO4 : Only W3 W4 xb := hW4 ▸ Only.set _ _ _
      have hm4 : MG W4 xb pb (.func (Fn.func FN) #[] caps) x s'.log.length true := hW4 ▸ blk_put hm3 3 _ rfl
      have h4 := h3.other hO4 (Or.inr SX.out) (fun e => n1 (Or.inl e.symm)) (fun e => n1 (Or.inr (Or.inl e.symm))) (fun e => n1 (Or.inr (Or.inr (Or.inl e.symm)))) (fun e => n1 (Or.inr (Or.inr (Or.inr e.symm))))
      obtain ⟨W5, hW5⟩ : ∃ y : World, y = W4.setCell ⟨pb, 1, none⟩ (.slice none 0 0) := ⟨_, rfl⟩
      have hO5 : Only W4 W5 pb := hW5 ▸ Only.set _ _ _
      have hP5 : PG W5 pb mb (.slice none 0 0) s'.at_ s'.left s'.note := hW5 ▸ blk_put h4.P 1 _ rfl
      have hm5 := hm4.only hO5 nxp
      have h5 : Sp w0 S W5 pb mb cb { s' with log := [] } (.slice none 0 0) :=
        ⟨h4.A.only hO5 (Ne.symm (h4.P.ne h4.A).1) (Ne.symm (h4.P.ne h4.A).2), hP5, OwnA.nil _, h4.F.trans (Fx.of_only hO5 h4.sp) (fun _ _ q => q), h4.sp, h4.sm, h4.sc, (fun k hk => by cases hk), (fun a ha => by cases ha), (by have := h4.len; simp only [List.length_nil]; omega), h4.le⟩
      obtain ⟨a0, a1, a2, a3, a4⟩ := hm2.cells
      have z4 := blk_frozen hm2 4
      obtain ⟨b0, b1, b2, b3, b4⟩ := hm3.cells
      have y3 := blk_frozen hm3 3
      obtain ⟨q0, q1, q2, q3, q4⟩ := h3.P.cells
      obtain ⟨d0, d1, d2, d3, d4⟩ := hm4.cells
      obtain ⟨r0, r1, r2, r3, r4⟩ := h4.P.cells
      have x1 := blk_frozen h4.P 1
      obtain ⟨f0, f1, f2, f3, f4⟩ := hm5.cells
      obtain ⟨L, hL⟩ : ∃ L, s'.log.length = L := ⟨_, rfl⟩
      rw [hL] at q1 hW4 r1
      have FIN := Lib.hid (show Mc w0 S W5 xb pb mb cb (.func (Fn.func FN) #[] caps) (MS.after mo (.ret x s')) (.slice none 0 0) from ⟨h5, hm5, SX.out⟩)
      have HW3 := Lib.hid hW3
      have HW4 := Lib.hid hW4
      have HW5 := Lib.hid hW5
      clear hO3 hm3 n1 h3 hO4 hm4 h4 hm2 h2 hO5 hP5 hm5 h5 hW3 hW4 hW5 hL
      go_upto_region 5 with fail
      rw [← HW3.out]
      go_upto_region 6 with fail
      rw [← HW4.out]
      go_upto_region 8 with fail
      rw [← HW5.out]
      go_wp2_with fail
      go_ret
      exact ⟨rfl, _, FIN.out⟩
end
end
end Go.Proofs.Ythgbgflpjggpmaa.Mem
