/- A version is done: what publish makes of a register's memory. Plain; and the law's words around an act. -/
import Derived.Test.YtahnmklofgnagaaRegDoes
namespace Go.Proofs.Ytahnmklofgnagaa.Mem
open Go.RowKit Go.Proofs.YtahnmklofgnagaaW.PrintWords Go.Proofs.YtahnmklofgnagaaW.PrintLast Go.Proofs.Ytahnmklofgnagaa.Tags
set_option linter.unusedVariables false
set_option linter.unusedSimpArgs false
section
variable {m m' : M} {x y : Int} {i : Nat} {n k : Nat} {g : Int}
/-- A descriptor without swaps is made, published, done, and the one before undone. -/
theorem publish_new {top hd : Int} {d : D} (hT : TopAt m top hd d 1) (h : Shape m n k g) (h2k : 2 ≤ k) (hk : k + 2 ≤ n) (hg : g ≤ 16000) (ho : m.okd = true) (z : Int) :
    ∃ (M1 M2 M3 M4 M5 M6 : M) (gg nc : Int) , m.latest top = (M1, hd, ⟨d.ver, d.bef, d.st, d.A, d.n, d.k⟩, true, 0) ∧ M1.laid 0 ⟨z, d.ver, 0, none, 0, 0⟩ = (M2, gg, 0) ∧ M2.swap top hd gg = (M3, true, 0) ∧ M3.okd = true ∧ M3.dload gg = (M4, ⟨z, d.ver, nc, none, 0, 0⟩, 0) ∧ M4.swap nc 0 1 = (M5, true, 0) ∧ M5.okd = true ∧ M5.undo hd = (M6, 0) ∧
      TopAt M6 top gg ⟨z, d.ver, nc, none, 0, 0⟩ 1 ∧ Shape M6 n k (g + 2) ∧ M6.okd = true ∧ (∀ y u, m.val y = some u → y ≠ top → y ≠ hd → y ≠ d.st → M6.val y = some u) ∧ m.val nc = none := by
  have e1 := latest_val hT
  obtain ⟨M1, hM1⟩ : ∃ M1, M1 = m.tick.tick.tick := ⟨_, rfl⟩
  rw [← hM1] at e1
  have c1 : M1.cells = m.cells := by rw [hM1]; rfl
  have s1 : Shape M1 n k g := by rw [hM1]; exact h.tick.tick.tick
  have T1 := hT.cells c1
  have o1 : M1.okd = true := by rw [okd_cells c1]; exact ho
  have v1 : ∀ y, M1.val y = m.val y := val_cells c1
  clear hM1 hT h
  obtain ⟨M2, gg, nc, e2, n1, n2, n3, w1, w2, w3, s2, o2⟩ := laid_val s1 hk (by omega) 0 ⟨z, d.ver, 0, none, 0, 0⟩
  have f1 : ∀ y u, M1.val y = some u → y ≠ nc ∧ y ≠ gg := fun y u hy => ⟨(by rintro rfl; rw [n1] at hy; cases hy), (by rintro rfl; rw [n2] at hy; cases hy)⟩
  have k2 : ∀ y u, M1.val y = some u → M2.val y = some u := fun y u hy => (w3 y (f1 y u hy).1 (f1 y u hy).2).trans hy
  obtain ⟨M3, e3, t3, s3⟩ := swap_val s2 (k2 _ _ T1.t_) gg
  have ntop := f1 _ _ T1.t_
  have o3 : M3.okd = true := by have := okd_swap (o2 o1) top hd gg; rw [e3] at this; exact this
  have g3 : M3.val gg = some (.iface 51 (D.v ⟨z, d.ver, nc, none, 0, 0⟩)) := (t3.other gg (Ne.symm ntop.2)).trans w2
  have e4 := dload_val g3
  have g4 : M3.tick.val nc = some (number 0) := ((tick_val M3 nc).trans (t3.other nc (Ne.symm ntop.1))).trans w1
  obtain ⟨M5, e5, t5, s5⟩ := swap_val s3.tick g4 1
  have o5 : M5.okd = true := by have := okd_swap (okd_tick o3) nc 0 1; rw [e5] at this; exact this
  have hth : top ≠ hd := val_ne T1.t_ T1.h_ (number_ne (by decide))
  have hsh : d.st ≠ hd := val_ne T1.s_ T1.h_ (number_ne (by decide))
  have k5 : ∀ y u, M1.val y = some u → y ≠ top → M5.val y = some u := fun y u hy hne => (t5.other y (f1 y u hy).1).trans ((tick_val M3 y).trans ((t3.other y hne).trans (k2 y u hy)))
  have s5' : Shape M5 n (k + 2) g := s5
  have hst := T1.ne
  obtain ⟨M6, e6, u1, u2, u3, s6, o6⟩ := undo_val s5' (by omega) (k5 hd _ T1.h_ (Ne.symm hth)) (k5 d.st _ T1.s_ hst) hsh
  have fh := f1 _ _ T1.h_
  have fs := f1 _ _ T1.s_
  refine ⟨M1, M2, M3, M3.tick, M5, M6, gg, nc, e1, e2, e3, o3, e4, e5, o5, e6, ⟨?_, ?_, ?_, ?_⟩, s6, o6 o5, fun y u hy h1 h2 h3 => ?_, (v1 nc).symm.trans n1⟩
  · rw [u3 top hth (Ne.symm hst), t5.other top ntop.1, tick_val, t3.self]
  · rw [u3 gg (Ne.symm fh.2) (Ne.symm fs.2), t5.other gg n3, tick_val, g3]
  · show M6.val nc = _
    rw [u3 nc (Ne.symm fh.1) (Ne.symm fs.1), t5.self]
  · exact Ne.symm ntop.1
  · rw [u3 y h2 h3]
    exact k5 y u ((v1 y).trans hy) h1
theorem Al15.publish {top hd : Int} {d : D} {ts ss : List Int} {kk : Nat} {g b : Int} {r : Rg} (h : Al15 m top hd d ts ss kk g b r) (h2k : 2 ≤ kk) (hk : kk + 2 ≤ 200) (hg : g ≤ 16000) (more : Int) (hm : 0 ≤ more) (hv : r.V + 1 + more ≤ 1000000) :
    ∃ (M1 M2 M3 M4 M5 M6 : M) (gg nc : Int), m.latest top = (M1, hd, ⟨d.ver, d.bef, d.st, d.A, d.n, d.k⟩, true, 0) ∧ M1.laid 0 ⟨d.ver + 1 + more, d.ver, 0, none, 0, 0⟩ = (M2, gg, 0) ∧ M2.swap top hd gg = (M3, true, 0) ∧ M3.okd = true ∧ M3.dload gg = (M4, ⟨d.ver + 1 + more, d.ver, nc, none, 0, 0⟩, 0) ∧ M4.swap nc 0 1 = (M5, true, 0) ∧ M5.okd = true ∧ M5.undo hd = (M6, 0) ∧
      Al15 M6 top gg ⟨d.ver + 1 + more, d.ver, nc, none, 0, 0⟩ ts ss kk (g + 2) b ⟨r.V + 1 + more, r.S, r.P⟩ := by
  obtain ⟨M1, M2, M3, M4, M5, M6, gg, nc, e1, e2, e3, o3, e4, e5, o5, e6, t6, s6, o6, k6, nn⟩ := publish_new h.Y.T h.Y.S h2k hk hg h.Y.ok (d.ver + 1 + more)
  have hne : ∀ z, z ∈ ts ++ ss → z ≠ top ∧ z ≠ hd ∧ z ≠ d.st := fun z hz => ⟨fun e => h.Y.n1 (e ▸ hz), fun e => h.Y.n2 (e ▸ hz), fun e => h.Y.n3 (e ▸ hz)⟩
  refine ⟨M1, M2, M3, M4, M5, M6, gg, nc, e1, e2, e3, o3, e4, e5, o5, e6, ⟨t6, s6, o6, ⟨h.Y.ws.1, fun j hj => ?_⟩, ⟨h.Y.wp.1, fun j hj => ?_⟩, h.Y.nd, h.Y.n1, fun hm => ?_⟩, by simp only; rw [h.v], ⟨by have := h.vb; simp only; omega, hv⟩, h.sb, h.pb⟩
  · obtain ⟨a1, a2, a3⟩ := hne _ (List.mem_append_left _ (getD_mem hj))
    exact k6 _ _ (h.Y.ws.2 j hj) a1 a2 a3
  · obtain ⟨a1, a2, a3⟩ := hne _ (List.mem_append_right _ (getD_mem hj))
    exact k6 _ _ (h.Y.wp.2 j hj) a1 a2 a3
  · have : ∃ z, m.val nc = some (number z) := by
      rcases List.mem_append.1 hm with hm | hm
      · exact h.Y.ws.mem hm
      · exact h.Y.wp.mem hm
    obtain ⟨z, hz⟩ := this
    rw [nn] at hz
    cases hz
end
section
variable {w w' w0 : World} {mb cb : Nat} {m : M}
theorem do5_calls {K : Nat} {c1 c2 c3 c4 c5 : Value} {v : Value} {Q : World → Prop} (hK : ∀ args W, (callFunc K args).run Try.prog W = .ok (.enter K args) W) (hd : Calls Try.prog K #[ptr w.heap.size, c1, c2, c3, c4, c5] (w.alloc (port0 mb)) fun e w' => e = .returned v ∧ Q w') :
    Calls Try.prog 15 #[ptr mb, .func (Fn.func K) #[] #[c1, c2, c3, c4, c5]] w fun e w' => e = .returned v ∧ Q w' := by
  have hk := hK #[ptr w.heap.size, c1, c2, c3, c4, c5]
  have HD := Lib.hid hd
  clear hK hd
  go_enter Try.func15, Try.ntmps15
  go_wp2_with fail
  refine HD.out.mono ?_
  rintro e W ⟨rfl, hq⟩
  have HQ := Lib.hid hq
  clear hq
  go_wp2_with fail
  go_ret
  exact ⟨rfl, HQ.out⟩
/-- The boxes of an act. -/
theorem boxed6 (w : World) (Y X G : Array Value) (id : Int) : ∃ W, W = (((((w.alloc (.cells Y 86)).alloc (.cells G 97)).alloc (.cells X 91)).alloc (.cells #[.int .i64 id] 3)).alloc (.cells #[.int .i64 0, .slice none 0 0, .slice none 0 0] 97)).alloc (.cells #[.int .i64 (-1)] 3) ∧
    W.heap[w.heap.size]? = some (.cells Y 86 (0, 0)) ∧ W.heap[w.heap.size + 1]? = some (.cells G 97 (0, 0)) ∧ W.heap[w.heap.size + 2]? = some (.cells X 91 (0, 0)) ∧ W.heap[w.heap.size + 3]? = some (.cells #[.int .i64 id] 3 (0, 0)) ∧ W.heap[w.heap.size + 4]? = some (.cells #[.int .i64 0, .slice none 0 0, .slice none 0 0] 97 (0, 0)) ∧ W.heap[w.heap.size + 5]? = some (.cells #[.int .i64 (-1)] 3 (0, 0)) ∧ Below w.heap.size w W ∧ W.heap.size = w.heap.size + 6 := by
  have nw : ∀ (u : World) (o : Obj) (q : Nat), u.heap.size = q → (u.alloc o).heap[q]? = some o := fun u o q e => by rw [← e]; exact blk_new u o
  refine ⟨_, rfl, blk_alloc (blk_alloc (blk_alloc (blk_alloc (blk_alloc (blk_new _ _) _) _) _) _) _, blk_alloc (blk_alloc (blk_alloc (blk_alloc (nw _ _ _ (by simp)) _) _) _) _, blk_alloc (blk_alloc (blk_alloc (nw _ _ _ (by simp)) _) _) _, blk_alloc (blk_alloc (nw _ _ _ (by simp)) _) _, blk_alloc (nw _ _ _ (by simp)) _, nw _ _ _ (by simp), below_alloc (below_alloc (below_alloc (below_alloc (below_alloc (below_alloc (Below.refl _ _) _) _) _) _) _) _, by simp⟩
set_option maxHeartbeats 3200000 in
set_option maxRecDepth 100000 in
theorem does15_calls {base ca cc kk : Nat} {A B : Option Addr} {ts ss : List Int} {top hd : Int} {d : D} {g b : Int} {r : Rg} {vs vp : Value} (hA : At w mb cb m) (hR : RegAt w base A ca B cc ts ss) (hL : Al15 m top hd d ts ss kk g b r) (hX : RgV w (.agg #[.int .i64 r.V, vs, vp]) r) (hb : b ≤ 1000) (id : Int) (hid : id ≤ 9223372036854775807) (xd c at_ v : Int) (raw : Bool) (hx0 : 0 ≤ xd) (hx7 : xd % 7 ≠ 0) :
    Calls Try.prog 58 #[.agg #[ptr mb, .int .i64 top, .slice A ts.length ca, .slice B ss.length cc], .agg #[.int .i64 r.V, vs, vp], .agg #[.int .u8 xd, .int .i64 c, .int .i64 at_, .int .i64 v, .bool raw], .int .i64 id] w fun e w' => ∃ (m' : M) (r' : Rg) (vs' vp' : Value) (told : Int), e = .returned (.tuple #[.agg #[.int .i64 r'.V, vs', vp'], .bool true, .int .i64 told]) ∧ At w' mb cb m' ∧ Al15 m' top hd d ts ss kk g (b + 1) r' ∧ r'.V = r.V ∧ RgV w' (.agg #[.int .i64 r'.V, vs', vp']) r' ∧ told ≤ 9223372036854775807 ∧ Ow vs w.heap.size vs' ∧ Fr w w' mb cb := by
  obtain ⟨⟨Av, nv_, cv, evs⟩, ⟨Ap, np_, cp, evp⟩⟩ := regv_kind hX
  subst evs evp
  obtain ⟨W, hW, kY, kG, kx, ki, kr, kt, hbW, hsz⟩ := boxed6 w #[ptr mb, .int .i64 top, .slice A ts.length ca, .slice B ss.length cc] #[.int .u8 xd, .int .i64 c, .int .i64 at_, .int .i64 v, .bool raw] #[.int .i64 r.V, .slice Av nv_ cv, .slice Ap np_ cp] id
  have hbp : Below W.heap.size W (W.alloc (port0 mb)) := below_alloc (Below.refl _ _) _
  have hA2 := (hA.below hbW).below hbp
  have hP2 : PD (W.alloc (port0 mb)) W.heap.size mb := blk_new _ _
  have hF2 : Fr w (W.alloc (port0 mb)) mb cb := Fr.of_below (below_then hbW hbW.size hbp) mb cb
  have hR0 : RegAt (W.alloc (port0 mb)) 0 A ca B cc ts ss := by
    have := (hR.below hbW).below hbp
    exact ⟨this.a.lower (Nat.zero_le _), this.b.lower (Nat.zero_le _), this.la, this.lb⟩
  have hRs : Rs (.slice Av nv_ cv) w.heap.size w W.heap.size mb cb (w.heap.size + 2) w.heap.size (w.heap.size + 1) (w.heap.size + 5) (w.heap.size + 3) #[.int .u8 xd, .int .i64 c, .int .i64 at_, .int .i64 v, .bool raw] top A ca B cc ts ss id m r (.slice Av nv_ cv) (.slice Ap np_ cp) (-1) (W.alloc (port0 mb)) :=
    ⟨⟨hA2, hP2, hF2⟩, hR0, blk_below kx hbp, blk_below kY hbp, blk_below kG hbp, blk_below kt hbp, blk_below ki hbp, (hX.below hbW).below hbp, by omega, Or.inl rfl, Nat.le_trans hbW.size hbp.size⟩
  have off : ∀ {base : Nat} {u : Value} {xs : List Int}, OwnI w base u xs → u.ownBlock ≠ some (w.heap.size + 5) := fun h e => by have := h.lt e; omega
  have hvs : (Value.slice Av nv_ cv).ownBlock ≠ some (w.heap.size + 5) := by
    obtain ⟨_, _, vs1, vp1, e, h3, _⟩ := hX
    injection e with e
    have e' : Value.slice Av nv_ cv = vs1 ∧ Value.slice Ap np_ cp = vp1 := by simpa using e
    rw [e'.1]
    exact off h3
  have kr2 := blk_below kr hbp
  have HD := Lib.hid (do5_calls (mb := mb) (v := .iface 4 (.bool true)) (Q := fun w' => ∃ (m' : M) (r' : Rg) (vs' vp' : Value) (told : Int), Rs (.slice Av nv_ cv) w.heap.size w W.heap.size mb cb (w.heap.size + 2) w.heap.size (w.heap.size + 1) (w.heap.size + 5) (w.heap.size + 3) #[.int .u8 xd, .int .i64 c, .int .i64 at_, .int .i64 v, .bool raw] top A ca B cc ts ss id m' r' vs' vp' told w' ∧ Al15 m' top hd d ts ss kk g (b + 1) r' ∧ r'.V = r.V ∧ Kp (W.alloc (port0 mb)) w' (w.heap.size + 1) (w.heap.size + 5)) (fun args W => enters_ Try.func100 (by kernel_rfl) rfl args W) (does15_fn hb hid hRs hL (by omega) (by omega) (by omega) (off hR.a) (off hR.b) hvs hx0 hx7))
  obtain ⟨y0, y1, y2, y3⟩ := box4 kY
  have HW := Lib.hid hW
  have HKR := Lib.hid kr2
  have HZ := Lib.hid hbW.size
  have hmf := makeFunc_run
  have hta := ta_bool true
  clear hA hR hL hX hW kY kG kx ki kr kt hbW hsz hbp hA2 hP2 hF2 hR0 hRs off hvs kr2
  go_enter Try.func58, Try.ntmps58
  go_upto_region 2 with fail
  rw [← HW.out]
  clear HW
  go_wp2_with fail
  refine HD.out.mono ?_
  clear HD
  rintro e W5 ⟨rfl, m', r', vs', vp', told, hRs5, hL5, hV5, hK5⟩
  obtain ⟨⟨Av', nv', cv', evs⟩, ⟨Ap', np', cp', evp⟩⟩ := regv_kind hRs5.X
  subst evs evp
  have kr5 := hK5 _ _ _ HKR.out (by decide) (by decide) (by omega) (by omega)
  have kw5 := hRs5.kw
  have kt5 := hRs5.kt
  have hd5 : Below W5.heap.size W5 (W5.drewN 1) := pw_below_drewN (Below.refl _ _) 1
  obtain ⟨W6, hW6⟩ : ∃ y : World, y = set3r (W5.drewN 1) (w.heap.size + 4) (.int .i64 r'.V) (.slice Av' nv' cv') (.slice Ap' np' cp') := ⟨_, rfl⟩
  have hO6 : Only (W5.drewN 1) W6 (w.heap.size + 4) := hW6 ▸ only3r _ _ _ _ _
  have kr6 : W6.heap[w.heap.size + 4]? = some (.cells #[.int .i64 r'.V, .slice Av' nv' cv', .slice Ap' np' cp'] 97 (0, 0)) := hW6 ▸ blk3r (blk_below kr5 hd5) _ _ _
  have kw6 := (hO6.block (w.heap.size + 1) (by omega)).trans (blk_below kw5 hd5)
  have kt6 := (hO6.block (w.heap.size + 5) (by omega)).trans (blk_below kt5 hd5)
  have FIN := Lib.hid (show At W6 mb cb m' ∧ RgV W6 (.agg #[.int .i64 r'.V, .slice Av' nv' cv', .slice Ap' np' cp']) r' ∧ Fr w W6 mb cb from
    ⟨(hRs5.S.A.below hd5).only hO6 (Ne.symm (blk_ne (blk_below kr5 hd5) (hRs5.S.A.below hd5).hm (by decide))) (Ne.symm (blk_ne (blk_below kr5 hd5) (hRs5.S.A.below hd5).hc (by decide))), (hRs5.X.below hd5).only hO6 (blk_below kr5 hd5) (by decide) (by decide), (hRs5.S.F.below hd5).only hO6 (by omega)⟩)
  have HL5 := Lib.hid (And.intro hL5 hV5)
  have HTB := Lib.hid (And.intro hRs5.tb hRs5.ow)
  obtain ⟨q0, q1, q2⟩ := box3s kw5
  have t0 := box1 kt5
  obtain ⟨p0, p1, p2⟩ := box3s kr5
  have z0 := blk_frozen kr5 0
  have z1 := blk_frozen kr5 1
  have z2 := blk_frozen kr5 2
  obtain ⟨o0, o1, o2⟩ := box3s kw6
  have o3 := box1 kt6
  obtain ⟨r0_, r1_, r2_⟩ := box3s kr6
  have HW6 := Lib.hid hW6
  clear hRs5 hL5 hV5 hK5 kr5 kw5 kt5 hd5 hW6 hO6 kr6 kw6 kt6 HKR y0 y1 y2 y3
  go_upto_region 3 with fail
  refine start_ (n := 6) (S := fun w' => w'.cell? ⟨w.heap.size + 1, 0, none⟩ = some (.int .i64 r'.V) ∧ w'.cell? ⟨w.heap.size + 1, 1, none⟩ = some (.slice Av' nv' cv') ∧ w'.cell? ⟨w.heap.size + 1, 2, none⟩ = some (.slice Ap' np' cp') ∧ w'.cell? ⟨w.heap.size + 5, 0, none⟩ = some (.int .i64 told)) (ds := []) #[false, false, false, false, false, false] rfl rfl rfl (⟨q0, q1, q2, t0⟩) ?_
  intro hHeld
  refine take_ (i := 0) (N := some 22) (v := ?_) (a' := ?_) #[true, false, false, false, false, false] rfl rfl (by kernel_rfl) (fun _ _ _ h => h) (Or.inl ⟨by rfl, ?_⟩) hHeld ?_ ?_
  rotate_left
  · rintro w' hHeld'
    have hHeld'' := hHeld'
    (try obtain ⟨r0_, r1_⟩ := hHeld')
    (try obtain ⟨r1_, r2_⟩ := r1_)
    (try obtain ⟨r2_, r3_⟩ := r2_)
    go_simp
    with_reducible rfl
  rotate_left
  · simp only [Act.put, List.setIfInBounds_toArray, List.set_cons_zero, List.set_cons_succ, i64_w, i32_w]
    rfl
  refine pure_ (i := 1) (N := some 23) (v := ?_) (a' := ?_) #[true, true, false, false, false, false] rfl rfl (by kernel_rfl) (fun _ _ _ h => h) (Or.inl ⟨by rfl, ?_⟩) ?_ ?_
  rotate_left
  · intro w'
    go_simp
    with_reducible rfl
  rotate_left
  · simp only [Act.put, List.setIfInBounds_toArray, List.set_cons_zero, List.set_cons_succ, i64_w, i32_w]
    rfl
  refine take_ (i := 2) (N := some 24) (v := ?_) (a' := ?_) #[true, true, true, false, false, false] rfl rfl (by kernel_rfl) (fun _ _ _ h => h) (Or.inl ⟨by rfl, ?_⟩) hHeld ?_ ?_
  rotate_left
  · rintro w' hHeld'
    have hHeld'' := hHeld'
    (try obtain ⟨r0_, r1_⟩ := hHeld')
    (try obtain ⟨r1_, r2_⟩ := r1_)
    (try obtain ⟨r2_, r3_⟩ := r2_)
    go_simp
    with_reducible rfl
  rotate_left
  · simp only [Act.put, List.setIfInBounds_toArray, List.set_cons_zero, List.set_cons_succ, i64_w, i32_w]
    rfl
  refine one_ (i := 3) (N := none) #[true, true, true, true, false, false] rfl rfl (by kernel_rfl) (by decide) (fun K hSh => ?_)
  refine skip_ (w1 := W6) (by rfl) rfl (by rw [HW6.out]; go_simp <;> rfl) ?_
  refine hSh.out _ _ ⟨o0, o1, o2, o3⟩ ?_
  clear hHeld
  intro hHeld
  refine pure_ (i := 4) (N := some 9) (v := ?_) (a' := ?_) #[true, true, true, true, true, false] rfl rfl (by kernel_rfl) (fun _ _ _ h => h) (Or.inl ⟨by rfl, ?_⟩) ?_ ?_
  rotate_left
  · intro w'
    go_simp
    with_reducible rfl
  rotate_left
  · simp only [Act.put, List.setIfInBounds_toArray, List.set_cons_zero, List.set_cons_succ, i64_w, i32_w]
    rfl
  refine pure_ (i := 5) (N := some 10) (v := ?_) (a' := ?_) #[true, true, true, true, true, true] rfl rfl (by kernel_rfl) (fun _ _ _ h => h) (Or.inl ⟨by rfl, ?_⟩) ?_ ?_
  rotate_left
  · intro w'
    go_simp
    with_reducible rfl
  rotate_left
  · simp only [Act.put, List.setIfInBounds_toArray, List.set_cons_zero, List.set_cons_succ, i64_w, i32_w]
    rfl
  refine done_ (by kernel_rfl) ?_
  clear hHeld q0 q1 q2 t0 p0 p1 p2 z0 z1 z2 o0 o1 o2 o3 HW6
  go_wp2_with fail
  exact bodyPost_ret (v := .tuple #[.agg #[.int .i64 r'.V, .slice Av' nv' cv', .slice Ap' np' cp'], .bool true, .int .i64 told]) (by simp [results, Try.results58, go_sem, r0_, r1_, r2_]) rfl ⟨m', r', _, _, told, rfl, FIN.out.1, HL5.out.1, HL5.out.2, FIN.out.2.1, HTB.out.1, HTB.out.2, FIN.out.2.2⟩
end
end Go.Proofs.Ytahnmklofgnagaa.Mem
