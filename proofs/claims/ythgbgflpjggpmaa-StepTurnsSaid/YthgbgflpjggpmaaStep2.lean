/- Ports, step by step: ask. -/
import Derived.Test.YthgbgflpjggpmaaStep1
namespace Go.Proofs.Ythgbgflpjggpmaa.Mem
open Go.RowKit Go.Proofs.YthgbgflpjggpmaaW.PrintWords Go.Proofs.YthgbgflpjggpmaaW.PrintLast Go.Proofs.Ythgbgflpjggpmaa.Tags
set_option linter.unusedVariables false
set_option linter.unusedSimpArgs false
section
variable {w w' w0 : World} {pb mb cb : Nat} {S : Nat → Prop} {s : PS} {v : Value}
/-- Another block is written. -/
theorem Sp.other {b : Nat} (h : Sp w0 S w pb mb cb s v) (k : Only w w' b) (hb : w0.heap.size ≤ b ∨ S b) (n1 : pb ≠ b) (n2 : mb ≠ b) (n3 : cb ≠ b) (n4 : some b ≠ v.ownBlock) : Sp w0 S w' pb mb cb s v :=
  ⟨h.A.only k n2 n3, (k.block pb n1).trans h.P, h.L.only k n4, h.F.trans (Fx.of_only (S := fun i => i = b) k rfl) (fun i hi e => hb.elim (fun q => absurd e (by omega)) (fun q => e.symm ▸ q)), h.sp, h.sm, h.sc, h.sv, h.ok, h.len, h.le⟩
set_option maxHeartbeats 1600000 in
set_option maxRecDepth 100000 in
theorem ask_old (h : Sp w0 S w pb mb cb s v) (hlt : s.at_ < s.log.length) (F : Value) :
    Calls Try.prog 32 #[ptr pb, F] w fun e w' => e = .returned (s.log.getD s.at_ a0).v ∧ Sp w0 S w' pb mb cb { s with at_ := s.at_ + 1 } v := by
  obtain ⟨W, hW⟩ : ∃ W : World, W = w.alloc (.cells #[.nilIface, .int .i64 0, .bool false, .int .i64 0] 76) := ⟨_, rfl⟩
  have hb : Below w.heap.size w W := hW ▸ below_alloc (Below.refl _ _) _
  have hK : W.heap[w.heap.size]? = some (.cells #[.nilIface, .int .i64 0, .bool false, .int .i64 0] 76 (0, 0)) := hW ▸ blk_new _ _
  have h1 := h.below hb
  obtain ⟨A, c, rfl⟩ := h.L.slice
  obtain ⟨g, hA, x0, x1, x2, x3⟩ := h1.L.cells s.at_ hlt
  subst hA
  obtain ⟨p0, p1, p2, p3, p4⟩ := h1.P.cells
  obtain ⟨n, hn⟩ : ∃ n, s.at_ = n := ⟨_, rfl⟩
  obtain ⟨L, hL⟩ : ∃ L, s.log.length = L := ⟨_, rfl⟩
  obtain ⟨x, hx⟩ : ∃ x, s.log.getD s.at_ a0 = x := ⟨_, rfl⟩
  have hgood : x.good := by
    have : x ∈ s.log := by rw [← hx, List.getD_eq_getElem?_getD, List.getElem?_eq_getElem hlt]; exact List.getElem_mem _
    exact h.ok x this
  have hlen := h.len
  rw [hx] at x0 x1 x2 x3
  rw [hx]
  rw [hn] at x0 x1 x2 x3 p2 hlt
  rw [hL] at p1 hlt hlen
  have hz := blk_frozen h1.P 2
  have hk0 := blk_lt hK
  have g1 : decide ((n : Int) < (L : Int)) = true := decide_eq_true (by omega)
  have g2 : decide (n < L) = true := decide_eq_true (by omega)
  have e1 : IntKind.i64.wrap ((n : Int) + 1) = ((n + 1 : Nat) : Int) := by rw [IntKind.wrap_i64]; omega
  have H1 := Lib.hid h1
  have HK := Lib.hid hK
  have HW := Lib.hid hW
  have HG := Lib.hid hgood
  have HN := Lib.hid hn
  have HL := Lib.hid hL
  have HE := Lib.hid e1
  have hx := Lib.hid (show s.log.getD n a0 = x by rw [← hn]; exact hx)
  have hP0 := h.P
  have HF0 := Lib.hid h.F
  have HA0 := Lib.hid h.A
  have HL0 := Lib.hid h.L
  clear h1 hK hW hgood hn hL hb h e1
  go_enter Try.func32, Try.ntmps32
  go_upto_region 1 with fail
  rw [← HW.out]
  go_quiet (fail)
  go_wp2_with fail
  obtain ⟨W2, hW2⟩ : ∃ x : World, x = ((W.drewN nq).setCell ⟨pb, 2, none⟩ (.int .i64 ((n : Int) + 1))) := ⟨_, rfl⟩
  rw [← hW2]
  have hP2 : PG W2 pb mb (.slice (some ⟨g, 0, none⟩) L c) ((n + 1 : Nat) : Int) s.left s.note := by
    have := H1.out.P
    rw [HL.out] at this
    rw [hW2]
    exact blk_put (blk_drewN this nq) 2 _ rfl
  have hO2 : Only (W.drewN nq) W2 pb := hW2 ▸ Only.set _ _ _
  have h2 : Sp w0 S W2 pb mb cb { s with at_ := n + 1 } (.slice (some ⟨g, 0, none⟩) s.log.length c) := by
    refine (H1.out.below (pw_below_drewN (Below.refl _ _) nq)).port (note := s.note) hO2 (by rw [HL.out]; exact hP2) (by omega) (by rw [HL.out]; exact hlen)
  have hb2 : w.heap.size ≠ pb := by have := blk_lt (show w.heap[pb]? = _ from hP0); omega
  have hK2 : W2.heap[w.heap.size]? = some (.cells #[.nilIface, .int .i64 0, .bool false, .int .i64 0] 76 (0, 0)) := (hO2.block _ hb2).trans (blk_drewN HK.out nq)
  clear p0 p1 p2 p3 p4 x0 x1 x2 x3 hz hk0
  obtain ⟨g', hA', x0, x1, x2, x3⟩ := h2.L.cells n (by rw [HL.out]; exact hlt)
  obtain rfl : g = g' := by injection hA' with hA'; injection hA'
  have HX := hx
  rw [HX.out] at x0 x1 x2 x3
  obtain ⟨p0, p1, p2, p3, p4⟩ := hP2.cells
  have hk0 := blk_lt hK2
  obtain ⟨z0, z1, z2, z3⟩ := box4 hK2
  have f0 := blk_frozen hK2 0
  have f1 := blk_frozen hK2 1
  have f2 := blk_frozen hK2 2
  have f3 := blk_frozen hK2 3
  have H2 := Lib.hid h2
  have HK2 := Lib.hid hK2
  have HW2 := Lib.hid hW2
  clear h2 hK2 hW2 hO2 hP2 hA'
  have e2 : IntKind.i64.wrap (((n + 1 : Nat) : Int) - 1) = (n : Int) := by rw [IntKind.wrap_i64]; omega
  have e3 : wrap64 (((n + 1 : Nat) : Int) - 1) = (n : Int) := by unfold wrap64; omega
  have e4 : IntKind.i64.wrap (n : Int) = n := by rw [IntKind.wrap_i64]; omega
  have e5 : wrap64 (n : Int) = (n : Int) := by unfold wrap64; omega
  have q2 : decide ((n : Int) < 0) = false := decide_eq_false (by omega)
  have q3 : decide (L ≤ n) = false := decide_eq_false (by omega)
  have q4 : decide ((L : Int) ≤ n) = false := decide_eq_false (by omega)
  have q0 : (0 : Int) ≤ n := by omega
  have q1 : (n : Int) < L := by omega
  go_still_tail 11, (by kernel_rfl)
  change wpList _ _ _ _ _ (W2.drewN 1)
  have hF : Sp w0 S (set4 (W2.drewN 1) w.heap.size x.b (.int .i64 x.n) (.bool x.ok) (.int .i64 x.e)) pb mb cb { s with at_ := n + 1 } (.slice (some ⟨g, 0, none⟩) s.log.length c) := by
    refine (H2.out.below (pw_below_drewN (Below.refl _ _) 1)).other (only4 _ w.heap.size _ _ _ _) (Or.inl HF0.out.size) (Ne.symm hb2) ?_ ?_ ?_
    · have := mb_lt HA0.out; omega
    · have := cb_lt HA0.out; omega
    · intro e
      have := HL0.out.lt e.symm
      omega
  have hk := blk4 (blk_drewN HK2.out 1) x.b (.int .i64 x.n) (.bool x.ok) (.int .i64 x.e)
  obtain ⟨u0, u1, u2, u3⟩ := box4 hk
  have HF := Lib.hid hF
  obtain ⟨xb, xn, xo, xe⟩ := x
  simp only at HF u0 u1 u2 u3
  clear hF hk
  rcases HG.out with hb | ⟨T, u, hb⟩
  all_goals
    simp only at hb
    subst hb
    clear x0 x1 x2 x3 p0 p1 p2 p3 p4
    clear HG HX hx
    go_wp2_with fail
    rw [HN.out]
    exact bodyPost_ret (v := ans _ xn xo xe) (by simp [results, Try.results32, go_sem, u0, u1, u2, u3]) rfl ⟨rfl, HF.out⟩
set_option maxHeartbeats 1600000 in
set_option maxRecDepth 100000 in
theorem ask_out (h : Sp w0 S w pb mb cb s v) (hge : ¬ s.at_ < s.log.length) (hl : s.left = 0) (F : Value) :
    Calls Try.prog 32 #[ptr pb, F] w fun e w' => e = .panicked [{ v := .iface 99 (.agg #[]), recovered := false }] ∧ Sp w0 S w' pb mb cb s v := by
  obtain ⟨W, hW⟩ : ∃ W : World, W = w.alloc (.cells #[.nilIface, .int .i64 0, .bool false, .int .i64 0] 76) := ⟨_, rfl⟩
  have hb : Below w.heap.size w W := hW ▸ below_alloc (Below.refl _ _) _
  have h1 := h.below hb
  obtain ⟨A, c, rfl⟩ := h.L.slice
  obtain ⟨p0, p1, p2, p3, p4⟩ := h1.P.cells
  obtain ⟨n, hn⟩ : ∃ n, s.log.length = n := ⟨_, rfl⟩
  obtain ⟨q, hq⟩ : ∃ q, s.at_ = q := ⟨_, rfl⟩
  rw [hq, hn] at hge
  rw [hq] at p2
  rw [hn] at p1
  rw [hl] at p3
  have g1 : decide ((q : Int) < (n : Int)) = false := decide_eq_false (by omega)
  have g2 : decide (q < n) = false := decide_eq_false (by omega)
  have H1 := Lib.hid h1
  have HW := Lib.hid hW
  clear h1 hW hb hge hn hl h hq
  go_enter Try.func32, Try.ntmps32
  go_upto_region 1 with fail
  rw [← HW.out]
  go_quiet (fail)
  go_wp2_with fail
  exact ⟨rfl, rfl, H1.out.below (pw_below_drewN (Below.refl _ _) nq)⟩
theorem ans_info : (Try.prog.info? 76).map (fun i => (i.zero, i.size, i.bytes)) = some (some (.agg #[.nilIface, .int .i64 0, .bool false, .int .i64 0]), 4, 40) := by kernel_rfl
theorem OwnA.add {w1 : World} {v1 : Value} {l : List Ans} {y : Ans} (h : w1.ownsRow 0 76 4 v1 (l.length + 1) (l.flatMap Ans.row ++ y.row)) : OwnA w1 v1 (l ++ [y]) := by
  unfold OwnA
  rw [List.length_append, List.flatMap_append]
  simpa using h
theorem run_append_A (v : Value) (l : List Ans) (b : Value) (n : Int) (ok : Bool) (e : Int) (ty : TypeId) {W : World} (hy : b = .nilIface ∨ ∃ T x, b = .iface T x) (hO : OwnA W v l) (hl : l.length ≤ 1000000) :
    ∃ A1 c1 w1, (Builtin.append_ #[70, 70] ty #[v, .slice (some ⟨W.heap.size, 0, none⟩) 1 1]).run Try.prog (W.alloc (.cells #[b, .int .i64 n, .bool ok, .int .i64 e] 76)) = .ok (.slice A1 (l.length + 1) c1) w1 ∧ OwnA w1 (.slice A1 (l.length + 1) c1) (l ++ [⟨b, n, ok, e⟩]) ∧ W.grownBy w1 v.ownBlock ∧ ((Value.slice A1 (l.length + 1) c1).ownBlock = v.ownBlock ∨ ∃ b, (Value.slice A1 (l.length + 1) c1).ownBlock = some b ∧ W.heap.size ≤ b) := by
  obtain ⟨i0, hi, hzz⟩ := Option.map_eq_some_iff.1 ans_info
  simp only [Prod.mk.injEq] at hzz
  obtain ⟨hz0, hz1, hz2⟩ := hzz
  obtain ⟨v1, w1, hr, hown, hg, _, hat⟩ := run_append_own_at (P := Try.prog) (W.alloc (.cells #[b, .int .i64 n, .bool ok, .int .i64 e] 76)) 0 70 ty 76 i0 _ 4 40 Try.underlying70 hi hz0 hz1 hz2 rfl (by decide) v l.length (l.flatMap Ans.row) (hO.alloc _) ⟨W.heap.size, 0, none⟩ 1 1 [b, .int .i64 n, .bool ok, .int .i64 e] rfl
    (by simpa using World.news_of_block (cs := #[b, .int .i64 n, .bool ok, .int .i64 e]) (t := 76) (fr := (0, 0)) (heap_alloc_new W (.cells #[b, .int .i64 n, .bool ok, .int .i64 e] 76)))
    (by
      intro u hu
      simp only [List.mem_cons, List.not_mem_nil, or_false] at hu
      rcases hy with rfl | ⟨T, z, rfl⟩
      all_goals rcases hu with rfl | rfl | rfl | rfl <;> rfl) (by simp only [maxLen]; omega) (by omega) (Nat.zero_le _)
  have hO1 : OwnA w1 v1 (l ++ [⟨b, n, ok, e⟩]) := OwnA.add (y := ⟨b, n, ok, e⟩) hown
  obtain ⟨A1, c1, hv⟩ := hO1.slice
  rw [List.length_append] at hv
  simp only [List.length_cons, List.length_nil] at hv
  subst hv
  refine ⟨A1, c1, w1, hr, hO1, World.grownBy.trans (World.grownBy_alloc W _ _) hg, ?_⟩
  rcases hat with q | q
  · exact Or.inl q
  · exact Or.inr ⟨_, q, by simp⟩
theorem exec_append {o : Oper} {ρ : Operand → Value} {s x : Operand} {t : TypeId} (ho : o.op = .call { callee := .builtin .append, args := #[s, x], argTypes := #[t, t] }) {v u v1 : Value} {w w1 : World} (hs : ρ s = v) (hx : ρ x = u) (hr : (Builtin.append_ #[t, t] o.type #[v, u]).run Try.prog w = .ok v1 w1) : (execOp ρ o).run Try.prog w = .ok (.value v1) w1 := by
  unfold execOp
  simp only [ho, resolve, invoke, builtin, Sem.run_bind, Sem.run_pure, Result.andThen_ok, List.map_toArray, List.map_cons, List.map_nil, hs, hx, hr]
/-- The log has grown. -/
theorem Sp.push {w1 w2 : World} {v1 : Value} {y : Ans} (h : Sp w0 S w pb mb cb s v) (hg : w.grownBy w1 v.ownBlock) (hO : OwnA w1 v1 (s.log ++ [y])) (hat : v1.ownBlock = v.ownBlock ∨ ∃ b, v1.ownBlock = some b ∧ w.heap.size ≤ b) (hy : y.good) (hlen : s.log.length + 1 + s.left.toNat ≤ 100000) (hle : s.at_ + 1 + s.left.toNat ≤ 100000) (hon : Only w1 w2 pb) (hP : PG w2 pb mb v1 ((s.at_ + 1 : Nat) : Int) s.left s.note) (hP1 : some pb ≠ v1.ownBlock) :
    Sp w0 S w2 pb mb cb { s with log := s.log ++ [y], at_ := s.at_ + 1 } v1 :=
  ⟨(h.A.grown_ hg (h.L.ne h.A.hm (by decide)) (h.L.ne h.A.hc (by decide))).only hon (Ne.symm (h.P.ne h.A).1) (Ne.symm (h.P.ne h.A).2), hP, hO.only hon hP1,
   (h.F.trans (Fx.of_grown (S := fun k => v.ownBlock = some k) hg (fun _ e => e)) (fun i hi e => (h.sv i e).elim id (fun q => absurd hi (by omega)))).trans (Fx.of_only hon h.sp) (fun _ _ t => t), h.sp, h.sm, h.sc,
   fun k hk => by
     rcases hat with e | ⟨b, e, hb⟩
     · exact h.sv k (e ▸ hk)
     · rw [e] at hk
       injection hk with hk
       have := h.F.size
       exact Or.inr (by omega),
   fun a ha => by
     rcases List.mem_append.1 ha with q | q
     · exact h.ok a q
     · rw [List.mem_singleton.1 q]
       exact hy,
   by simp only [List.length_append, List.length_cons, List.length_nil]; omega, hle⟩
set_option maxHeartbeats 3200000 in
set_option maxRecDepth 100000 in
theorem ask_new (h : Sp w0 S w pb mb cb s v) (hge : ¬ s.at_ < s.log.length) (hl : s.left = 1) {K : Nat} {caps : Array Value} {b : Value} {n : Int} {ok : Bool} {e : Int} {m' : M} (hbv : b = .nilIface ∨ ∃ T x, b = .iface T x) (hK : ∀ W, (callFunc K caps).run Try.prog W = .ok (.enter K caps) W) (hd : ∀ W, Below w.heap.size w W → Calls Try.prog K caps W (Ends W mb cb (ans b n ok e) m')) :
    Calls Try.prog 32 #[ptr pb, .func (Fn.func K) #[] caps] w fun x w' => x = .returned (ans b n ok e) ∧ ∃ v', Sp w0 S w' pb mb cb { s with m := m', log := s.log ++ [⟨b, n, ok, e⟩], at_ := s.at_ + 1, left := 0 } v' := by
  obtain ⟨W, hW⟩ : ∃ W : World, W = w.alloc (.cells #[.nilIface, .int .i64 0, .bool false, .int .i64 0] 76) := ⟨_, rfl⟩
  have hb : Below w.heap.size w W := hW ▸ below_alloc (Below.refl _ _) _
  have hk0 : W.heap[w.heap.size]? = some (.cells #[.nilIface, .int .i64 0, .bool false, .int .i64 0] 76 (0, 0)) := hW ▸ blk_new _ _
  have h1 := h.below hb
  obtain ⟨A, c, rfl⟩ := h.L.slice
  obtain ⟨p0, p1, p2, p3, p4⟩ := h1.P.cells
  obtain ⟨k, hk⟩ : ∃ k, s.log.length = k := ⟨_, rfl⟩
  obtain ⟨q, hq⟩ : ∃ q, s.at_ = q := ⟨_, rfl⟩
  rw [hq, hk] at hge
  rw [hq] at p2
  have hql := h.le
  rw [hq, hl] at hql
  rw [hk] at p1
  rw [hl] at p3
  have g1 : decide ((q : Int) < (k : Int)) = false := decide_eq_false (by omega)
  have g2 : decide (q < k) = false := decide_eq_false (by omega)
  have nb1 : w.heap.size ≠ mb := by have := mb_lt h.A; omega
  have nb2 : w.heap.size ≠ cb := by have := cb_lt h.A; omega
  have nb3 : w.heap.size ≠ pb := by have := h.P.lt; omega
  have nb4 : some w.heap.size ≠ (Value.slice A s.log.length c).ownBlock := by
    intro e
    have := h.L.lt e.symm
    omega
  have hs0 := h.F.size
  have H1 := Lib.hid h1
  have HW := Lib.hid hW
  have HB := Lib.hid hb
  have HK0 := Lib.hid hk0
  have HG := Lib.hid hq
  have HK := Lib.hid hk
  have HL := Lib.hid hl
  have HD := Lib.hid hd
  clear h1 hW hb hge hl h hk0 hk hd hq
  go_enter Try.func32, Try.ntmps32
  go_upto_region 1 with fail
  rw [← HW.out]
  go_quiet (fail)
  go_wp2_with fail
  refine (HD.out _ (pw_below_drewN HB.out nq)).mono ?_
  rintro x W1 ⟨rfl, hA', hF⟩
  have h2 := (H1.out.below (pw_below_drewN (Below.refl _ _) nq)).fr hA' hF
  have hk1 := (hF.block _ (blk_lt (blk_drewN HK0.out nq)) nb1 nb2).trans (blk_drewN HK0.out nq)
  obtain ⟨W2, hW2⟩ : ∃ x : World, x = W1.alloc (.cells #[b, .int .i64 n, .bool ok, .int .i64 e] 76) := ⟨_, rfl⟩
  have hb2 : Below W1.heap.size W1 W2 := hW2 ▸ below_alloc (Below.refl _ _) _
  have hk2 : W2.heap[W1.heap.size]? = some (.cells #[b, .int .i64 n, .bool ok, .int .i64 e] 76 (0, 0)) := hW2 ▸ blk_new _ _
  have hk1' := blk_below hk1 hb2
  have ne12 : w.heap.size ≠ W1.heap.size := by have := blk_lt hk1; omega
  have h3 := h2.below hb2
  have hlt1 : w.heap.size < W1.heap.size := blk_lt hk1
  have ne1 : pb ≠ W1.heap.size := by have := h2.P.lt; omega
  clear p0 p1 p2 p3 p4 hA' hF
  obtain ⟨p0, p1, p2, p3, p4⟩ := h3.P.cells
  simp only at p0 p1 p2 p3 p4
  rw [HG.out] at p2
  rw [HK.out] at p1
  rw [HL.out] at p3
  have z3 := blk_frozen h3.P 3
  have hbl := h2.P.lt
  have nm1 := mb_lt h2.A
  have nm2 := cb_lt h2.A
  have nv1 : some W1.heap.size ≠ (Value.slice A s.log.length c).ownBlock := by
    intro e
    have := h2.L.lt e.symm
    omega
  have H3 := Lib.hid h3
  have HW2 := Lib.hid hW2
  have HK1 := Lib.hid hk1'
  have HK2 := Lib.hid hk2
  clear h2 h3 hW2 hk1 hk1' hk2 hb2 H1 HW HB HK0 HD
  have HBV := Lib.hid hbv
  rcases hbv with rfl | ⟨TT, xx, rfl⟩
  · have hlen : k + 1 ≤ 100000 := by
      have := H3.out.len
      simp only [HL.out, HK.out] at this
      have e1 : (1 : Int).toNat = 1 := rfl
      omega
    go_upto_region 7 with fail
    rw [← HW2.out]
    go_upto_region 9 with fail
    obtain ⟨W3, hW3⟩ : ∃ x : World, x = W2.setCell ⟨pb, 3, none⟩ (.int .i64 0) := ⟨_, rfl⟩
    rw [← hW3]
    have hO3 : Only W2 W3 pb := hW3 ▸ Only.set _ _ _
    have hP3 : PG W3 pb mb (.slice A s.log.length c) s.at_ 0 s.note := hW3 ▸ blk_put H3.out.P 3 _ rfl
    have h4 := H3.out.port (note := s.note) hO3 hP3 (by have e0 : (0 : Int).toNat = 0 := rfl; have e1 : (1 : Int).toNat = 1 := rfl; simp only [HG.out, e0]; omega) (by simp only [HK.out]; have : (0 : Int).toNat = 0 := rfl; omega)
    simp only at h4
    have hk1 := (hO3.block _ nb3).trans HK1.out
    have hk2 := (hO3.block _ (Ne.symm ne1)).trans HK2.out
    clear p0 p1 p2 p3 p4 z3
    obtain ⟨p0, p1, p2, p3, p4⟩ := hP3.cells
    rw [HG.out] at p2
    rw [HK.out] at p1
    obtain ⟨u0, u1, u2, u3⟩ := box4 hk2
    have H4 := Lib.hid h4
    have HK3 := Lib.hid hk1
    have HK4 := Lib.hid hk2
    have hP3' := Lib.hid hP3
    clear h4 hk1 hk2 hW3 hO3 H3 HW2 HK1 HK2 hP3
    have hOA : OwnA (W3.drewN 1) (.slice A k c) s.log := by
      have := (H4.out.below (pw_below_drewN (Below.refl _ _) 1)).L
      rw [← HK.out]
      exact this
    have hkl : s.log.length ≤ 1000000 := by rw [HK.out]; omega
    obtain ⟨A1, c1, w1, hr, hO1, hg, hat⟩ := run_append_A (.slice A k c) s.log .nilIface n ok e 70 (Or.inl rfl) hOA hkl
    rw [HK.out] at hr hO1 hat
    have HR := Lib.hid hr
    have HO1 := Lib.hid hO1
    have HGR := Lib.hid hg
    have HAT := Lib.hid hat
    clear hOA hkl hr hO1 hg hat
    refine start_ (n := 11) (S := fun w' => w'.cell? ⟨pb, 1, none⟩ = some (.slice A k c) ∧ w'.cell? ⟨W1.heap.size, 0, none⟩ = some .nilIface ∧ w'.cell? ⟨W1.heap.size, 1, none⟩ = some (.int .i64 n) ∧ w'.cell? ⟨W1.heap.size, 2, none⟩ = some (.bool ok) ∧ w'.cell? ⟨W1.heap.size, 3, none⟩ = some (.int .i64 e)) (ds := [7, 10]) #[false, false, false, false, false, false, false, false, false, false, false] rfl rfl rfl (⟨p1, u0, u1, u2, u3⟩) ?_
    intro hHeld
    refine pure_ (i := 0) (N := some 55) (v := ?_) (a' := ?_) #[true, false, false, false, false, false, false, false, false, false, false] rfl rfl (by kernel_rfl) (fun _ _ _ h => h) (Or.inl ⟨by rfl, ?_⟩) ?_ ?_
    rotate_left
    · intro w'
      go_simp
      with_reducible rfl
    rotate_left
    · simp only [Act.put, List.setIfInBounds_toArray, List.set_cons_zero, List.set_cons_succ, i64_w, i32_w]
      rfl
    refine pure_ (i := 1) (N := some 56) (v := ?_) (a' := ?_) #[true, true, false, false, false, false, false, false, false, false, false] rfl rfl (by kernel_rfl) (fun _ _ _ h => h) (Or.inl ⟨by rfl, ?_⟩) ?_ ?_
    rotate_left
    · intro w'
      go_simp
      with_reducible rfl
    rotate_left
    · simp only [Act.put, List.setIfInBounds_toArray, List.set_cons_zero, List.set_cons_succ, i64_w, i32_w]
      rfl
    refine pure_ (i := 2) (N := some 57) (v := ?_) (a' := ?_) #[true, true, true, false, false, false, false, false, false, false, false] rfl rfl (by kernel_rfl) (fun _ _ _ h => h) (Or.inl ⟨by rfl, ?_⟩) ?_ ?_
    rotate_left
    · intro w'
      go_simp
      with_reducible rfl
    rotate_left
    · simp only [Act.put, List.setIfInBounds_toArray, List.set_cons_zero, List.set_cons_succ, i64_w, i32_w]
      rfl
    refine pure_ (i := 3) (N := some 58) (v := ?_) (a' := ?_) #[true, true, true, true, false, false, false, false, false, false, false] rfl rfl (by kernel_rfl) (fun _ _ _ h => h) (Or.inl ⟨by rfl, ?_⟩) ?_ ?_
    rotate_left
    · intro w'
      go_simp
      with_reducible rfl
    rotate_left
    · simp only [Act.put, List.setIfInBounds_toArray, List.set_cons_zero, List.set_cons_succ, i64_w, i32_w]
      rfl
    refine take_ (i := 4) (N := some 59) (v := ?_) (a' := ?_) #[true, true, true, true, true, false, false, false, false, false, false] rfl rfl (by kernel_rfl) (fun _ _ _ h => h) (Or.inl ⟨by rfl, ?_⟩) hHeld ?_ ?_
    rotate_left
    · rintro w' hHeld'
      have hHeld'' := hHeld'
      (try obtain ⟨r0_, r1_⟩ := hHeld')
      (try obtain ⟨r1_, r2_⟩ := r1_)
      (try obtain ⟨r2_, r3_⟩ := r2_)
      (try obtain ⟨r3_, r4_⟩ := r3_)
      (try obtain ⟨r4_, r5_⟩ := r4_)
      (try obtain ⟨r5_, r6_⟩ := r5_)
      (try obtain ⟨r6_, r7_⟩ := r6_)
      (try obtain ⟨r7_, r8_⟩ := r7_)
      (try obtain ⟨r8_, r9_⟩ := r8_)
      (try obtain ⟨r9_, r10_⟩ := r9_)
      (try obtain ⟨r10_, r11_⟩ := r10_)
      (try obtain ⟨r11_, r12_⟩ := r11_)
      (try obtain ⟨r12_, r13_⟩ := r12_)
      (try obtain ⟨r13_, r14_⟩ := r13_)
      (try obtain ⟨r14_, r15_⟩ := r14_)
      (try obtain ⟨r15_, r16_⟩ := r15_)
      (try obtain ⟨r16_, r17_⟩ := r16_)
      (try obtain ⟨r17_, r18_⟩ := r17_)
      (try obtain ⟨r18_, r19_⟩ := r18_)
      (try obtain ⟨r19_, r20_⟩ := r19_)
      (try obtain ⟨r20_, r21_⟩ := r20_)
      (try obtain ⟨r21_, r22_⟩ := r21_)
      (try obtain ⟨r22_, r23_⟩ := r22_)
      (try obtain ⟨r23_, r24_⟩ := r23_)
      (try obtain ⟨r24_, r25_⟩ := r24_)
      (try obtain ⟨r25_, r26_⟩ := r25_)
      (try obtain ⟨r26_, r27_⟩ := r26_)
      (try obtain ⟨r27_, r28_⟩ := r27_)
      (try obtain ⟨r28_, r29_⟩ := r28_)
      (try obtain ⟨r29_, r30_⟩ := r29_)
      (try obtain ⟨r7_, r8_⟩ := r7_)
      (try obtain ⟨r8_, r9_⟩ := r8_)
      go_simp
      with_reducible rfl
    rotate_left
    · simp only [Act.put, List.setIfInBounds_toArray, List.set_cons_zero, List.set_cons_succ, i64_w, i32_w]
      rfl
    refine take_ (i := 5) (N := some 60) (v := ?_) (a' := ?_) #[true, true, true, true, true, true, false, false, false, false, false] rfl rfl (by kernel_rfl) (fun _ _ _ h => h) (Or.inl ⟨by rfl, ?_⟩) hHeld ?_ ?_
    rotate_left
    · rintro w' hHeld'
      have hHeld'' := hHeld'
      (try obtain ⟨r0_, r1_⟩ := hHeld')
      (try obtain ⟨r1_, r2_⟩ := r1_)
      (try obtain ⟨r2_, r3_⟩ := r2_)
      (try obtain ⟨r3_, r4_⟩ := r3_)
      (try obtain ⟨r4_, r5_⟩ := r4_)
      (try obtain ⟨r5_, r6_⟩ := r5_)
      (try obtain ⟨r6_, r7_⟩ := r6_)
      (try obtain ⟨r7_, r8_⟩ := r7_)
      (try obtain ⟨r8_, r9_⟩ := r8_)
      (try obtain ⟨r9_, r10_⟩ := r9_)
      (try obtain ⟨r10_, r11_⟩ := r10_)
      (try obtain ⟨r11_, r12_⟩ := r11_)
      (try obtain ⟨r12_, r13_⟩ := r12_)
      (try obtain ⟨r13_, r14_⟩ := r13_)
      (try obtain ⟨r14_, r15_⟩ := r14_)
      (try obtain ⟨r15_, r16_⟩ := r15_)
      (try obtain ⟨r16_, r17_⟩ := r16_)
      (try obtain ⟨r17_, r18_⟩ := r17_)
      (try obtain ⟨r18_, r19_⟩ := r18_)
      (try obtain ⟨r19_, r20_⟩ := r19_)
      (try obtain ⟨r20_, r21_⟩ := r20_)
      (try obtain ⟨r21_, r22_⟩ := r21_)
      (try obtain ⟨r22_, r23_⟩ := r22_)
      (try obtain ⟨r23_, r24_⟩ := r23_)
      (try obtain ⟨r24_, r25_⟩ := r24_)
      (try obtain ⟨r25_, r26_⟩ := r25_)
      (try obtain ⟨r26_, r27_⟩ := r26_)
      (try obtain ⟨r27_, r28_⟩ := r27_)
      (try obtain ⟨r28_, r29_⟩ := r28_)
      (try obtain ⟨r29_, r30_⟩ := r29_)
      (try obtain ⟨r7_, r8_⟩ := r7_)
      (try obtain ⟨r8_, r9_⟩ := r8_)
      go_simp
      with_reducible rfl
    rotate_left
    · simp only [Act.put, List.setIfInBounds_toArray, List.set_cons_zero, List.set_cons_succ, i64_w, i32_w]
      rfl
    refine one_ (i := 6) (N := some 61) #[true, true, true, true, true, true, true, false, false, false, false] rfl rfl (by kernel_rfl) (by decide) (fun K hSh => ?_)
    refine value_ (v := .slice (some ⟨W3.heap.size, 0, none⟩) 1 1) (w1 := (W3.drewN 1).alloc (.cells #[.nilIface, .int .i64 n, .bool ok, .int .i64 e] 76)) (by rfl) rfl (by go_simp <;> rfl) ?_
    refine hSh.out _ _ ?_ ?_
    · have hbA : Below W3.heap.size W3 ((W3.drewN 1).alloc (.cells #[.nilIface, .int .i64 n, .bool ok, .int .i64 e] 76)) := below_alloc (pw_below_drewN (Below.refl _ _) 1) _
      exact ⟨(blk_cell (blk_below hP3'.out hbA) 1).trans (by rw [HK.out]; rfl), box4 (blk_below HK4.out hbA)⟩
    clear hHeld
    intro hHeld
    refine norm_ (a' := ?_) ?_ ?_
    rotate_left
    · simp only [Act.put, List.setIfInBounds_toArray, List.set_cons_zero, List.set_cons_succ, i64_w, i32_w]
      rfl
    refine last_ (i := 7) (N := some 62) #[true, true, true, true, true, true, true, true, false, false, false] rfl rfl (by kernel_rfl) (by decide) (fun K hSh => ?_)
    refine value_ (v := .slice A1 (k + 1) c1) (w1 := w1) (by rfl) rfl (exec_append rfl rfl rfl HR.out) ?_
    refine hSh.out _ _ ?_
    refine norm_ (a' := ?_) ?_ ?_
    rotate_left
    · simp only [Act.put, List.setIfInBounds_toArray, List.set_cons_zero, List.set_cons_succ, i64_w, i32_w]
      rfl
    refine pure_ (i := 8) (N := some 63) (v := ?_) (a' := ?_) #[true, true, true, true, true, true, true, true, true, false, false] rfl rfl (by kernel_rfl) (fun _ _ _ h => h) (Or.inl ⟨by rfl, ?_⟩) ?_ ?_
    rotate_left
    · intro w'
      go_simp
      with_reducible rfl
    rotate_left
    · simp only [Act.put, List.setIfInBounds_toArray, List.set_cons_zero, List.set_cons_succ, i64_w, i32_w]
      rfl
    refine pure_ (i := 9) (N := some 64) (v := ?_) (a' := ?_) #[true, true, true, true, true, true, true, true, true, true, false] rfl rfl (by kernel_rfl) (fun _ _ _ h => h) (Or.inl ⟨by rfl, ?_⟩) ?_ ?_
    rotate_left
    · intro w'
      go_simp
      with_reducible rfl
    rotate_left
    · simp only [Act.put, List.setIfInBounds_toArray, List.set_cons_zero, List.set_cons_succ, i64_w, i32_w]
      rfl
    have h5 := H4.out.below (pw_below_drewN (Below.refl _ _) 1)
    have hP5 : PG w1 pb mb (.slice A s.log.length c) s.at_ 0 s.note := blk_grown (blk_drewN hP3'.out 1) HGR.out (by rw [← HK.out]; exact h5.pn)
    have hk5 := blk_grown (blk_drewN HK3.out 1) HGR.out (by rw [← HK.out]; exact nb4)
    have hk6 := blk_grown (blk_drewN HK4.out 1) HGR.out (by rw [← HK.out]; exact nv1)
    have z1 := blk_frozen hP5 1
    obtain ⟨v0, v1, v2, v3, v4⟩ := hP5.cells
    refine last_ (i := 10) (N := none) #[true, true, true, true, true, true, true, true, true, true, true] rfl rfl (by kernel_rfl) (by decide) (fun K hSh => ?_)
    refine skip_ (w1 := w1.setCell ⟨pb, 1, none⟩ (.slice A1 (k + 1) c1)) (by rfl) rfl (by go_simp <;> rfl) ?_
    refine hSh.out _ _ ?_
    refine done_ (by kernel_rfl) ?_
    have hP6 : PG (w1.setCell ⟨pb, 1, none⟩ (.slice A1 (k + 1) c1)) pb mb (.slice A1 (k + 1) c1) s.at_ 0 s.note := blk_put hP5 1 _ rfl
    have hO6 : Only w1 (w1.setCell ⟨pb, 1, none⟩ (.slice A1 (k + 1) c1)) pb := Only.set _ _ _
    have hk7 := (hO6.block _ nb3).trans hk5
    have hk8 := (hO6.block _ (Ne.symm ne1)).trans hk6
    obtain ⟨W6, hW6⟩ : ∃ x : World, x = w1.setCell ⟨pb, 1, none⟩ (.slice A1 (k + 1) c1) := ⟨_, rfl⟩
    rw [← hW6] at hP6 hO6 hk7 hk8
    rw [← hW6]
    have hP6' := Lib.hid hP6
    have hO6' := Lib.hid hO6
    have hk7' := Lib.hid hk7
    have hk8' := Lib.hid hk8
    have h5' := Lib.hid h5
    have z2 := blk_frozen hP6 2
    clear p0 p1 p2 p3 p4 u0 u1 u2 u3 z1 hP5 hk5 hk6 hW6 v0 v1 v2 v3 v4
    obtain ⟨p0, p1, p2, p3, p4⟩ := hP6.cells
    rw [HG.out] at p2
    clear hP6 hO6 hk7 hk8 h5
    have e1 : IntKind.i64.wrap ((q : Int) + 1) = (q : Int) + 1 := by rw [IntKind.wrap_i64]; have e1 : (1 : Int).toNat = 1 := rfl; omega
    go_upto_region 11 with fail
    obtain ⟨W7, hW7⟩ : ∃ x : World, x = W6.setCell ⟨pb, 2, none⟩ (.int .i64 ((q : Int) + 1)) := ⟨_, rfl⟩
    rw [← hW7]
    have hO7 : Only W6 W7 pb := hW7 ▸ Only.set _ _ _
    have hP7 : PG W7 pb mb (.slice A1 (k + 1) c1) ((s.at_ + 1 : Nat) : Int) 0 s.note := by
      rw [hW7, HG.out]
      exact blk_put hP6'.out 2 _ rfl
    have hk9 := (hO7.block _ nb3).trans hk7'.out
    have hk10 := (hO7.block _ (Ne.symm ne1)).trans hk8'.out
    have hpo : some pb ≠ (Value.slice A1 (k + 1) c1).ownBlock := by
      have := (show OwnA w1 (.slice A1 (k + 1) c1) _ from HO1.out)
      exact this.ne (blk_grown (blk_drewN hP3'.out 1) HGR.out (by rw [← HK.out]; exact h5'.out.pn)) (by decide)
    have h6 := h5'.out.push (y := ⟨.nilIface, n, ok, e⟩) (by rw [HK.out]; exact HGR.out) HO1.out (by rw [HK.out]; exact HAT.out) (Or.inl rfl) (by simp only [HK.out]; have : (0 : Int).toNat = 0 := rfl; omega) (by have e0 : (0 : Int).toNat = 0 := rfl; have e1 : (1 : Int).toNat = 1 := rfl; simp only [HG.out, e0]; omega) (hO6'.out.trans hO7) hP7 hpo
    have hF := h6.other (only4 W7 w.heap.size .nilIface (.int .i64 n) (.bool ok) (.int .i64 e)) (Or.inl hs0) (Ne.symm nb3) (Ne.symm nb1) (Ne.symm nb2) (by
      intro q
      rcases HAT.out with x | ⟨b', x, hb'⟩
      · rw [x, ← HK.out] at q
        exact nb4 q
      · rw [x] at q
        injection q with q
        have : W3.heap.size ≤ b' := hb'
        have := blk_lt HK3.out
        omega)
    have hk := blk4 hk9 .nilIface (.int .i64 n) (.bool ok) (.int .i64 e)
    clear p0 p1 p2 p3 p4 z2
    obtain ⟨x0, x1, x2, x3⟩ := box4 hk10
    obtain ⟨y0, y1, y2, y3⟩ := box4 hk9
    have f0 := blk_frozen hk9 0
    have f1 := blk_frozen hk9 1
    have f2 := blk_frozen hk9 2
    have f3 := blk_frozen hk9 3
    obtain ⟨u0, u1, u2, u3⟩ := box4 hk
    have HF := Lib.hid hF
    clear hF hk hk9 hk10 h6 hP7 hO7 hW7
    go_wp2_with fail
    exact bodyPost_ret (v := ans .nilIface n ok e) (by simp [results, Try.results32, go_sem, u0, u1, u2, u3]) rfl ⟨rfl, _, HF.out⟩
  · have hlen : k + 1 ≤ 100000 := by
      have := H3.out.len
      simp only [HL.out, HK.out] at this
      have e1 : (1 : Int).toNat = 1 := rfl
      omega
    go_upto_region 7 with fail
    rw [← HW2.out]
    go_upto_region 9 with fail
    obtain ⟨W3, hW3⟩ : ∃ x : World, x = W2.setCell ⟨pb, 3, none⟩ (.int .i64 0) := ⟨_, rfl⟩
    rw [← hW3]
    have hO3 : Only W2 W3 pb := hW3 ▸ Only.set _ _ _
    have hP3 : PG W3 pb mb (.slice A s.log.length c) s.at_ 0 s.note := hW3 ▸ blk_put H3.out.P 3 _ rfl
    have h4 := H3.out.port (note := s.note) hO3 hP3 (by have e0 : (0 : Int).toNat = 0 := rfl; have e1 : (1 : Int).toNat = 1 := rfl; simp only [HG.out, e0]; omega) (by simp only [HK.out]; have : (0 : Int).toNat = 0 := rfl; omega)
    simp only at h4
    have hk1 := (hO3.block _ nb3).trans HK1.out
    have hk2 := (hO3.block _ (Ne.symm ne1)).trans HK2.out
    clear p0 p1 p2 p3 p4 z3
    obtain ⟨p0, p1, p2, p3, p4⟩ := hP3.cells
    rw [HG.out] at p2
    rw [HK.out] at p1
    obtain ⟨u0, u1, u2, u3⟩ := box4 hk2
    have H4 := Lib.hid h4
    have HK3 := Lib.hid hk1
    have HK4 := Lib.hid hk2
    have hP3' := Lib.hid hP3
    clear h4 hk1 hk2 hW3 hO3 H3 HW2 HK1 HK2 hP3
    have hOA : OwnA (W3.drewN 1) (.slice A k c) s.log := by
      have := (H4.out.below (pw_below_drewN (Below.refl _ _) 1)).L
      rw [← HK.out]
      exact this
    have hkl : s.log.length ≤ 1000000 := by rw [HK.out]; omega
    obtain ⟨A1, c1, w1, hr, hO1, hg, hat⟩ := run_append_A (.slice A k c) s.log (.iface TT xx) n ok e 70 (Or.inr ⟨_, _, rfl⟩) hOA hkl
    rw [HK.out] at hr hO1 hat
    have HR := Lib.hid hr
    have HO1 := Lib.hid hO1
    have HGR := Lib.hid hg
    have HAT := Lib.hid hat
    clear hOA hkl hr hO1 hg hat
    refine start_ (n := 11) (S := fun w' => w'.cell? ⟨pb, 1, none⟩ = some (.slice A k c) ∧ w'.cell? ⟨W1.heap.size, 0, none⟩ = some (.iface TT xx) ∧ w'.cell? ⟨W1.heap.size, 1, none⟩ = some (.int .i64 n) ∧ w'.cell? ⟨W1.heap.size, 2, none⟩ = some (.bool ok) ∧ w'.cell? ⟨W1.heap.size, 3, none⟩ = some (.int .i64 e)) (ds := [7, 10]) #[false, false, false, false, false, false, false, false, false, false, false] rfl rfl rfl (⟨p1, u0, u1, u2, u3⟩) ?_
    intro hHeld
    refine pure_ (i := 0) (N := some 55) (v := ?_) (a' := ?_) #[true, false, false, false, false, false, false, false, false, false, false] rfl rfl (by kernel_rfl) (fun _ _ _ h => h) (Or.inl ⟨by rfl, ?_⟩) ?_ ?_
    rotate_left
    · intro w'
      go_simp
      with_reducible rfl
    rotate_left
    · simp only [Act.put, List.setIfInBounds_toArray, List.set_cons_zero, List.set_cons_succ, i64_w, i32_w]
      rfl
    refine pure_ (i := 1) (N := some 56) (v := ?_) (a' := ?_) #[true, true, false, false, false, false, false, false, false, false, false] rfl rfl (by kernel_rfl) (fun _ _ _ h => h) (Or.inl ⟨by rfl, ?_⟩) ?_ ?_
    rotate_left
    · intro w'
      go_simp
      with_reducible rfl
    rotate_left
    · simp only [Act.put, List.setIfInBounds_toArray, List.set_cons_zero, List.set_cons_succ, i64_w, i32_w]
      rfl
    refine pure_ (i := 2) (N := some 57) (v := ?_) (a' := ?_) #[true, true, true, false, false, false, false, false, false, false, false] rfl rfl (by kernel_rfl) (fun _ _ _ h => h) (Or.inl ⟨by rfl, ?_⟩) ?_ ?_
    rotate_left
    · intro w'
      go_simp
      with_reducible rfl
    rotate_left
    · simp only [Act.put, List.setIfInBounds_toArray, List.set_cons_zero, List.set_cons_succ, i64_w, i32_w]
      rfl
    refine pure_ (i := 3) (N := some 58) (v := ?_) (a' := ?_) #[true, true, true, true, false, false, false, false, false, false, false] rfl rfl (by kernel_rfl) (fun _ _ _ h => h) (Or.inl ⟨by rfl, ?_⟩) ?_ ?_
    rotate_left
    · intro w'
      go_simp
      with_reducible rfl
    rotate_left
    · simp only [Act.put, List.setIfInBounds_toArray, List.set_cons_zero, List.set_cons_succ, i64_w, i32_w]
      rfl
    refine take_ (i := 4) (N := some 59) (v := ?_) (a' := ?_) #[true, true, true, true, true, false, false, false, false, false, false] rfl rfl (by kernel_rfl) (fun _ _ _ h => h) (Or.inl ⟨by rfl, ?_⟩) hHeld ?_ ?_
    rotate_left
    · rintro w' hHeld'
      have hHeld'' := hHeld'
      (try obtain ⟨r0_, r1_⟩ := hHeld')
      (try obtain ⟨r1_, r2_⟩ := r1_)
      (try obtain ⟨r2_, r3_⟩ := r2_)
      (try obtain ⟨r3_, r4_⟩ := r3_)
      (try obtain ⟨r4_, r5_⟩ := r4_)
      (try obtain ⟨r5_, r6_⟩ := r5_)
      (try obtain ⟨r6_, r7_⟩ := r6_)
      (try obtain ⟨r7_, r8_⟩ := r7_)
      (try obtain ⟨r8_, r9_⟩ := r8_)
      (try obtain ⟨r9_, r10_⟩ := r9_)
      (try obtain ⟨r10_, r11_⟩ := r10_)
      (try obtain ⟨r11_, r12_⟩ := r11_)
      (try obtain ⟨r12_, r13_⟩ := r12_)
      (try obtain ⟨r13_, r14_⟩ := r13_)
      (try obtain ⟨r14_, r15_⟩ := r14_)
      (try obtain ⟨r15_, r16_⟩ := r15_)
      (try obtain ⟨r16_, r17_⟩ := r16_)
      (try obtain ⟨r17_, r18_⟩ := r17_)
      (try obtain ⟨r18_, r19_⟩ := r18_)
      (try obtain ⟨r19_, r20_⟩ := r19_)
      (try obtain ⟨r20_, r21_⟩ := r20_)
      (try obtain ⟨r21_, r22_⟩ := r21_)
      (try obtain ⟨r22_, r23_⟩ := r22_)
      (try obtain ⟨r23_, r24_⟩ := r23_)
      (try obtain ⟨r24_, r25_⟩ := r24_)
      (try obtain ⟨r25_, r26_⟩ := r25_)
      (try obtain ⟨r26_, r27_⟩ := r26_)
      (try obtain ⟨r27_, r28_⟩ := r27_)
      (try obtain ⟨r28_, r29_⟩ := r28_)
      (try obtain ⟨r29_, r30_⟩ := r29_)
      (try obtain ⟨r7_, r8_⟩ := r7_)
      (try obtain ⟨r8_, r9_⟩ := r8_)
      go_simp
      with_reducible rfl
    rotate_left
    · simp only [Act.put, List.setIfInBounds_toArray, List.set_cons_zero, List.set_cons_succ, i64_w, i32_w]
      rfl
    refine take_ (i := 5) (N := some 60) (v := ?_) (a' := ?_) #[true, true, true, true, true, true, false, false, false, false, false] rfl rfl (by kernel_rfl) (fun _ _ _ h => h) (Or.inl ⟨by rfl, ?_⟩) hHeld ?_ ?_
    rotate_left
    · rintro w' hHeld'
      have hHeld'' := hHeld'
      (try obtain ⟨r0_, r1_⟩ := hHeld')
      (try obtain ⟨r1_, r2_⟩ := r1_)
      (try obtain ⟨r2_, r3_⟩ := r2_)
      (try obtain ⟨r3_, r4_⟩ := r3_)
      (try obtain ⟨r4_, r5_⟩ := r4_)
      (try obtain ⟨r5_, r6_⟩ := r5_)
      (try obtain ⟨r6_, r7_⟩ := r6_)
      (try obtain ⟨r7_, r8_⟩ := r7_)
      (try obtain ⟨r8_, r9_⟩ := r8_)
      (try obtain ⟨r9_, r10_⟩ := r9_)
      (try obtain ⟨r10_, r11_⟩ := r10_)
      (try obtain ⟨r11_, r12_⟩ := r11_)
      (try obtain ⟨r12_, r13_⟩ := r12_)
      (try obtain ⟨r13_, r14_⟩ := r13_)
      (try obtain ⟨r14_, r15_⟩ := r14_)
      (try obtain ⟨r15_, r16_⟩ := r15_)
      (try obtain ⟨r16_, r17_⟩ := r16_)
      (try obtain ⟨r17_, r18_⟩ := r17_)
      (try obtain ⟨r18_, r19_⟩ := r18_)
      (try obtain ⟨r19_, r20_⟩ := r19_)
      (try obtain ⟨r20_, r21_⟩ := r20_)
      (try obtain ⟨r21_, r22_⟩ := r21_)
      (try obtain ⟨r22_, r23_⟩ := r22_)
      (try obtain ⟨r23_, r24_⟩ := r23_)
      (try obtain ⟨r24_, r25_⟩ := r24_)
      (try obtain ⟨r25_, r26_⟩ := r25_)
      (try obtain ⟨r26_, r27_⟩ := r26_)
      (try obtain ⟨r27_, r28_⟩ := r27_)
      (try obtain ⟨r28_, r29_⟩ := r28_)
      (try obtain ⟨r29_, r30_⟩ := r29_)
      (try obtain ⟨r7_, r8_⟩ := r7_)
      (try obtain ⟨r8_, r9_⟩ := r8_)
      go_simp
      with_reducible rfl
    rotate_left
    · simp only [Act.put, List.setIfInBounds_toArray, List.set_cons_zero, List.set_cons_succ, i64_w, i32_w]
      rfl
    refine one_ (i := 6) (N := some 61) #[true, true, true, true, true, true, true, false, false, false, false] rfl rfl (by kernel_rfl) (by decide) (fun K hSh => ?_)
    refine value_ (v := .slice (some ⟨W3.heap.size, 0, none⟩) 1 1) (w1 := (W3.drewN 1).alloc (.cells #[(.iface TT xx), .int .i64 n, .bool ok, .int .i64 e] 76)) (by rfl) rfl (by go_simp <;> rfl) ?_
    refine hSh.out _ _ ?_ ?_
    · have hbA : Below W3.heap.size W3 ((W3.drewN 1).alloc (.cells #[(.iface TT xx), .int .i64 n, .bool ok, .int .i64 e] 76)) := below_alloc (pw_below_drewN (Below.refl _ _) 1) _
      exact ⟨(blk_cell (blk_below hP3'.out hbA) 1).trans (by rw [HK.out]; rfl), box4 (blk_below HK4.out hbA)⟩
    clear hHeld
    intro hHeld
    refine norm_ (a' := ?_) ?_ ?_
    rotate_left
    · simp only [Act.put, List.setIfInBounds_toArray, List.set_cons_zero, List.set_cons_succ, i64_w, i32_w]
      rfl
    refine last_ (i := 7) (N := some 62) #[true, true, true, true, true, true, true, true, false, false, false] rfl rfl (by kernel_rfl) (by decide) (fun K hSh => ?_)
    refine value_ (v := .slice A1 (k + 1) c1) (w1 := w1) (by rfl) rfl (exec_append rfl rfl rfl HR.out) ?_
    refine hSh.out _ _ ?_
    refine norm_ (a' := ?_) ?_ ?_
    rotate_left
    · simp only [Act.put, List.setIfInBounds_toArray, List.set_cons_zero, List.set_cons_succ, i64_w, i32_w]
      rfl
    refine pure_ (i := 8) (N := some 63) (v := ?_) (a' := ?_) #[true, true, true, true, true, true, true, true, true, false, false] rfl rfl (by kernel_rfl) (fun _ _ _ h => h) (Or.inl ⟨by rfl, ?_⟩) ?_ ?_
    rotate_left
    · intro w'
      go_simp
      with_reducible rfl
    rotate_left
    · simp only [Act.put, List.setIfInBounds_toArray, List.set_cons_zero, List.set_cons_succ, i64_w, i32_w]
      rfl
    refine pure_ (i := 9) (N := some 64) (v := ?_) (a' := ?_) #[true, true, true, true, true, true, true, true, true, true, false] rfl rfl (by kernel_rfl) (fun _ _ _ h => h) (Or.inl ⟨by rfl, ?_⟩) ?_ ?_
    rotate_left
    · intro w'
      go_simp
      with_reducible rfl
    rotate_left
    · simp only [Act.put, List.setIfInBounds_toArray, List.set_cons_zero, List.set_cons_succ, i64_w, i32_w]
      rfl
    have h5 := H4.out.below (pw_below_drewN (Below.refl _ _) 1)
    have hP5 : PG w1 pb mb (.slice A s.log.length c) s.at_ 0 s.note := blk_grown (blk_drewN hP3'.out 1) HGR.out (by rw [← HK.out]; exact h5.pn)
    have hk5 := blk_grown (blk_drewN HK3.out 1) HGR.out (by rw [← HK.out]; exact nb4)
    have hk6 := blk_grown (blk_drewN HK4.out 1) HGR.out (by rw [← HK.out]; exact nv1)
    have z1 := blk_frozen hP5 1
    obtain ⟨v0, v1, v2, v3, v4⟩ := hP5.cells
    refine last_ (i := 10) (N := none) #[true, true, true, true, true, true, true, true, true, true, true] rfl rfl (by kernel_rfl) (by decide) (fun K hSh => ?_)
    refine skip_ (w1 := w1.setCell ⟨pb, 1, none⟩ (.slice A1 (k + 1) c1)) (by rfl) rfl (by go_simp <;> rfl) ?_
    refine hSh.out _ _ ?_
    refine done_ (by kernel_rfl) ?_
    have hP6 : PG (w1.setCell ⟨pb, 1, none⟩ (.slice A1 (k + 1) c1)) pb mb (.slice A1 (k + 1) c1) s.at_ 0 s.note := blk_put hP5 1 _ rfl
    have hO6 : Only w1 (w1.setCell ⟨pb, 1, none⟩ (.slice A1 (k + 1) c1)) pb := Only.set _ _ _
    have hk7 := (hO6.block _ nb3).trans hk5
    have hk8 := (hO6.block _ (Ne.symm ne1)).trans hk6
    obtain ⟨W6, hW6⟩ : ∃ x : World, x = w1.setCell ⟨pb, 1, none⟩ (.slice A1 (k + 1) c1) := ⟨_, rfl⟩
    rw [← hW6] at hP6 hO6 hk7 hk8
    rw [← hW6]
    have hP6' := Lib.hid hP6
    have hO6' := Lib.hid hO6
    have hk7' := Lib.hid hk7
    have hk8' := Lib.hid hk8
    have h5' := Lib.hid h5
    have z2 := blk_frozen hP6 2
    clear p0 p1 p2 p3 p4 u0 u1 u2 u3 z1 hP5 hk5 hk6 hW6 v0 v1 v2 v3 v4
    obtain ⟨p0, p1, p2, p3, p4⟩ := hP6.cells
    rw [HG.out] at p2
    clear hP6 hO6 hk7 hk8 h5
    have e1 : IntKind.i64.wrap ((q : Int) + 1) = (q : Int) + 1 := by rw [IntKind.wrap_i64]; have e1 : (1 : Int).toNat = 1 := rfl; omega
    go_upto_region 11 with fail
    obtain ⟨W7, hW7⟩ : ∃ x : World, x = W6.setCell ⟨pb, 2, none⟩ (.int .i64 ((q : Int) + 1)) := ⟨_, rfl⟩
    rw [← hW7]
    have hO7 : Only W6 W7 pb := hW7 ▸ Only.set _ _ _
    have hP7 : PG W7 pb mb (.slice A1 (k + 1) c1) ((s.at_ + 1 : Nat) : Int) 0 s.note := by
      rw [hW7, HG.out]
      exact blk_put hP6'.out 2 _ rfl
    have hk9 := (hO7.block _ nb3).trans hk7'.out
    have hk10 := (hO7.block _ (Ne.symm ne1)).trans hk8'.out
    have hpo : some pb ≠ (Value.slice A1 (k + 1) c1).ownBlock := by
      have := (show OwnA w1 (.slice A1 (k + 1) c1) _ from HO1.out)
      exact this.ne (blk_grown (blk_drewN hP3'.out 1) HGR.out (by rw [← HK.out]; exact h5'.out.pn)) (by decide)
    have h6 := h5'.out.push (y := ⟨(.iface TT xx), n, ok, e⟩) (by rw [HK.out]; exact HGR.out) HO1.out (by rw [HK.out]; exact HAT.out) (Or.inr ⟨_, _, rfl⟩) (by simp only [HK.out]; have : (0 : Int).toNat = 0 := rfl; omega) (by have e0 : (0 : Int).toNat = 0 := rfl; have e1 : (1 : Int).toNat = 1 := rfl; simp only [HG.out, e0]; omega) (hO6'.out.trans hO7) hP7 hpo
    have hF := h6.other (only4 W7 w.heap.size (.iface TT xx) (.int .i64 n) (.bool ok) (.int .i64 e)) (Or.inl hs0) (Ne.symm nb3) (Ne.symm nb1) (Ne.symm nb2) (by
      intro q
      rcases HAT.out with x | ⟨b', x, hb'⟩
      · rw [x, ← HK.out] at q
        exact nb4 q
      · rw [x] at q
        injection q with q
        have : W3.heap.size ≤ b' := hb'
        have := blk_lt HK3.out
        omega)
    have hk := blk4 hk9 (.iface TT xx) (.int .i64 n) (.bool ok) (.int .i64 e)
    clear p0 p1 p2 p3 p4 z2
    obtain ⟨x0, x1, x2, x3⟩ := box4 hk10
    obtain ⟨y0, y1, y2, y3⟩ := box4 hk9
    have f0 := blk_frozen hk9 0
    have f1 := blk_frozen hk9 1
    have f2 := blk_frozen hk9 2
    have f3 := blk_frozen hk9 3
    obtain ⟨u0, u1, u2, u3⟩ := box4 hk
    have HF := Lib.hid hF
    clear hF hk hk9 hk10 h6 hP7 hO7 hW7
    go_wp2_with fail
    exact bodyPost_ret (v := ans (.iface TT xx) n ok e) (by simp [results, Try.results32, go_sem, u0, u1, u2, u3]) rfl ⟨rfl, _, HF.out⟩
set_option maxHeartbeats 3200000 in
set_option maxRecDepth 100000 in
theorem ask_do (h : Sp w0 S w pb mb cb s v) (hge : ¬ s.at_ < s.log.length) (hl : s.left = -1) {K : Nat} {caps : Array Value} {b : Value} {n : Int} {ok : Bool} {e : Int} {m' : M} (hbv : b = .nilIface ∨ ∃ T x, b = .iface T x) (hK : ∀ W, (callFunc K caps).run Try.prog W = .ok (.enter K caps) W) (hd : ∀ W, Below w.heap.size w W → Calls Try.prog K caps W (Ends W mb cb (ans b n ok e) m')) :
    Calls Try.prog 32 #[ptr pb, .func (Fn.func K) #[] caps] w fun x w' => x = .returned (ans b n ok e) ∧ ∃ v', Sp w0 S w' pb mb cb { s with m := m' } v' := by
  obtain ⟨W, hW⟩ : ∃ W : World, W = w.alloc (.cells #[.nilIface, .int .i64 0, .bool false, .int .i64 0] 76) := ⟨_, rfl⟩
  have hb : Below w.heap.size w W := hW ▸ below_alloc (Below.refl _ _) _
  have hk0 : W.heap[w.heap.size]? = some (.cells #[.nilIface, .int .i64 0, .bool false, .int .i64 0] 76 (0, 0)) := hW ▸ blk_new _ _
  have h1 := h.below hb
  obtain ⟨A, c, rfl⟩ := h.L.slice
  obtain ⟨p0, p1, p2, p3, p4⟩ := h1.P.cells
  obtain ⟨k, hk⟩ : ∃ k, s.log.length = k := ⟨_, rfl⟩
  obtain ⟨q, hq⟩ : ∃ q, s.at_ = q := ⟨_, rfl⟩
  rw [hq, hk] at hge
  rw [hq] at p2
  rw [hk] at p1
  rw [hl] at p3
  have g1 : decide ((q : Int) < (k : Int)) = false := decide_eq_false (by omega)
  have g2 : decide (q < k) = false := decide_eq_false (by omega)
  have nb1 : w.heap.size ≠ mb := by have := mb_lt h.A; omega
  have nb2 : w.heap.size ≠ cb := by have := cb_lt h.A; omega
  have nb3 : w.heap.size ≠ pb := by have := h.P.lt; omega
  have nb4 : some w.heap.size ≠ (Value.slice A s.log.length c).ownBlock := by
    intro e
    have := h.L.lt e.symm
    omega
  have hs0 := h.F.size
  have H1 := Lib.hid h1
  have HW := Lib.hid hW
  have HB := Lib.hid hb
  have HK0 := Lib.hid hk0
  have HG := Lib.hid hq
  have HK := Lib.hid hk
  have HL := Lib.hid hl
  have HD := Lib.hid hd
  clear h1 hW hb hge hl h hk0 hk hd hq
  go_enter Try.func32, Try.ntmps32
  go_upto_region 1 with fail
  rw [← HW.out]
  go_quiet (fail)
  go_wp2_with fail
  refine (HD.out _ (pw_below_drewN HB.out nq)).mono ?_
  rintro x W1 ⟨rfl, hA', hF⟩
  have h2 := (H1.out.below (pw_below_drewN (Below.refl _ _) nq)).fr hA' hF
  have hk1 := (hF.block _ (blk_lt (blk_drewN HK0.out nq)) nb1 nb2).trans (blk_drewN HK0.out nq)
  obtain ⟨W2, hW2⟩ : ∃ x : World, x = W1.alloc (.cells #[b, .int .i64 n, .bool ok, .int .i64 e] 76) := ⟨_, rfl⟩
  have hb2 : Below W1.heap.size W1 W2 := hW2 ▸ below_alloc (Below.refl _ _) _
  have hk2 : W2.heap[W1.heap.size]? = some (.cells #[b, .int .i64 n, .bool ok, .int .i64 e] 76 (0, 0)) := hW2 ▸ blk_new _ _
  have hk1' := blk_below hk1 hb2
  have ne12 : w.heap.size ≠ W1.heap.size := by have := blk_lt hk1; omega
  have h3 := h2.below hb2
  have hlt1 : w.heap.size < W1.heap.size := blk_lt hk1
  have ne1 : pb ≠ W1.heap.size := by have := h2.P.lt; omega
  clear p0 p1 p2 p3 p4 hA' hF
  obtain ⟨p0, p1, p2, p3, p4⟩ := h3.P.cells
  simp only at p0 p1 p2 p3 p4
  rw [HG.out] at p2
  rw [HK.out] at p1
  rw [HL.out] at p3
  have z3 := blk_frozen h3.P 3
  have hbl := h2.P.lt
  have nm1 := mb_lt h2.A
  have nm2 := cb_lt h2.A
  have nv1 : some W1.heap.size ≠ (Value.slice A s.log.length c).ownBlock := by
    intro e
    have := h2.L.lt e.symm
    omega
  have H3 := Lib.hid h3
  have HW2 := Lib.hid hW2
  have HK1 := Lib.hid hk1'
  have HK2 := Lib.hid hk2
  clear h2 h3 hW2 hk1 hk1' hk2 hb2 H1 HW HB HK0 HD
  have HBV := Lib.hid hbv
  rcases hbv with rfl | ⟨TT, xx, rfl⟩
  · go_upto_region 7 with fail
    rw [← HW2.out]
    obtain ⟨x0, x1, x2, x3⟩ := box4 HK2.out
    obtain ⟨y0, y1, y2, y3⟩ := box4 HK1.out
    have f0 := blk_frozen HK1.out 0
    have f1 := blk_frozen HK1.out 1
    have f2 := blk_frozen HK1.out 2
    have f3 := blk_frozen HK1.out 3
    have hF := H3.out.other (only4 W2 w.heap.size .nilIface (.int .i64 n) (.bool ok) (.int .i64 e)) (Or.inl hs0) (Ne.symm nb3) (Ne.symm nb1) (Ne.symm nb2) nb4
    have hk := blk4 HK1.out .nilIface (.int .i64 n) (.bool ok) (.int .i64 e)
    obtain ⟨u0, u1, u2, u3⟩ := box4 hk
    have HF := Lib.hid hF
    clear hF hk H3 HK1 HK2
    go_wp2_with fail
    exact bodyPost_ret (v := ans .nilIface n ok e) (by simp [results, Try.results32, go_sem, u0, u1, u2, u3]) rfl ⟨rfl, _, HF.out⟩
  · go_upto_region 7 with fail
    rw [← HW2.out]
    obtain ⟨x0, x1, x2, x3⟩ := box4 HK2.out
    obtain ⟨y0, y1, y2, y3⟩ := box4 HK1.out
    have f0 := blk_frozen HK1.out 0
    have f1 := blk_frozen HK1.out 1
    have f2 := blk_frozen HK1.out 2
    have f3 := blk_frozen HK1.out 3
    have hF := H3.out.other (only4 W2 w.heap.size (.iface TT xx) (.int .i64 n) (.bool ok) (.int .i64 e)) (Or.inl hs0) (Ne.symm nb3) (Ne.symm nb1) (Ne.symm nb2) nb4
    have hk := blk4 HK1.out (.iface TT xx) (.int .i64 n) (.bool ok) (.int .i64 e)
    obtain ⟨u0, u1, u2, u3⟩ := box4 hk
    have HF := Lib.hid hF
    clear hF hk H3 HK1 HK2
    go_wp2_with fail
    exact bodyPost_ret (v := ans (.iface TT xx) n ok e) (by simp [results, Try.results32, go_sem, u0, u1, u2, u3]) rfl ⟨rfl, _, HF.out⟩
/-- How often memory may be asked anew: not at all, once, or as often as it likes. -/
def Lok (x : Int) : Prop := x = 0 ∨ x = 1 ∨ x = -1
theorem lok_of {x : Int} (h : x = 0 ∨ x = 1) : Lok x := h.elim Or.inl (fun q => Or.inr (Or.inl q))
theorem ask_lok {q : M → M × Ans} {a : Ans} {s1 : PS} (h : s.ask q = .ret a s1) (hl : Lok s.left) : Lok s1.left := by
  unfold PS.ask at h
  split at h
  · injection h with _ h
    exact h ▸ hl
  · split at h
    · cases h
    · split at h
      · rename_i c1 c2 c3
        injection h with _ h
        subst h
        rcases hl with e | e | e
        · exact absurd e c2
        · exact Or.inl (by simp only [e]; rfl)
        · omega
      · injection h with _ h
        exact h ▸ hl
/-- What a call through a port ends in. -/
def Pend (w0 : World) (S : Nat → Prop) (pb mb cb : Nat) (r : Res Value) (e : Ending) (w' : World) : Prop :=
  match r with
  | .ret x s => e = .returned x ∧ ∃ v, Sp w0 S w' pb mb cb s v
  | .out s => e = .panicked [{ v := .iface 99 (.agg #[]), recovered := false }] ∧ ∃ v, Sp w0 S w' pb mb cb s v
theorem ask_good {q : M → M × Ans} {a : Ans} {s' : PS} (ok : ∀ a, a ∈ s.log → a.good) (hq : (q s.m).2.good) (h : s.ask q = .ret a s') : a.good := by
  unfold PS.ask at h
  split at h
  · rename_i hlt
    injection h with h
    subst h
    rw [List.getD_eq_getElem?_getD, List.getElem?_eq_getElem hlt]
    exact ok _ (List.getElem_mem _)
  · split at h
    · cases h
    · split at h
      all_goals
        injection h with h
        exact h ▸ hq
theorem ask_res (h : Sp w0 S w pb mb cb s v) (hl : Lok s.left) {q : M → M × Ans} (hq : (q s.m).2.good) {K : Nat} {caps : Array Value} (hK : ∀ W, (callFunc K caps).run Try.prog W = .ok (.enter K caps) W) (hd : ∀ W, Below w.heap.size w W → Calls Try.prog K caps W (Ends W mb cb (q s.m).2.v (q s.m).1)) :
    Calls Try.prog 32 #[ptr pb, .func (Fn.func K) #[] caps] w (Pend w0 S pb mb cb ((s.ask q).map Ans.v)) := by
  unfold PS.ask
  by_cases c : s.at_ < s.log.length
  · rw [if_pos c]
    refine (ask_old h c _).mono ?_
    rintro e w' ⟨rfl, hs⟩
    exact ⟨rfl, _, hs⟩
  · have hge : ¬ s.at_ < s.log.length := c
    rw [if_neg c]
    rcases hl with hl | hl | hl
    · rw [if_pos hl]
      refine (ask_out h hge hl _).mono ?_
      rintro e w' ⟨rfl, hs⟩
      exact ⟨rfl, _, hs⟩
    · rw [if_neg (by rw [hl]; decide), if_pos (by rw [hl]; decide)]
      refine (ask_new h hge hl hq hK hd).mono ?_
      rintro e w' ⟨rfl, v', hs⟩
      refine ⟨rfl, v', ?_⟩
      rw [hl]
      exact hs
    · rw [if_neg (by rw [hl]; decide), if_neg (by rw [hl]; decide)]
      refine (ask_do h hge hl hq hK hd).mono ?_
      rintro e w' ⟨rfl, v', hs⟩
      exact ⟨rfl, v', hs⟩
end
end Go.Proofs.Ythgbgflpjggpmaa.Mem
