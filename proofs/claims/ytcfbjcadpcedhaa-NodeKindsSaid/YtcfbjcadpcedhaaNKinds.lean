/- NodeKinds, by hand: what is no age is refused as one, what is no node as one; what isn't there any more is stale. -/
import Derived.Test.YtcfbjcadpcedhaaNKinds0
namespace Go.Proofs.Ytcfbjcadpcedhaa.Mem
open Go.RowKit Go.Proofs.YtcfbjcadpcedhaaW.PrintWords Go.Proofs.YtcfbjcadpcedhaaW.PrintLast Go.Proofs.Ytcfbjcadpcedhaa.Tags
set_option linter.unusedVariables false
set_option linter.unusedSimpArgs false
section
variable {w0 w w' W : World} {pb mb cb : Nat} {m m' : M}
theorem ag_num {a b z : Int} {v : Value} (h1 : m.val a = some (.iface 52 v)) (h2 : m.val b = some (number z)) : a ≠ b := val_ne h1 h2 (fun e => number_ne (by decide) e.symm)
theorem num_ag {a b z : Int} {v : Value} (h2 : m.val b = some (number z)) (h1 : m.val a = some (.iface 52 v)) : b ≠ a := (ag_num h1 h2).symm
theorem nd_num {a b z : Int} {v : Value} (h1 : m.val a = some (.iface 46 v)) (h2 : m.val b = some (number z)) : a ≠ b := val_ne h1 h2 (fun e => number_ne (by decide) e.symm)
theorem num_nd {a b z : Int} {v : Value} (h2 : m.val b = some (number z)) (h1 : m.val a = some (.iface 46 v)) : b ≠ a := (nd_num h1 h2).symm
theorem ag_nd {a b : Int} {u v : Value} (h1 : m.val a = some (.iface 52 u)) (h2 : m.val b = some (.iface 46 v)) : a ≠ b := val_ne h1 h2 (by intro e; injection e with e; exact absurd e (by decide))
theorem num_num {a b y z : Int} (h1 : m.val a = some (number y)) (h2 : m.val b = some (number z)) (h : y ≠ z) : a ≠ b := val_ne h1 h2 (by intro e; injection e with e1 e; injection e with e1 e2; exact h e2)
theorem ag_ag {a b : Int} {u v : Ag} (h1 : m.val a = some (.iface 52 u.v)) (h2 : m.val b = some (.iface 52 v.v)) (h : u.ver ≠ v.ver) : a ≠ b := val_ne h1 h2 (by
  intro e
  injection e with e1 e
  injection e with e
  have e3 : (Value.int .i64 u.ver) = .int .i64 v.ver := by
    have := congrArg (fun a => a[0]!) e
    simpa using this
  injection e3 with e4 e5
  exact h e5)
/-- What is held where two ages and a node lie: nothing else. -/
theorem kinds_held {z H t0 t1 t2 : Int} {x y : Int × Ag} {vs hs : List Int} {AN : Option Addr} {kN : Nat} (hy : Yd16 m [1, 2] z H t0 t1 t2 [x, y] vs hs AN kN) {q : Int} (hq : m.val q ≠ none) : q ∈ [x.1, y.1, x.2.prev, y.2.prev, H, t0, t1, t2] := by
  obtain ⟨e1, n1, a1, z1, b1, e2, n2, a2, z2, b2, _⟩ := hy.row.C
  have hvr : vers [x, y] = [5, 2] := hy.vl.symm.trans (hy.vr.trans (by decide))
  simp only [vers, List.map_cons, List.map_nil, List.cons.injEq, and_true] at hvr
  have hnd := hy.row.nd
  have hN := hy.nd
  have hH := hN.H_
  have v0 := hN.w0
  have v1 := hN.w1
  have v2 := hN.w2
  have n0' := hN.n0
  have n1' := hN.n1
  have n2' := hN.n2
  have hd := hN.d
  simp only [prevs, List.map_cons, List.map_nil, List.nodup_cons, List.mem_cons, List.not_mem_nil, or_false, not_or, List.nodup_nil, and_true, not_false_eq_true] at hnd n0' n1' n2'
  have hxy : x.1 ≠ y.1 := ag_ag (m := m) (e1 ▸ a1) (e2 ▸ a2) (by rw [hvr.1, hvr.2]; decide)
  have h12 : t1 ≠ t2 := num_num v1 v2 (by decide)
  subst e2
  have a1' : m.val x.1 = some (.iface 52 x.2.v) := e1 ▸ a1
  refine all_held hy.row.S (by decide) ?_ (by simp) ?_ hq
  · simp only [List.nodup_cons, List.mem_cons, List.not_mem_nil, or_false, not_or, List.nodup_nil, and_true, not_false_eq_true]
    refine ⟨⟨hxy, ag_num a1' b1, ag_num a1' b2, ag_nd a1' hH, ag_num a1' v0, ag_num a1' v1, ag_num a1' v2⟩, ⟨ag_num a2 b1, ag_num a2 b2, ag_nd a2 hH, ag_num a2 v0, ag_num a2 v1, ag_num a2 v2⟩, ⟨hnd, num_nd b1 hH, Ne.symm n0'.1, Ne.symm n1'.1, Ne.symm n2'.1⟩, ⟨num_nd b2 hH, Ne.symm n0'.2, Ne.symm n1'.2, Ne.symm n2'.2⟩, ⟨nd_num hH v0, nd_num hH v1, nd_num hH v2⟩, ⟨hd.1, hd.2⟩, h12⟩
  · intro q hq
    simp only [List.mem_cons, List.not_mem_nil, or_false] at hq
    rcases hq with rfl | rfl | rfl | rfl | rfl | rfl | rfl | rfl
    · rw [a1']; simp
    · rw [a2]; simp
    · rw [b1]; simp
    · rw [b2]; simp
    · rw [hH]; simp
    · rw [v0]; simp
    · rw [v1]; simp
    · rw [v2]; simp
/-- Memory is as it was, but for its counts. -/
def KAt (w0 w : World) (pb mb cb : Nat) (m : M) (W : World) : Prop := Fr w W mb cb ∧ ∃ mk, Like mk m ∧ St w0 W pb mb cb mk
theorem KAt.below (k : KAt w0 w pb mb cb m W) {W' : World} (hb : Below W.heap.size W W') : KAt w0 w pb mb cb m W' := by
  obtain ⟨h1, mk, h2, h3⟩ := k
  exact ⟨h1.below hb, mk, h2, h3.below hb⟩
theorem k_call {f : Nat} {args : Array Value} {v : Value} (k : KAt w0 w pb mb cb m W) (hc : ∀ mk, Like mk m → St w0 W pb mb cb mk → ∃ m1, Like m1 m ∧ Calls Try.prog f args W (Endp w0 W pb mb cb v m1)) :
    Calls Try.prog f args W fun e w' => e = .returned v ∧ KAt w0 w pb mb cb m w' ∧ Fr W w' mb cb := by
  obtain ⟨hF, mk, hl, hS⟩ := k
  obtain ⟨m1, hl1, hC⟩ := hc mk hl hS
  refine hC.mono ?_
  rintro e w' ⟨rfl, h1, hF1⟩
  exact ⟨rfl, ⟨hF.trans hF1, m1, hl1, h1⟩, hF1⟩
theorem Like.tick_ {mk : M} (h : Like mk m) : Like mk.tick m := ⟨h.1, h.2⟩
theorem Like.gone_ {mk : M} (h : Like mk m) : Like mk.gone m := ⟨h.1, h.2⟩
theorem Like.val {mk : M} (h : Like mk m) {x : Int} {u : Option Value} (hv : m.val x = u) : mk.val x = u := (val_cells h.1 x).trans hv
theorem k_take_any (k : KAt w0 w pb mb cb m W) {z H t0 t1 t2 : Int} {x y : Int × Ag} {vs hs : List Int} {AN : Option Addr} {kN : Nat} (hy : Yd16 m [1, 2] z H t0 t1 t2 [x, y] vs hs AN kN) (q : Int) :
    Calls Try.prog 27 #[ptr pb, .int .i64 q] W fun e w' => ∃ (a : Ag) (i : Int), e = .returned (.tuple #[a.v, .int .i64 i]) ∧ ((i = 0 ∧ q ∈ [x.1, y.1]) ∨ i = 5 ∨ i = 6) ∧ KAt w0 w pb mb cb m w' ∧ Fr W w' mb cb := by
  obtain ⟨e1, n1, a1, z1, b1, e2, n2, a2, z2, b2, _⟩ := hy.row.C
  have a1' : m.val x.1 = some (.iface 52 x.2.v) := e1 ▸ a1
  have hN := hy.nd
  by_cases hv : m.val q = none
  · refine (k_call k fun mk hl hS => ⟨_, hl.gone_, take_none hS (hl.val hv)⟩).mono ?_
    rintro e w' ⟨rfl, h⟩
    exact ⟨Ag.z, 5, rfl, Or.inr (Or.inl rfl), h⟩
  · have hm := kinds_held hy hv
    have hnum : ∀ {n : Int}, m.val q = some (number n) → Calls Try.prog 27 #[ptr pb, .int .i64 q] W fun e w' => ∃ (a : Ag) (i : Int), e = .returned (.tuple #[a.v, .int .i64 i]) ∧ ((i = 0 ∧ q ∈ [x.1, y.1]) ∨ i = 5 ∨ i = 6) ∧ KAt w0 w pb mb cb m w' ∧ Fr W w' mb cb := by
      intro n hn
      refine (k_call k fun mk hl hS => ⟨_, hl.tick_, take_num hS (hl.val hn)⟩).mono ?_
      rintro e w' ⟨rfl, h⟩
      exact ⟨Ag.z, 6, rfl, Or.inr (Or.inr rfl), h⟩
    have hage : ∀ {u : Ag}, q ∈ [x.1, y.1] → m.val q = some (.iface 52 u.v) → Calls Try.prog 27 #[ptr pb, .int .i64 q] W fun e w' => ∃ (a : Ag) (i : Int), e = .returned (.tuple #[a.v, .int .i64 i]) ∧ ((i = 0 ∧ q ∈ [x.1, y.1]) ∨ i = 5 ∨ i = 6) ∧ KAt w0 w pb mb cb m w' ∧ Fr W w' mb cb := by
      intro u hq hn
      refine (k_call k fun mk hl hS => ⟨_, hl.tick_, take_ok hS (hl.val hn)⟩).mono ?_
      rintro e w' ⟨rfl, h⟩
      exact ⟨u, 0, rfl, Or.inl ⟨rfl, hq⟩, h⟩
    simp only [List.mem_cons, List.not_mem_nil, or_false] at hm
    rcases hm with rfl | rfl | rfl | rfl | rfl | rfl | rfl | rfl
    · exact hage (by simp) a1'
    · exact hage (by simp) (e2 ▸ a2)
    · exact hnum b1
    · exact hnum b2
    · refine (k_call k fun mk hl hS => ⟨_, hl.tick_, take_other hS (hl.val hN.H_) (by decide) (by decide)⟩).mono ?_
      rintro e w' ⟨rfl, h⟩
      exact ⟨Ag.z, 6, rfl, Or.inr (Or.inr rfl), h⟩
    · exact hnum hN.w0
    · exact hnum hN.w1
    · exact hnum hN.w2
/-- What the closure holds between two calls. -/
structure KB (w0 w : World) (pb mb cb : Nat) (m : M) (by_ bh br B : Nat) (yv : Array Value) (hx : Int) (raw : Bool) (gh c2 : Nat) (hs : List Int) (W : World) : Prop where
  k : KAt w0 w pb mb cb m W
  ky : W.heap[by_]? = some (.cells yv 48 (0, 0))
  kh : W.heap[bh]? = some (.cells #[.int .i64 hx] 3 (0, 0))
  kr : W.heap[br]? = some (.cells #[.bool raw] 4 (0, 0))
  O : OwnI W B (.slice (some ⟨gh, 0, none⟩) hs.length c2) hs
section
variable {by_ bh br B gh c2 : Nat} {yv : Array Value} {hx : Int} {raw : Bool} {hs : List Int}
theorem KB.fr (h : KB w0 w pb mb cb m by_ bh br B yv hx raw gh c2 hs W) {W' : World} (hk : KAt w0 w pb mb cb m W') (hF : Fr W W' mb cb) : KB w0 w pb mb cb m by_ bh br B yv hx raw gh c2 hs W' := by
  have hA : ∃ mk, At W mb cb mk := by
    obtain ⟨_, mk, _, h3⟩ := h.k
    exact ⟨mk, h3.A⟩
  obtain ⟨mk, hA⟩ := hA
  exact ⟨hk, hF.blk hA h.ky (by decide) (by decide), hF.blk hA h.kh (by decide) (by decide), hF.blk hA h.kr (by decide) (by decide), h.O.fr hA hF⟩
theorem KB.below (h : KB w0 w pb mb cb m by_ bh br B yv hx raw gh c2 hs W) {W' : World} (hb : Below W.heap.size W W') : KB w0 w pb mb cb m by_ bh br B yv hx raw gh c2 hs W' := h.fr (h.k.below hb) (Fr.of_below hb mb cb)
end
set_option maxHeartbeats 6400000 in
set_option maxRecDepth 100000 in
theorem NodeKinds_fn (h : St w0 w pb mb cb m) {z H t0 t1 t2 hx : Int} {x y : Int × Ag} {vs : List Int} {A1 AN : Option Addr} {c1 c2 kN by_ bh br B gh : Nat} {raw : Bool} (hy : Yd16 m [1, 2] z H t0 t1 t2 [x, y] vs [x.1, y.1] AN kN) (hraw : raw = true → hx ∉ [x.1, y.1])
    (ky : w.heap[by_]? = some (.cells (yardV mb H ⟨#[107]⟩ t0 (.slice AN 2 kN) (.slice A1 vs.length c1) (.slice (some ⟨gh, 0, none⟩) [x.1, y.1].length c2)) 48 (0, 0))) (kh : w.heap[bh]? = some (.cells #[.int .i64 hx] 3 (0, 0))) (kr : w.heap[br]? = some (.cells #[.bool raw] 4 (0, 0))) (hO2 : OwnI w B (.slice (some ⟨gh, 0, none⟩) [x.1, y.1].length c2) [x.1, y.1]) :
    Calls Try.prog 37 #[ptr pb, .pointer (some ⟨by_, 0, none⟩), .pointer (some ⟨bh, 0, none⟩), .pointer (some ⟨br, 0, none⟩)] w fun e w' => e = .returned (.iface 4 (.bool true)) ∧ KAt w0 w pb mb cb m w' := by
  obtain ⟨YV, hYV⟩ : ∃ YV, YV = (yardV mb H ⟨#[107]⟩ t0 (.slice AN 2 kN) (.slice A1 vs.length c1) (.slice (some ⟨gh, 0, none⟩) [x.1, y.1].length c2)) := ⟨_, rfl⟩
  rw [← hYV] at ky
  have HYV := Lib.hid hYV
  have HRAW := Lib.hid hraw
  have HY := Lib.hid hy
  have hH := hy.nd.H_
  have hT0 := hy.nd.w0
  obtain ⟨e1, n1, a1, z1, b1, e2, n2, a2, z2, b2, -⟩ := hy.row.C
  have hX : m.val x.1 = some (.iface 52 x.2.v) := e1 ▸ a1
  have hH0 : H ≠ 0 := by have := val_pos hH; omega
  have CT := Lib.hid (show ∀ W, KAt w0 w pb mb cb m W → Calls Try.prog 27 #[ptr pb, .int .i64 H] W fun e w' => e = .returned (.tuple #[Ag.z.v, .int .i64 6]) ∧ KAt w0 w pb mb cb m w' ∧ Fr W w' mb cb from fun W k => k_call k fun mk hl hS => ⟨_, hl.tick_, take_other hS (hl.val hH) (by decide) (by decide)⟩)
  have CL := Lib.hid (show ∀ W, KAt w0 w pb mb cb m W → Calls Try.prog 32 #[ptr pb, .int .i64 x.1] W fun e w' => e = .returned (.tuple #[Nd.z.v, .int .i64 6]) ∧ KAt w0 w pb mb cb m w' ∧ Fr W w' mb cb from fun W k => k_call k fun mk hl hS => ⟨_, hl.tick_, nload_other hS (hl.val hX) (by decide) (by decide)⟩)
  have CM := Lib.hid (show ∀ W, KAt w0 w pb mb cb m W → Calls Try.prog 32 #[ptr pb, .int .i64 t0] W fun e w' => e = .returned (.tuple #[Nd.z.v, .int .i64 6]) ∧ KAt w0 w pb mb cb m w' ∧ Fr W w' mb cb from fun W k => k_call k fun mk hl hS => ⟨_, hl.tick_, nload_num hS (hl.val hT0)⟩)
  have CF := Lib.hid (show ∀ W, KAt w0 w pb mb cb m W → Calls Try.prog 30 #[ptr pb, .int .i64 H] W fun e w' => e = .returned (.tuple #[.slice none 0 0, .int .i64 6]) ∧ KAt w0 w pb mb cb m w' ∧ Fr W w' mb cb from fun W k => k_call k fun mk hl hS => ⟨_, hl.tick_, fell_no hS hH0 (by decide) (take_other hS (hl.val hH) (by decide) (by decide))⟩)
  have CI := Lib.hid (show ∀ W, KAt w0 w pb mb cb m W → Calls Try.prog 36 #[ptr pb, .int .i64 H] W fun e w' => e = .returned (.int .i64 6) ∧ KAt w0 w pb mb cb m w' ∧ Fr W w' mb cb from fun W k => k_call k fun mk hl hS => ⟨_, hl.tick_, lift_no hS (by decide) (take_other hS (hl.val hH) (by decide) (by decide))⟩)
  have CU := Lib.hid (show ∀ W, KAt w0 w pb mb cb m W → Calls Try.prog 35 #[ptr pb, .int .i64 x.1] W fun e w' => e = .returned (.int .i64 6) ∧ KAt w0 w pb mb cb m w' ∧ Fr W w' mb cb from fun W k => k_call k fun mk hl hS => ⟨_, hl.tick_, nundo_no hS (by decide) (nload_other hS (hl.val hX) (by decide) (by decide))⟩)
  have CN := Lib.hid (show ∀ W, KAt w0 w pb mb cb m W → Calls Try.prog 21 #[ptr pb, Nd.v ⟨⟨#[]⟩, x.1, none, 0, 0⟩] W fun e w' => e = .returned (.tuple #[.int .i64 0, Ag.z.v, .int .i64 6]) ∧ KAt w0 w pb mb cb m w' ∧ Fr W w' mb cb from fun W k => k_call k fun mk hl hS => ⟨_, hl.tick_, newest_no hS ⟨⟨#[]⟩, x.1, none, 0, 0⟩ (by decide) (word_block (hl.val hX) (by decide))⟩)
  have CA := Lib.hid (show ∀ W, KAt w0 w pb mb cb m W → Calls Try.prog 22 #[ptr pb, Nd.v ⟨⟨#[]⟩, x.1, none, 0, 0⟩, .int .i64 5] W fun e w' => e = .returned (.tuple #[Ag.z.v, .bool false, .int .i64 6]) ∧ KAt w0 w pb mb cb m w' ∧ Fr W w' mb cb from fun W k => k_call k fun mk hl hS => ⟨_, hl.tick_, at_no hS ⟨⟨#[]⟩, x.1, none, 0, 0⟩ 5 (by decide) (word_block (hl.val hX) (by decide))⟩)
  have h00 : m.val 0 = none := by
    cases hv : m.val 0 with
    | none => rfl
    | some u => have := val_pos hv; omega
  have CC := Lib.hid (show ∀ W, KAt w0 w pb mb cb m W → Calls Try.prog 26 #[ptr pb, Nd.z.v, .int .i64 5] W fun e w' => e = .returned (.tuple #[.slice none 0 0, .int .i64 5]) ∧ KAt w0 w pb mb cb m w' ∧ Fr W w' mb cb from fun W k => k_call k fun mk hl hS => ⟨_, hl.gone_, cut_no hS Nd.z 5 (by decide) (word_none (hl.val h00))⟩)
  have K0 := Lib.hid (show KB w0 w pb mb cb m by_ bh br B YV hx raw gh c2 [x.1, y.1] w from ⟨⟨Fr.refl _ _ _, m, ⟨rfl, rfl⟩, h⟩, ky, kh, kr, hO2⟩)
  clear hYV hraw hy hH hT0 e1 n1 a1 b1 e2 n2 a2 b2 hX hH0 h00 h ky kh kr hO2
  have kyf := K0.out.ky
  rw [HYV.out] at kyf
  obtain ⟨y0, y1, y2, y3, y4, y5, y6⟩ := box7 kyf
  have d0 : w.cell? ⟨gh, 0, none⟩ = some (.int .i64 x.1) := K0.out.O.cell_at (j := 0) (by simp)
  have hb0 := box1 K0.out.kh
  have rb0 := box1 K0.out.kr
  clear kyf
  go_enter Try.func37, Try.ntmps37
  go_wp2_with fail
  refine (CT.out _ K0.out.k).mono ?_
  rintro e V1 ⟨rfl, hk, hF⟩
  have J1 := Lib.hid (K0.out.fr hk hF)
  clear hk hF K0
  clear y0 y1 y2 y3 y4 y5 y6 d0 hb0 rb0
  obtain ⟨W1, hW1⟩ : ∃ W1 : World, W1 = V1.alloc (ageC Ag.z) := ⟨_, rfl⟩
  have hb1 : Below V1.heap.size V1 W1 := hW1 ▸ below_alloc (Below.refl _ _) _
  have K1 := Lib.hid (J1.out.below hb1)
  have HW1 := Lib.hid hW1
  clear hW1 hb1 J1
  go_upto_region 2 with fail
  rw [← HW1.out]
  clear HW1
  have kyf := K1.out.ky
  rw [HYV.out] at kyf
  obtain ⟨y0, y1, y2, y3, y4, y5, y6⟩ := box7 kyf
  have d0 : W1.cell? ⟨gh, 0, none⟩ = some (.int .i64 x.1) := K1.out.O.cell_at (j := 0) (by simp)
  have hb0 := box1 K1.out.kh
  have rb0 := box1 K1.out.kr
  clear kyf
  go_wp2_with fail
  refine (CL.out _ K1.out.k).mono ?_
  rintro e V2 ⟨rfl, hk, hF⟩
  have J2 := Lib.hid (K1.out.fr hk hF)
  clear hk hF K1
  clear y0 y1 y2 y3 y4 y5 y6 d0 hb0 rb0
  obtain ⟨W2, hW2⟩ : ∃ W2 : World, W2 = V2.alloc (nodC Nd.z) := ⟨_, rfl⟩
  have hb2 : Below V2.heap.size V2 W2 := hW2 ▸ below_alloc (Below.refl _ _) _
  have K2 := Lib.hid (J2.out.below hb2)
  have HW2 := Lib.hid hW2
  clear hW2 hb2 J2
  go_upto_region 3 with fail
  rw [← HW2.out]
  clear HW2
  have kyf := K2.out.ky
  rw [HYV.out] at kyf
  obtain ⟨y0, y1, y2, y3, y4, y5, y6⟩ := box7 kyf
  have d0 : W2.cell? ⟨gh, 0, none⟩ = some (.int .i64 x.1) := K2.out.O.cell_at (j := 0) (by simp)
  have hb0 := box1 K2.out.kh
  have rb0 := box1 K2.out.kr
  clear kyf
  go_wp2_with fail
  refine (CM.out _ K2.out.k).mono ?_
  rintro e V3 ⟨rfl, hk, hF⟩
  have J3 := Lib.hid (K2.out.fr hk hF)
  clear hk hF K2
  clear y0 y1 y2 y3 y4 y5 y6 d0 hb0 rb0
  obtain ⟨W3, hW3⟩ : ∃ W3 : World, W3 = V3.alloc (nodC Nd.z) := ⟨_, rfl⟩
  have hb3 : Below V3.heap.size V3 W3 := hW3 ▸ below_alloc (Below.refl _ _) _
  have K3 := Lib.hid (J3.out.below hb3)
  have HW3 := Lib.hid hW3
  clear hW3 hb3 J3
  go_upto_region 4 with fail
  rw [← HW3.out]
  clear HW3
  have kyf := K3.out.ky
  rw [HYV.out] at kyf
  obtain ⟨y0, y1, y2, y3, y4, y5, y6⟩ := box7 kyf
  have d0 : W3.cell? ⟨gh, 0, none⟩ = some (.int .i64 x.1) := K3.out.O.cell_at (j := 0) (by simp)
  have hb0 := box1 K3.out.kh
  have rb0 := box1 K3.out.kr
  clear kyf
  go_wp2_with fail
  refine (CF.out _ K3.out.k).mono ?_
  rintro e V4 ⟨rfl, hk, hF⟩
  have J4 := Lib.hid (K3.out.fr hk hF)
  clear hk hF K3
  clear y0 y1 y2 y3 y4 y5 y6 d0 hb0 rb0
  have kyf := J4.out.ky
  rw [HYV.out] at kyf
  obtain ⟨y0, y1, y2, y3, y4, y5, y6⟩ := box7 kyf
  have d0 : V4.cell? ⟨gh, 0, none⟩ = some (.int .i64 x.1) := J4.out.O.cell_at (j := 0) (by simp)
  have hb0 := box1 J4.out.kh
  have rb0 := box1 J4.out.kr
  clear kyf
  go_upto_region 5 with fail
  have SOF := Lib.hid (show ∀ w', KB w0 w pb mb cb m by_ bh br B YV hx raw gh c2 [x.1, y.1] w' → (w'.cell? ⟨by_, 1, none⟩ = some (.int .i64 H) ∧ w'.cell? ⟨by_, 6, none⟩ = some (.slice (some ⟨gh, 0, none⟩) [x.1, y.1].length c2) ∧ w'.cell? ⟨gh, 0, none⟩ = some (.int .i64 x.1) ∧ KB w0 w pb mb cb m by_ bh br B YV hx raw gh c2 [x.1, y.1] w') from fun w' hk => by
    have kyf := hk.ky
    rw [HYV.out] at kyf
    obtain ⟨-, y1, -, -, -, -, y6⟩ := box7 kyf
    exact ⟨y1, y6, hk.O.cell_at (j := 0) (by simp), hk⟩)
  have K5 := Lib.hid (SOF.out _ (J4.out.below (pw_below_drewN (Below.refl V4.heap.size V4) 1)))
  clear J4
  clear y0 y1 y2 y3 y4 y5 y6 d0 hb0 rb0
  refine start_ (n := 12) (S := fun w' => w'.cell? ⟨by_, 1, none⟩ = some (.int .i64 H) ∧ w'.cell? ⟨by_, 6, none⟩ = some (.slice (some ⟨gh, 0, none⟩) [x.1, y.1].length c2) ∧ w'.cell? ⟨gh, 0, none⟩ = some (.int .i64 x.1) ∧ KB w0 w pb mb cb m by_ bh br B YV hx raw gh c2 [x.1, y.1] w') (ds := []) #[false, false, false, false, false, false, false, false, false, false, false, false] rfl rfl rfl (K5.out) ?_
  intro hHeld
  refine pure_ (i := 0) (N := some 58) (v := ?_) (a' := ?_) #[true, false, false, false, false, false, false, false, false, false, false, false] rfl rfl (by kernel_rfl) (fun _ _ _ h => h) (Or.inl ⟨by rfl, ?_⟩) ?_ ?_
  rotate_left
  · intro w'
    go_simp
    with_reducible rfl
  rotate_left
  · simp only [Act.put, List.setIfInBounds_toArray, List.set_cons_zero, List.set_cons_succ, i64_w, i32_w]
    rfl
  refine pure_ (i := 1) (N := some 59) (v := ?_) (a' := ?_) #[true, true, false, false, false, false, false, false, false, false, false, false] rfl rfl (by kernel_rfl) (fun _ _ _ h => h) (Or.inl ⟨by rfl, ?_⟩) ?_ ?_
  rotate_left
  · intro w'
    go_simp
    with_reducible rfl
  rotate_left
  · simp only [Act.put, List.setIfInBounds_toArray, List.set_cons_zero, List.set_cons_succ, i64_w, i32_w]
    rfl
  refine take_ (i := 2) (N := some 60) (v := ?_) (a' := ?_) #[true, true, true, false, false, false, false, false, false, false, false, false] rfl rfl (by kernel_rfl) (fun _ _ _ h => h) (Or.inl ⟨by rfl, ?_⟩) hHeld ?_ ?_
  rotate_left
  · rintro w' hHeld'
    have hHeld'' := hHeld'
    (try obtain ⟨r0_, r1_⟩ := hHeld')
    (try obtain ⟨r1_, r2_⟩ := r1_)
    (try obtain ⟨r2_, r3_⟩ := r2_)
    (try obtain ⟨r3_, r4_⟩ := r3_)
    (try obtain ⟨r4_, r5_⟩ := r4_)
    (try obtain ⟨r5_, r6_⟩ := r5_)
    (try obtain ⟨r6_, r7_⟩ := r6_)
    (try obtain ⟨r7_, r8_⟩ := r7_)
    (try obtain ⟨r8_, r9_⟩ := r8_)
    go_simp
    with_reducible rfl
  rotate_left
  · simp only [Act.put, List.setIfInBounds_toArray, List.set_cons_zero, List.set_cons_succ, i64_w, i32_w]
    rfl
  refine pure_ (i := 4) (N := some 62) (v := ?_) (a' := ?_) #[true, true, true, false, true, false, false, false, false, false, false, false] rfl rfl (by kernel_rfl) (fun _ _ _ h => h) (Or.inl ⟨by rfl, ?_⟩) ?_ ?_
  rotate_left
  · intro w'
    go_simp
    with_reducible rfl
  rotate_left
  · simp only [Act.put, List.setIfInBounds_toArray, List.set_cons_zero, List.set_cons_succ, i64_w, i32_w]
    rfl
  refine pure_ (i := 5) (N := some 63) (v := ?_) (a' := ?_) #[true, true, true, false, true, true, false, false, false, false, false, false] rfl rfl (by kernel_rfl) (fun _ _ _ h => h) (Or.inl ⟨by rfl, ?_⟩) ?_ ?_
  rotate_left
  · intro w'
    go_simp
    with_reducible rfl
  rotate_left
  · simp only [Act.put, List.setIfInBounds_toArray, List.set_cons_zero, List.set_cons_succ, i64_w, i32_w]
    rfl
  refine take_ (i := 6) (N := some 64) (v := ?_) (a' := ?_) #[true, true, true, false, true, true, true, false, false, false, false, false] rfl rfl (by kernel_rfl) (fun _ _ _ h => h) (Or.inl ⟨by rfl, ?_⟩) hHeld ?_ ?_
  rotate_left
  · rintro w' hHeld'
    have hHeld'' := hHeld'
    (try obtain ⟨r0_, r1_⟩ := hHeld')
    (try obtain ⟨r1_, r2_⟩ := r1_)
    (try obtain ⟨r2_, r3_⟩ := r2_)
    (try obtain ⟨r3_, r4_⟩ := r3_)
    (try obtain ⟨r4_, r5_⟩ := r4_)
    (try obtain ⟨r5_, r6_⟩ := r5_)
    (try obtain ⟨r6_, r7_⟩ := r6_)
    (try obtain ⟨r7_, r8_⟩ := r7_)
    (try obtain ⟨r8_, r9_⟩ := r8_)
    go_simp
    with_reducible rfl
  rotate_left
  · simp only [Act.put, List.setIfInBounds_toArray, List.set_cons_zero, List.set_cons_succ, i64_w, i32_w]
    rfl
  refine pure_ (i := 7) (N := some 65) (v := ?_) (a' := ?_) #[true, true, true, false, true, true, true, true, false, false, false, false] rfl rfl (by kernel_rfl) (fun _ _ _ h => h) (Or.inl ⟨by rfl, ?_⟩) ?_ ?_
  rotate_left
  · intro w'
    go_simp
    with_reducible rfl
  rotate_left
  · simp only [Act.put, List.setIfInBounds_toArray, List.set_cons_zero, List.set_cons_succ, i64_w, i32_w]
    rfl
  refine take_ (i := 8) (N := some 66) (v := ?_) (a' := ?_) #[true, true, true, false, true, true, true, true, true, false, false, false] rfl rfl (by kernel_rfl) (fun _ _ _ h => h) (Or.inl ⟨by rfl, ?_⟩) hHeld ?_ ?_
  rotate_left
  · rintro w' hHeld'
    have hHeld'' := hHeld'
    (try obtain ⟨r0_, r1_⟩ := hHeld')
    (try obtain ⟨r1_, r2_⟩ := r1_)
    (try obtain ⟨r2_, r3_⟩ := r2_)
    (try obtain ⟨r3_, r4_⟩ := r3_)
    (try obtain ⟨r4_, r5_⟩ := r4_)
    (try obtain ⟨r5_, r6_⟩ := r5_)
    (try obtain ⟨r6_, r7_⟩ := r6_)
    (try obtain ⟨r7_, r8_⟩ := r7_)
    (try obtain ⟨r8_, r9_⟩ := r8_)
    go_simp
    with_reducible rfl
  rotate_left
  · simp only [Act.put, List.setIfInBounds_toArray, List.set_cons_zero, List.set_cons_succ, i64_w, i32_w]
    rfl
  refine one_ (i := 3) (N := some 61) #[true, true, true, true, true, true, true, true, true, false, false, false] rfl rfl (by kernel_rfl) (by decide) (fun K hSh => ?_)
  refine goes_ Try.func36 (by kernel_rfl) rfl #[ptr pb, .int .i64 H] (by rfl) rfl rfl (by (try simp only [List.map_toArray, List.map_cons, List.map_nil]); rfl) ?_
  refine (CI.out _ hHeld.2.2.2.k).mono ?_
  rintro e V ⟨rfl, hk, hF⟩
  refine ⟨_, rfl, hSh.out _ _ (SOF.out _ (hHeld.2.2.2.fr hk hF)) ?_⟩
  clear hHeld hk hF hSh
  intro hHeld
  refine norm_ (a' := ?_) ?_ ?_
  rotate_left
  · simp only [Act.put, List.setIfInBounds_toArray, List.set_cons_zero, List.set_cons_succ, i64_w, i32_w]
    rfl
  refine one_ (i := 9) (N := some 67) #[true, true, true, true, true, true, true, true, true, true, false, false] rfl rfl (by kernel_rfl) (by decide) (fun K hSh => ?_)
  refine goes_ Try.func35 (by kernel_rfl) rfl #[ptr pb, .int .i64 x.1] (by rfl) rfl rfl (by (try simp only [List.map_toArray, List.map_cons, List.map_nil]); rfl) ?_
  refine (CU.out _ hHeld.2.2.2.k).mono ?_
  rintro e V ⟨rfl, hk, hF⟩
  refine ⟨_, rfl, hSh.out _ _ (SOF.out _ (hHeld.2.2.2.fr hk hF)) ?_⟩
  clear hHeld hk hF hSh
  intro hHeld
  obtain ⟨W5, hW5⟩ : ∃ W5, V = W5 := ⟨_, rfl⟩
  rw [hW5] at hHeld ⊢
  clear hW5
  refine norm_ (a' := ?_) ?_ ?_
  rotate_left
  · simp only [Act.put, List.setIfInBounds_toArray, List.set_cons_zero, List.set_cons_succ, i64_w, i32_w]
    rfl
  refine pure_ (i := 10) (N := some 14) (v := ?_) (a' := ?_) #[true, true, true, true, true, true, true, true, true, true, true, false] rfl rfl (by kernel_rfl) (fun _ _ _ h => h) (Or.inl ⟨by rfl, ?_⟩) ?_ ?_
  rotate_left
  · intro w'
    go_simp
    with_reducible rfl
  rotate_left
  · simp only [Act.put, List.setIfInBounds_toArray, List.set_cons_zero, List.set_cons_succ, i64_w, i32_w]
    rfl
  refine pure_ (i := 11) (N := some 15) (v := ?_) (a' := ?_) #[true, true, true, true, true, true, true, true, true, true, true, true] rfl rfl (by kernel_rfl) (fun _ _ _ h => h) (Or.inl ⟨by rfl, ?_⟩) ?_ ?_
  rotate_left
  · intro w'
    go_simp
    with_reducible rfl
  rotate_left
  · simp only [Act.put, List.setIfInBounds_toArray, List.set_cons_zero, List.set_cons_succ, i64_w, i32_w]
    rfl
  refine done_ (by kernel_rfl) ?_
  have K6 := Lib.hid hHeld.2.2.2
  clear hHeld K5
  have kyf := K6.out.ky
  rw [HYV.out] at kyf
  obtain ⟨y0, y1, y2, y3, y4, y5, y6⟩ := box7 kyf
  have d0 : W5.cell? ⟨gh, 0, none⟩ = some (.int .i64 x.1) := K6.out.O.cell_at (j := 0) (by simp)
  have hb0 := box1 K6.out.kh
  have rb0 := box1 K6.out.kr
  clear kyf
  go_wp2_with fail
  refine (k_take_any K6.out.k HY.out hx).mono ?_
  rintro e V6 ⟨ax, ix, rfl, hix, hk, hF⟩
  have J6 := Lib.hid (K6.out.fr hk hF)
  have HIX := Lib.hid hix
  clear hk hF hix K6
  clear y0 y1 y2 y3 y4 y5 y6 d0 hb0 rb0
  obtain ⟨W6, hW6⟩ : ∃ W6 : World, W6 = V6.alloc (ageC ax) := ⟨_, rfl⟩
  have hb6 : Below V6.heap.size V6 W6 := hW6 ▸ below_alloc (Below.refl _ _) _
  have K7 := Lib.hid (J6.out.below hb6)
  have HW6 := Lib.hid hW6
  clear hW6 hb6 J6
  go_upto_region 7 with fail
  rw [← HW6.out]
  clear HW6
  have kyf := K7.out.ky
  rw [HYV.out] at kyf
  obtain ⟨y0, y1, y2, y3, y4, y5, y6⟩ := box7 kyf
  have d0 : W6.cell? ⟨gh, 0, none⟩ = some (.int .i64 x.1) := K7.out.O.cell_at (j := 0) (by simp)
  have hb0 := box1 K7.out.kh
  have rb0 := box1 K7.out.kr
  clear kyf
  obtain ⟨W7, hW7⟩ : ∃ W7 : World, W7 = W6.alloc (nodC ⟨⟨#[]⟩, x.1, none, 0, 0⟩) := ⟨_, rfl⟩
  have hb7 : Below W6.heap.size W6 W7 := hW7 ▸ below_alloc (Below.refl _ _) _
  have kn7 : W7.heap[W6.heap.size]? = some (.cells #[.string ⟨#[]⟩, .int .i64 x.1, .slice none 0 0] 46 (0, 0)) := hW7 ▸ blk_new _ _
  have K8 := Lib.hid (K7.out.below hb7)
  have HW7 := Lib.hid hW7
  clear hW7 hb7 K7
  go_upto_region 8 with fail
  rw [← HW7.out]
  clear HW7
  clear y0 y1 y2 y3 y4 y5 y6 d0 hb0 rb0
  obtain ⟨m0, m1_, m2_⟩ := box3 kn7
  have kyf := K8.out.ky
  rw [HYV.out] at kyf
  obtain ⟨y0, y1, y2, y3, y4, y5, y6⟩ := box7 kyf
  have d0 : W7.cell? ⟨gh, 0, none⟩ = some (.int .i64 x.1) := K8.out.O.cell_at (j := 0) (by simp)
  have hb0 := box1 K8.out.kh
  have rb0 := box1 K8.out.kr
  clear kyf
  go_wp2_with fail
  refine (CN.out _ K8.out.k).mono ?_
  rintro e V8 ⟨rfl, hk, hF⟩
  have kn8 : V8.heap[W6.heap.size]? = some (.cells #[.string ⟨#[]⟩, .int .i64 x.1, .slice none 0 0] 46 (0, 0)) := by
    obtain ⟨_, mk, _, hS⟩ := K8.out.k
    exact hF.blk hS.A kn7 (by decide) (by decide)
  have J8 := Lib.hid (K8.out.fr hk hF)
  clear hk hF K8 kn7 m0 m1_ m2_
  clear y0 y1 y2 y3 y4 y5 y6 d0 hb0 rb0
  obtain ⟨W8, hW8⟩ : ∃ W8 : World, W8 = V8.alloc (ageC Ag.z) := ⟨_, rfl⟩
  have hb8 : Below V8.heap.size V8 W8 := hW8 ▸ below_alloc (Below.refl _ _) _
  have kn9 := blk_below kn8 hb8
  have K9 := Lib.hid (J8.out.below hb8)
  have HW8 := Lib.hid hW8
  clear hW8 hb8 J8 kn8
  go_upto_region 9 with fail
  rw [← HW8.out]
  clear HW8
  obtain ⟨m0, m1_, m2_⟩ := box3 kn9
  have kyf := K9.out.ky
  rw [HYV.out] at kyf
  obtain ⟨y0, y1, y2, y3, y4, y5, y6⟩ := box7 kyf
  have d0 : W8.cell? ⟨gh, 0, none⟩ = some (.int .i64 x.1) := K9.out.O.cell_at (j := 0) (by simp)
  have hb0 := box1 K9.out.kh
  have rb0 := box1 K9.out.kr
  clear kyf
  clear kn9
  go_wp2_with fail
  refine (CA.out _ K9.out.k).mono ?_
  rintro e V9 ⟨rfl, hk, hF⟩
  have J9 := Lib.hid (K9.out.fr hk hF)
  clear hk hF K9
  clear y0 y1 y2 y3 y4 y5 y6 d0 hb0 rb0
  obtain ⟨W9, hW9⟩ : ∃ W9 : World, W9 = V9.alloc (ageC Ag.z) := ⟨_, rfl⟩
  have hb9 : Below V9.heap.size V9 W9 := hW9 ▸ below_alloc (Below.refl _ _) _
  have K9 := Lib.hid (J9.out.below hb9)
  have HW9 := Lib.hid hW9
  clear hW9 hb9 J9
  go_upto_region 10 with fail
  rw [← HW9.out]
  clear HW9
  have kyf := K9.out.ky
  rw [HYV.out] at kyf
  obtain ⟨y0, y1, y2, y3, y4, y5, y6⟩ := box7 kyf
  have d0 : W9.cell? ⟨gh, 0, none⟩ = some (.int .i64 x.1) := K9.out.O.cell_at (j := 0) (by simp)
  have hb0 := box1 K9.out.kh
  have rb0 := box1 K9.out.kr
  clear kyf
  go_wp2_with fail
  refine (CC.out _ K9.out.k).mono ?_
  rintro e V10 ⟨rfl, hk, hF⟩
  have J10 := Lib.hid (K9.out.fr hk hF)
  clear hk hF K9
  clear y0 y1 y2 y3 y4 y5 y6 d0 hb0 rb0
  have kyf := J10.out.ky
  rw [HYV.out] at kyf
  obtain ⟨y0, y1, y2, y3, y4, y5, y6⟩ := box7 kyf
  have d0 : V10.cell? ⟨gh, 0, none⟩ = some (.int .i64 x.1) := J10.out.O.cell_at (j := 0) (by simp)
  have hb0 := box1 J10.out.kh
  have rb0 := box1 J10.out.kr
  clear kyf
  have FIN := Lib.hid J10.out.k
  have hr1 := HRAW.out
  have hr2 := HIX.out
  rcases Bool.eq_false_or_eq_true raw with hT | hT
  · subst hT
    rcases hr2 with ⟨-, h6⟩ | rfl | rfl
    · exact absurd h6 (hr1 rfl)
    · go_wp2_with fail
      go_ret
      exact ⟨rfl, FIN.out⟩
    · go_wp2_with fail
      go_ret
      exact ⟨rfl, FIN.out⟩
  · subst hT
    clear hr1 hr2
    go_wp2_with fail
    go_ret
    exact ⟨rfl, FIN.out⟩
/-- What the law holds in its loop. -/
structure KL (w : World) (mb cb : Nat) (m : M) (by_ bh br B : Nat) (yv : Array Value) (hx : Int) (r : Bool) (gh c2 : Nat) (hs : List Int) (A1 : Option Addr) (c1 : Nat) (vs : List Int) (W : World) : Prop where
  A : At W mb cb m
  hB : Below w.heap.size w W
  ky : W.heap[by_]? = some (.cells yv 48 (0, 0))
  kh : W.heap[bh]? = some (.cells #[.int .i64 hx] 3 (0, 0))
  kr : W.heap[br]? = some (.cells #[.bool r] 4 (0, 0))
  O : OwnI W B (.slice (some ⟨gh, 0, none⟩) hs.length c2) hs
  O1 : OwnI W B (.slice A1 vs.length c1) vs
  lt : w.heap.size ≤ br
theorem KL.set {by_ bh br B gh c2 c1 : Nat} {yv : Array Value} {hx : Int} {r : Bool} {hs vs : List Int} {A1 : Option Addr} (h : KL w mb cb m by_ bh br B yv hx r gh c2 hs A1 c1 vs W) (r' : Bool) : KL w mb cb m by_ bh br B yv hx r' gh c2 hs A1 c1 vs (W.setCell ⟨br, 0, none⟩ (.bool r')) := by
  have ho := Only.set W ⟨br, 0, none⟩ (.bool r')
  refine ⟨h.A.only ho (blk_ne h.A.hm h.kr (by decide)) (blk_ne h.A.hc h.kr (by decide)), ⟨ho.os.trans h.hB.os, ho.tape.trans h.hB.tape, ho.output.trans h.hB.output, by rw [ho.size]; exact h.hB.size, fun k hk => (ho.block k (by have := h.lt; simp only; omega)).trans (h.hB.block k hk)⟩, ho.blk h.ky h.kr (by decide), ho.blk h.kh h.kr (by decide), blk_put h.kr 0 _ rfl, h.O.only1 ho h.kr (by decide), h.O1.only1 ho h.kr (by decide), h.lt⟩
theorem KL.drewN {by_ bh br B gh c2 c1 : Nat} {yv : Array Value} {hx : Int} {r : Bool} {hs vs : List Int} {A1 : Option Addr} (h : KL w mb cb m by_ bh br B yv hx r gh c2 hs A1 c1 vs W) (n : Nat) : KL w mb cb m by_ bh br B yv hx r gh c2 hs A1 c1 vs (W.drewN n) := by
  have hb := pw_below_drewN (Below.refl W.heap.size W) n
  exact ⟨h.A.drewN n, pw_below_drewN h.hB n, h.ky, h.kh, h.kr, h.O.below hb, h.O1.below hb, h.lt⟩
set_option maxHeartbeats 6400000 in
set_option maxRecDepth 100000 in
theorem NodeKinds_walk (hx : Int) (w : World) :
    Calls Try.prog 8 #[.int .i64 hx] w fun e w' => e = .returned (.bool true) ∧ Below w.heap.size w w' := by
  obtain ⟨W0, hW0⟩ : ∃ W0 : World, W0 = w.alloc (.cells #[.int .i64 hx] 3) := ⟨_, rfl⟩
  have hB0 : Below w.heap.size w W0 := hW0 ▸ below_alloc (Below.refl _ _) _
  have k0 : W0.heap[w.heap.size]? = some (.cells #[.int .i64 hx] 3 (0, 0)) := hW0 ▸ blk_new _ _
  obtain ⟨W1, hW1⟩ : ∃ W1 : World, W1 = W0.alloc (.cells #[.int .u8 1, .int .u8 2] 5) := ⟨_, rfl⟩
  have hb1 : Below W0.heap.size W0 W1 := hW1 ▸ below_alloc (Below.refl _ _) _
  have k1 : W1.heap[W0.heap.size]? = some (.cells #[.int .u8 1, .int .u8 2] 5 (0, 0)) := hW1 ▸ blk_new _ _
  have kh1 := blk_below k0 hb1
  have hB1 := below_then hB0 hB0.size hb1
  have hU : U8 W1 (some ⟨W0.heap.size, 0, none⟩) [1, 2] := ⟨rfl, by simp, fun _ => ⟨_, rfl, fun j hj => by
    rw [Addr.add_lit, Nat.zero_add]
    have hj' : j < 2 := hj
    rcases (show j = 0 ∨ j = 1 by omega) with rfl | rfl
    · exact (blk_cell k1 0).trans rfl
    · exact (blk_cell k1 1).trans rfl⟩⟩
  have HL := Lib.hid (nlay_calls (cr := 2) (by simp) (by intro r hr; simp at hr; omega) hU)
  have HW0 := Lib.hid hW0
  have HW1 := Lib.hid hW1
  clear hW0 hW1 hU k1 hb1 k0
  go_enter Try.func8, Try.ntmps8
  go_upto_region 1 with fail
  rw [← HW0.out]
  clear HW0
  go_wp2_with fail
  rw [← HW1.out]
  clear HW1
  refine HL.out.mono ?_
  rintro e W2 ⟨mb, cb, m, z, H, t0, t1, t2, L, vs, hs, A1, A2, AN, c1, c2, kN, rfl, hy, hA, hO1, hO2, hRN, hB2, hmb, hcb⟩
  obtain ⟨x, y, rfl⟩ : ∃ x y, L = [x, y] := by
    have hl := hy.len
    match L, hl with
    | [x, y], _ => exact ⟨x, y, rfl⟩
  obtain rfl : hs = [x.1, y.1] := hy.hl
  have hvn : vs.length = 2 := by rw [hy.vl]; rfl
  obtain ⟨gh, egh, -⟩ := hO2.cell 0 (by simp)
  subst egh
  have kh2 := blk_below kh1 hB2
  obtain ⟨W3, hW3⟩ : ∃ W3 : World, W3 = W2.alloc (.cells (yardV mb H ⟨#[107]⟩ t0 (.slice AN 2 kN) (.slice A1 vs.length c1) (.slice (some ⟨gh, 0, none⟩) [x.1, y.1].length c2)) 48) := ⟨_, rfl⟩
  have hb3 : Below W2.heap.size W2 W3 := hW3 ▸ below_alloc (Below.refl _ _) _
  have ky : W3.heap[W2.heap.size]? = some (.cells (yardV mb H ⟨#[107]⟩ t0 (.slice AN 2 kN) (.slice A1 vs.length c1) (.slice (some ⟨gh, 0, none⟩) [x.1, y.1].length c2)) 48 (0, 0)) := hW3 ▸ blk_new _ _
  have kh3 := blk_below kh2 hb3
  have hA3 := hA.below hb3
  have hP1 := hO1.below hb3
  have hP2 := hO2.below hb3
  have hsz := hB1.size
  have HB3 := Lib.hid (below_then (below_then hB1 hB1.size hB2) (by have := hB2.size; omega) hb3)
  have HW3 := Lib.hid hW3
  have HY := Lib.hid hy
  have HVN := Lib.hid hvn
  simp only [hvn, List.length_cons, List.length_nil, Nat.zero_add, Nat.reduceAdd] at HW3 ⊢
  clear hW3 hb3 hB0 hB1 hB2 hA hO1 hO2 hRN HL kh1 kh2 hy hvn
  go_upto_region 2 with fail
  rw [← HW3.out]
  clear HW3
  go_wp2_with fail
  refine (nawake_calls W3).mono ?_
  rintro e W4 ⟨rfl, hB4⟩
  have ky4 := blk_below ky hB4
  have kh4 := blk_below kh3 hB4
  have hA4 := hA3.below hB4
  have hP14 := hP1.below hB4
  have hP24 := hP2.below hB4
  have HB4 := Lib.hid (below_then HB3.out HB3.out.size hB4)
  clear hB4 ky kh3 hA3 hP1 hP2 HB3
  obtain ⟨W5, hW5⟩ : ∃ W5 : World, W5 = W4.alloc (.cells #[.bool true] 4) := ⟨_, rfl⟩
  have hb5 : Below W4.heap.size W4 W5 := hW5 ▸ below_alloc (Below.refl _ _) _
  have kr5 : W5.heap[W4.heap.size]? = some (.cells #[.bool true] 4 (0, 0)) := hW5 ▸ blk_new _ _
  obtain ⟨YV, hYV⟩ : ∃ YV, YV = (yardV mb H ⟨#[107]⟩ t0 (.slice AN 2 kN) (.slice A1 vs.length c1) (.slice (some ⟨gh, 0, none⟩) [x.1, y.1].length c2)) := ⟨_, rfl⟩
  rw [← hYV] at ky4
  have HYV := Lib.hid hYV
  have K5 := Lib.hid (show KL w mb cb m W2.heap.size w.heap.size W4.heap.size W1.heap.size YV hx true gh c2 [x.1, y.1] A1 c1 vs W5 from ⟨hA4.below hb5, below_then HB4.out HB4.out.size hb5, blk_below ky4 hb5, blk_below kh4 hb5, kr5, hP24.below hb5, hP14.below hb5, HB4.out.size⟩)
  have HW5 := Lib.hid hW5
  clear hW5 hb5 hYV ky4 kh4 hA4 hP14 hP24 kr5 HB4
  go_upto_region 5 with fail
  rw [← HW5.out]
  clear HW5
  go_wp2_with fail
  go_loopw [6] (fun i wr => ∃ (k : Nat) (r : Bool), k ≤ 2 ∧ i = .int .i64 k ∧ KL w mb cb m W2.heap.size w.heap.size W4.heap.size W1.heap.size YV hx r gh c2 [x.1, y.1] A1 c1 vs wr ∧ (r = true → hx ∉ [x.1, y.1].take k)) (fun i _ => 2 - (intOf i).toNat)
  case atStart => exact ⟨0, true, by omega, rfl, K5.out, fun _ => by simp⟩
  case round =>
    clear K5
    obtain ⟨k, r, hk, rfl, hK, hr⟩ := hrel
    have K6 := Lib.hid hK
    have HR := Lib.hid hr
    have kyf := hK.ky
    rw [HYV.out] at kyf
    obtain ⟨y0, y1, y2, y3, y4, y5, y6⟩ := box7 kyf
    have h0 := box1 hK.kh
    have r0 := box1 hK.kr
    have zr := blk_frozen hK.kr 0
    by_cases hlt : k < 2
    · have g1 : decide (k < 2) = true := decide_eq_true hlt
      obtain ⟨q, hq⟩ : ∃ q, [x.1, y.1].getD k 0 = q := ⟨_, rfl⟩
      have d0 := hK.O.cell_at (j := k) (by simpa using hlt)
      rw [hq] at d0
      have HQ := Lib.hid hq
      clear hK hr kyf hq
      have hget : [x.1, y.1].take (k + 1) = [x.1, y.1].take k ++ [q] := by
        rw [← HQ.out]
        rcases (show k = 0 ∨ k = 1 by omega) with rfl | rfl <;> rfl
      have HG := Lib.hid hget
      clear hget
      rcases Bool.eq_false_or_eq_true r with hT | hT
      · subst hT
        by_cases he : hx = q
        · have g2 : (hx == q) = true := by simpa using he
          have g3 : (hx != q) = false := by simpa using he
          clear he
          have HS := Lib.hid ((K6.out.set false).drewN 1)
          go_upto_region 8 with fail
          refine start_ (n := 11) (S := fun w' => w'.cell? ⟨W4.heap.size, 0, none⟩ = some (.bool true) ∧ w'.cell? ⟨w.heap.size, 0, none⟩ = some (.int .i64 hx) ∧ w'.cell? ⟨W2.heap.size, 6, none⟩ = some (.slice (some ⟨gh, 0, none⟩) [x.1, y.1].length c2) ∧ w'.cell? ⟨gh, k, none⟩ = some (.int .i64 q)) (ds := [10]) #[false, false, false, false, false, false, false, false, false, false, false] rfl rfl rfl (⟨r0, h0, y6, d0⟩) ?_
          intro hHeld
          refine take_ (i := 0) (N := some 27) (v := ?_) (a' := ?_) #[true, false, false, false, false, false, false, false, false, false, false] rfl rfl (by kernel_rfl) (fun _ _ _ h => h) (Or.inl ⟨by rfl, ?_⟩) hHeld ?_ ?_
          rotate_left
          · rintro w' hHeld'
            have hHeld'' := hHeld'
            (try obtain ⟨r0_, r1_⟩ := hHeld')
            (try obtain ⟨r1_, r2_⟩ := r1_)
            (try obtain ⟨r2_, r3_⟩ := r2_)
            (try obtain ⟨r3_, r4_⟩ := r3_)
            (try obtain ⟨r4_, r5_⟩ := r4_)
            (try obtain ⟨r5_, r6_⟩ := r5_)
            (try obtain ⟨r6_, r7_⟩ := r6_)
            (try obtain ⟨r7_, r8_⟩ := r7_)
            (try obtain ⟨r8_, r9_⟩ := r8_)
            go_simp
            with_reducible rfl
          rotate_left
          · simp only [Act.put, List.setIfInBounds_toArray, List.set_cons_zero, List.set_cons_succ, i64_w, i32_w]
            rfl
          refine pure_ (i := 1) (N := some 28) (v := ?_) (a' := ?_) #[true, true, false, false, false, false, false, false, false, false, false] rfl rfl (by kernel_rfl) (fun _ _ _ h => h) (Or.inl ⟨by rfl, ?_⟩) ?_ ?_
          rotate_left
          · intro w'
            go_simp
            with_reducible rfl
          rotate_left
          · simp only [Act.put, List.setIfInBounds_toArray, List.set_cons_zero, List.set_cons_succ, i64_w, i32_w]
            rfl
          refine take_ (i := 2) (N := some 29) (v := ?_) (a' := ?_) #[true, true, true, false, false, false, false, false, false, false, false] rfl rfl (by kernel_rfl) (fun _ _ _ h => h) (Or.inl ⟨by rfl, ?_⟩) hHeld ?_ ?_
          rotate_left
          · rintro w' hHeld'
            have hHeld'' := hHeld'
            (try obtain ⟨r0_, r1_⟩ := hHeld')
            (try obtain ⟨r1_, r2_⟩ := r1_)
            (try obtain ⟨r2_, r3_⟩ := r2_)
            (try obtain ⟨r3_, r4_⟩ := r3_)
            (try obtain ⟨r4_, r5_⟩ := r4_)
            (try obtain ⟨r5_, r6_⟩ := r5_)
            (try obtain ⟨r6_, r7_⟩ := r6_)
            (try obtain ⟨r7_, r8_⟩ := r7_)
            (try obtain ⟨r8_, r9_⟩ := r8_)
            go_simp
            with_reducible rfl
          rotate_left
          · simp only [Act.put, List.setIfInBounds_toArray, List.set_cons_zero, List.set_cons_succ, i64_w, i32_w]
            rfl
          refine pure_ (i := 3) (N := some 30) (v := ?_) (a' := ?_) #[true, true, true, true, false, false, false, false, false, false, false] rfl rfl (by kernel_rfl) (fun _ _ _ h => h) (Or.inl ⟨by rfl, ?_⟩) ?_ ?_
          rotate_left
          · intro w'
            go_simp
            with_reducible rfl
          rotate_left
          · simp only [Act.put, List.setIfInBounds_toArray, List.set_cons_zero, List.set_cons_succ, i64_w, i32_w]
            rfl
          refine take_ (i := 4) (N := some 31) (v := ?_) (a' := ?_) #[true, true, true, true, true, false, false, false, false, false, false] rfl rfl (by kernel_rfl) (fun _ _ _ h => h) (Or.inl ⟨by rfl, ?_⟩) hHeld ?_ ?_
          rotate_left
          · rintro w' hHeld'
            have hHeld'' := hHeld'
            (try obtain ⟨r0_, r1_⟩ := hHeld')
            (try obtain ⟨r1_, r2_⟩ := r1_)
            (try obtain ⟨r2_, r3_⟩ := r2_)
            (try obtain ⟨r3_, r4_⟩ := r3_)
            (try obtain ⟨r4_, r5_⟩ := r4_)
            (try obtain ⟨r5_, r6_⟩ := r5_)
            (try obtain ⟨r6_, r7_⟩ := r6_)
            (try obtain ⟨r7_, r8_⟩ := r7_)
            (try obtain ⟨r8_, r9_⟩ := r8_)
            go_simp
            with_reducible rfl
          rotate_left
          · simp only [Act.put, List.setIfInBounds_toArray, List.set_cons_zero, List.set_cons_succ, i64_w, i32_w]
            rfl
          refine pure_ (i := 5) (N := some 32) (v := ?_) (a' := ?_) #[true, true, true, true, true, true, false, false, false, false, false] rfl rfl (by kernel_rfl) (fun _ _ _ h => h) (Or.inl ⟨by rfl, ?_⟩) ?_ ?_
          rotate_left
          · intro w'
            go_simp
            with_reducible rfl
          rotate_left
          · simp only [Act.put, List.setIfInBounds_toArray, List.set_cons_zero, List.set_cons_succ, i64_w, i32_w]
            rfl
          refine pure_ (i := 6) (N := some 33) (v := ?_) (a' := ?_) #[true, true, true, true, true, true, true, false, false, false, false] rfl rfl (by kernel_rfl) (fun _ _ _ h => h) (Or.inl ⟨by rfl, ?_⟩) ?_ ?_
          rotate_left
          · intro w'
            go_simp
            with_reducible rfl
          rotate_left
          · simp only [Act.put, List.setIfInBounds_toArray, List.set_cons_zero, List.set_cons_succ, i64_w, i32_w]
            rfl
          refine take_ (i := 7) (N := some 34) (v := ?_) (a' := ?_) #[true, true, true, true, true, true, true, true, false, false, false] rfl rfl (by kernel_rfl) (fun _ _ _ h => h) (Or.inl ⟨by rfl, ?_⟩) hHeld ?_ ?_
          rotate_left
          · rintro w' hHeld'
            have hHeld'' := hHeld'
            (try obtain ⟨r0_, r1_⟩ := hHeld')
            (try obtain ⟨r1_, r2_⟩ := r1_)
            (try obtain ⟨r2_, r3_⟩ := r2_)
            (try obtain ⟨r3_, r4_⟩ := r3_)
            (try obtain ⟨r4_, r5_⟩ := r4_)
            (try obtain ⟨r5_, r6_⟩ := r5_)
            (try obtain ⟨r6_, r7_⟩ := r6_)
            (try obtain ⟨r7_, r8_⟩ := r7_)
            (try obtain ⟨r8_, r9_⟩ := r8_)
            go_simp
            with_reducible rfl
          rotate_left
          · simp only [Act.put, List.setIfInBounds_toArray, List.set_cons_zero, List.set_cons_succ, i64_w, i32_w]
            rfl
          refine pure_ (i := 8) (N := some 35) (v := ?_) (a' := ?_) #[true, true, true, true, true, true, true, true, true, false, false] rfl rfl (by kernel_rfl) (fun _ _ _ h => h) (Or.inl ⟨by rfl, ?_⟩) ?_ ?_
          rotate_left
          · intro w'
            go_simp
            with_reducible rfl
          rotate_left
          · simp only [Act.put, List.setIfInBounds_toArray, List.set_cons_zero, List.set_cons_succ, i64_w, i32_w]
            rfl
          refine pure_ (i := 9) (N := some 36) (v := ?_) (a' := ?_) #[true, true, true, true, true, true, true, true, true, true, false] rfl rfl (by kernel_rfl) (fun _ _ _ h => h) (Or.inl ⟨by rfl, ?_⟩) ?_ ?_
          rotate_left
          · intro w'
            go_simp
            with_reducible rfl
          rotate_left
          · simp only [Act.put, List.setIfInBounds_toArray, List.set_cons_zero, List.set_cons_succ, i64_w, i32_w]
            rfl
          refine last_ (i := 10) (N := none) #[true, true, true, true, true, true, true, true, true, true, true] rfl rfl (by kernel_rfl) (by decide) (fun K hSh => ?_)
          refine skip_ (w1 := (wr.setCell ⟨W4.heap.size, 0, none⟩ (.bool false)).drew) (by rfl) rfl (by go_simp) ?_
          refine hSh.out _ _ ?_
          refine done_ (by kernel_rfl) ?_
          clear hHeld
          go_wp2_with fail
          go_roundw
          case rel => exact ⟨k + 1, false, by omega, by go_num, HS.out, fun h => by cases h⟩
          case measure => simp [intOf]; omega
        · have g2 : (hx == q) = false := by simpa using he
          have g3 : (hx != q) = true := by simpa using he
          have HE := Lib.hid he
          clear he
          have HS := Lib.hid ((K6.out.set true).drewN 1)
          go_upto_region 8 with fail
          refine start_ (n := 11) (S := fun w' => w'.cell? ⟨W4.heap.size, 0, none⟩ = some (.bool true) ∧ w'.cell? ⟨w.heap.size, 0, none⟩ = some (.int .i64 hx) ∧ w'.cell? ⟨W2.heap.size, 6, none⟩ = some (.slice (some ⟨gh, 0, none⟩) [x.1, y.1].length c2) ∧ w'.cell? ⟨gh, k, none⟩ = some (.int .i64 q)) (ds := [10]) #[false, false, false, false, false, false, false, false, false, false, false] rfl rfl rfl (⟨r0, h0, y6, d0⟩) ?_
          intro hHeld
          refine take_ (i := 0) (N := some 27) (v := ?_) (a' := ?_) #[true, false, false, false, false, false, false, false, false, false, false] rfl rfl (by kernel_rfl) (fun _ _ _ h => h) (Or.inl ⟨by rfl, ?_⟩) hHeld ?_ ?_
          rotate_left
          · rintro w' hHeld'
            have hHeld'' := hHeld'
            (try obtain ⟨r0_, r1_⟩ := hHeld')
            (try obtain ⟨r1_, r2_⟩ := r1_)
            (try obtain ⟨r2_, r3_⟩ := r2_)
            (try obtain ⟨r3_, r4_⟩ := r3_)
            (try obtain ⟨r4_, r5_⟩ := r4_)
            (try obtain ⟨r5_, r6_⟩ := r5_)
            (try obtain ⟨r6_, r7_⟩ := r6_)
            (try obtain ⟨r7_, r8_⟩ := r7_)
            (try obtain ⟨r8_, r9_⟩ := r8_)
            go_simp
            with_reducible rfl
          rotate_left
          · simp only [Act.put, List.setIfInBounds_toArray, List.set_cons_zero, List.set_cons_succ, i64_w, i32_w]
            rfl
          refine pure_ (i := 1) (N := some 28) (v := ?_) (a' := ?_) #[true, true, false, false, false, false, false, false, false, false, false] rfl rfl (by kernel_rfl) (fun _ _ _ h => h) (Or.inl ⟨by rfl, ?_⟩) ?_ ?_
          rotate_left
          · intro w'
            go_simp
            with_reducible rfl
          rotate_left
          · simp only [Act.put, List.setIfInBounds_toArray, List.set_cons_zero, List.set_cons_succ, i64_w, i32_w]
            rfl
          refine take_ (i := 2) (N := some 29) (v := ?_) (a' := ?_) #[true, true, true, false, false, false, false, false, false, false, false] rfl rfl (by kernel_rfl) (fun _ _ _ h => h) (Or.inl ⟨by rfl, ?_⟩) hHeld ?_ ?_
          rotate_left
          · rintro w' hHeld'
            have hHeld'' := hHeld'
            (try obtain ⟨r0_, r1_⟩ := hHeld')
            (try obtain ⟨r1_, r2_⟩ := r1_)
            (try obtain ⟨r2_, r3_⟩ := r2_)
            (try obtain ⟨r3_, r4_⟩ := r3_)
            (try obtain ⟨r4_, r5_⟩ := r4_)
            (try obtain ⟨r5_, r6_⟩ := r5_)
            (try obtain ⟨r6_, r7_⟩ := r6_)
            (try obtain ⟨r7_, r8_⟩ := r7_)
            (try obtain ⟨r8_, r9_⟩ := r8_)
            go_simp
            with_reducible rfl
          rotate_left
          · simp only [Act.put, List.setIfInBounds_toArray, List.set_cons_zero, List.set_cons_succ, i64_w, i32_w]
            rfl
          refine pure_ (i := 3) (N := some 30) (v := ?_) (a' := ?_) #[true, true, true, true, false, false, false, false, false, false, false] rfl rfl (by kernel_rfl) (fun _ _ _ h => h) (Or.inl ⟨by rfl, ?_⟩) ?_ ?_
          rotate_left
          · intro w'
            go_simp
            with_reducible rfl
          rotate_left
          · simp only [Act.put, List.setIfInBounds_toArray, List.set_cons_zero, List.set_cons_succ, i64_w, i32_w]
            rfl
          refine take_ (i := 4) (N := some 31) (v := ?_) (a' := ?_) #[true, true, true, true, true, false, false, false, false, false, false] rfl rfl (by kernel_rfl) (fun _ _ _ h => h) (Or.inl ⟨by rfl, ?_⟩) hHeld ?_ ?_
          rotate_left
          · rintro w' hHeld'
            have hHeld'' := hHeld'
            (try obtain ⟨r0_, r1_⟩ := hHeld')
            (try obtain ⟨r1_, r2_⟩ := r1_)
            (try obtain ⟨r2_, r3_⟩ := r2_)
            (try obtain ⟨r3_, r4_⟩ := r3_)
            (try obtain ⟨r4_, r5_⟩ := r4_)
            (try obtain ⟨r5_, r6_⟩ := r5_)
            (try obtain ⟨r6_, r7_⟩ := r6_)
            (try obtain ⟨r7_, r8_⟩ := r7_)
            (try obtain ⟨r8_, r9_⟩ := r8_)
            go_simp
            with_reducible rfl
          rotate_left
          · simp only [Act.put, List.setIfInBounds_toArray, List.set_cons_zero, List.set_cons_succ, i64_w, i32_w]
            rfl
          refine pure_ (i := 5) (N := some 32) (v := ?_) (a' := ?_) #[true, true, true, true, true, true, false, false, false, false, false] rfl rfl (by kernel_rfl) (fun _ _ _ h => h) (Or.inl ⟨by rfl, ?_⟩) ?_ ?_
          rotate_left
          · intro w'
            go_simp
            with_reducible rfl
          rotate_left
          · simp only [Act.put, List.setIfInBounds_toArray, List.set_cons_zero, List.set_cons_succ, i64_w, i32_w]
            rfl
          refine pure_ (i := 6) (N := some 33) (v := ?_) (a' := ?_) #[true, true, true, true, true, true, true, false, false, false, false] rfl rfl (by kernel_rfl) (fun _ _ _ h => h) (Or.inl ⟨by rfl, ?_⟩) ?_ ?_
          rotate_left
          · intro w'
            go_simp
            with_reducible rfl
          rotate_left
          · simp only [Act.put, List.setIfInBounds_toArray, List.set_cons_zero, List.set_cons_succ, i64_w, i32_w]
            rfl
          refine take_ (i := 7) (N := some 34) (v := ?_) (a' := ?_) #[true, true, true, true, true, true, true, true, false, false, false] rfl rfl (by kernel_rfl) (fun _ _ _ h => h) (Or.inl ⟨by rfl, ?_⟩) hHeld ?_ ?_
          rotate_left
          · rintro w' hHeld'
            have hHeld'' := hHeld'
            (try obtain ⟨r0_, r1_⟩ := hHeld')
            (try obtain ⟨r1_, r2_⟩ := r1_)
            (try obtain ⟨r2_, r3_⟩ := r2_)
            (try obtain ⟨r3_, r4_⟩ := r3_)
            (try obtain ⟨r4_, r5_⟩ := r4_)
            (try obtain ⟨r5_, r6_⟩ := r5_)
            (try obtain ⟨r6_, r7_⟩ := r6_)
            (try obtain ⟨r7_, r8_⟩ := r7_)
            (try obtain ⟨r8_, r9_⟩ := r8_)
            go_simp
            with_reducible rfl
          rotate_left
          · simp only [Act.put, List.setIfInBounds_toArray, List.set_cons_zero, List.set_cons_succ, i64_w, i32_w]
            rfl
          refine pure_ (i := 8) (N := some 35) (v := ?_) (a' := ?_) #[true, true, true, true, true, true, true, true, true, false, false] rfl rfl (by kernel_rfl) (fun _ _ _ h => h) (Or.inl ⟨by rfl, ?_⟩) ?_ ?_
          rotate_left
          · intro w'
            go_simp
            with_reducible rfl
          rotate_left
          · simp only [Act.put, List.setIfInBounds_toArray, List.set_cons_zero, List.set_cons_succ, i64_w, i32_w]
            rfl
          refine pure_ (i := 9) (N := some 36) (v := ?_) (a' := ?_) #[true, true, true, true, true, true, true, true, true, true, false] rfl rfl (by kernel_rfl) (fun _ _ _ h => h) (Or.inl ⟨by rfl, ?_⟩) ?_ ?_
          rotate_left
          · intro w'
            go_simp
            with_reducible rfl
          rotate_left
          · simp only [Act.put, List.setIfInBounds_toArray, List.set_cons_zero, List.set_cons_succ, i64_w, i32_w]
            rfl
          refine last_ (i := 10) (N := none) #[true, true, true, true, true, true, true, true, true, true, true] rfl rfl (by kernel_rfl) (by decide) (fun K hSh => ?_)
          refine skip_ (w1 := (wr.setCell ⟨W4.heap.size, 0, none⟩ (.bool true)).drew) (by rfl) rfl (by go_simp) ?_
          refine hSh.out _ _ ?_
          refine done_ (by kernel_rfl) ?_
          clear hHeld
          go_wp2_with fail
          go_roundw
          case rel => exact ⟨k + 1, true, by omega, by go_num, HS.out, fun _ => by rw [HG.out]; simp only [List.mem_append, List.mem_singleton, not_or]; exact ⟨HR.out rfl, HE.out⟩⟩
          case measure => simp [intOf]; omega
      · subst hT
        have HS := Lib.hid ((K6.out.set false).drewN 1)
        go_upto_region 8 with fail
        refine start_ (n := 11) (S := fun w' => w'.cell? ⟨W4.heap.size, 0, none⟩ = some (.bool false) ∧ w'.cell? ⟨w.heap.size, 0, none⟩ = some (.int .i64 hx) ∧ w'.cell? ⟨W2.heap.size, 6, none⟩ = some (.slice (some ⟨gh, 0, none⟩) [x.1, y.1].length c2) ∧ w'.cell? ⟨gh, k, none⟩ = some (.int .i64 q)) (ds := [10]) #[false, false, false, false, false, false, false, false, false, false, false] rfl rfl rfl (⟨r0, h0, y6, d0⟩) ?_
        intro hHeld
        refine take_ (i := 0) (N := some 27) (v := ?_) (a' := ?_) #[true, false, false, false, false, false, false, false, false, false, false] rfl rfl (by kernel_rfl) (fun _ _ _ h => h) (Or.inl ⟨by rfl, ?_⟩) hHeld ?_ ?_
        rotate_left
        · rintro w' hHeld'
          have hHeld'' := hHeld'
          (try obtain ⟨r0_, r1_⟩ := hHeld')
          (try obtain ⟨r1_, r2_⟩ := r1_)
          (try obtain ⟨r2_, r3_⟩ := r2_)
          (try obtain ⟨r3_, r4_⟩ := r3_)
          (try obtain ⟨r4_, r5_⟩ := r4_)
          (try obtain ⟨r5_, r6_⟩ := r5_)
          (try obtain ⟨r6_, r7_⟩ := r6_)
          (try obtain ⟨r7_, r8_⟩ := r7_)
          (try obtain ⟨r8_, r9_⟩ := r8_)
          go_simp
          with_reducible rfl
        rotate_left
        · simp only [Act.put, List.setIfInBounds_toArray, List.set_cons_zero, List.set_cons_succ, i64_w, i32_w]
          rfl
        refine pure_ (i := 1) (N := some 28) (v := ?_) (a' := ?_) #[true, true, false, false, false, false, false, false, false, false, false] rfl rfl (by kernel_rfl) (fun _ _ _ h => h) (Or.inl ⟨by rfl, ?_⟩) ?_ ?_
        rotate_left
        · intro w'
          go_simp
          with_reducible rfl
        rotate_left
        · simp only [Act.put, List.setIfInBounds_toArray, List.set_cons_zero, List.set_cons_succ, i64_w, i32_w]
          rfl
        refine pure_ (i := 2) (N := some 29) (v := undef) #[true, true, true, false, false, false, false, false, false, false, false] rfl rfl (by kernel_rfl) (fun _ _ _ h => h) (Or.inr ⟨by rfl, rfl⟩) rfl ?_
        refine norm_ (a' := ?_) ?_ ?_
        rotate_left
        · simp only [Act.put, List.setIfInBounds_toArray, List.set_cons_zero, List.set_cons_succ, i64_w, i32_w]
          rfl
        refine pure_ (i := 3) (N := some 30) (v := undef) #[true, true, true, true, false, false, false, false, false, false, false] rfl rfl (by kernel_rfl) (fun _ _ _ h => h) (Or.inr ⟨by rfl, rfl⟩) rfl ?_
        refine norm_ (a' := ?_) ?_ ?_
        rotate_left
        · simp only [Act.put, List.setIfInBounds_toArray, List.set_cons_zero, List.set_cons_succ, i64_w, i32_w]
          rfl
        refine pure_ (i := 4) (N := some 31) (v := undef) #[true, true, true, true, true, false, false, false, false, false, false] rfl rfl (by kernel_rfl) (fun _ _ _ h => h) (Or.inr ⟨by rfl, rfl⟩) rfl ?_
        refine norm_ (a' := ?_) ?_ ?_
        rotate_left
        · simp only [Act.put, List.setIfInBounds_toArray, List.set_cons_zero, List.set_cons_succ, i64_w, i32_w]
          rfl
        refine pure_ (i := 5) (N := some 32) (v := undef) #[true, true, true, true, true, true, false, false, false, false, false] rfl rfl (by kernel_rfl) (fun _ _ _ h => h) (Or.inr ⟨by rfl, rfl⟩) rfl ?_
        refine norm_ (a' := ?_) ?_ ?_
        rotate_left
        · simp only [Act.put, List.setIfInBounds_toArray, List.set_cons_zero, List.set_cons_succ, i64_w, i32_w]
          rfl
        refine pure_ (i := 6) (N := some 33) (v := undef) #[true, true, true, true, true, true, true, false, false, false, false] rfl rfl (by kernel_rfl) (fun _ _ _ h => h) (Or.inr ⟨by rfl, rfl⟩) rfl ?_
        refine norm_ (a' := ?_) ?_ ?_
        rotate_left
        · simp only [Act.put, List.setIfInBounds_toArray, List.set_cons_zero, List.set_cons_succ, i64_w, i32_w]
          rfl
        refine pure_ (i := 7) (N := some 34) (v := undef) #[true, true, true, true, true, true, true, true, false, false, false] rfl rfl (by kernel_rfl) (fun _ _ _ h => h) (Or.inr ⟨by rfl, rfl⟩) rfl ?_
        refine norm_ (a' := ?_) ?_ ?_
        rotate_left
        · simp only [Act.put, List.setIfInBounds_toArray, List.set_cons_zero, List.set_cons_succ, i64_w, i32_w]
          rfl
        refine pure_ (i := 8) (N := some 35) (v := undef) #[true, true, true, true, true, true, true, true, true, false, false] rfl rfl (by kernel_rfl) (fun _ _ _ h => h) (Or.inr ⟨by rfl, rfl⟩) rfl ?_
        refine norm_ (a' := ?_) ?_ ?_
        rotate_left
        · simp only [Act.put, List.setIfInBounds_toArray, List.set_cons_zero, List.set_cons_succ, i64_w, i32_w]
          rfl
        refine pure_ (i := 9) (N := some 36) (v := ?_) (a' := ?_) #[true, true, true, true, true, true, true, true, true, true, false] rfl rfl (by kernel_rfl) (fun _ _ _ h => h) (Or.inl ⟨by rfl, ?_⟩) ?_ ?_
        rotate_left
        · intro w'
          go_simp
          with_reducible rfl
        rotate_left
        · simp only [Act.put, List.setIfInBounds_toArray, List.set_cons_zero, List.set_cons_succ, i64_w, i32_w]
          rfl
        refine last_ (i := 10) (N := none) #[true, true, true, true, true, true, true, true, true, true, true] rfl rfl (by kernel_rfl) (by decide) (fun K hSh => ?_)
        refine skip_ (w1 := (wr.setCell ⟨W4.heap.size, 0, none⟩ (.bool false)).drew) (by rfl) rfl (by go_simp) ?_
        refine hSh.out _ _ ?_
        refine done_ (by kernel_rfl) ?_
        clear hHeld
        go_wp2_with fail
        go_roundw
        case rel => exact ⟨k + 1, false, by omega, by go_num, HS.out, fun h => by cases h⟩
        case measure => simp [intOf]; omega
    · have g1 : decide (k < 2) = false := decide_eq_false hlt
      have hk2 : k = 2 := by omega
      have hraw : r = true → hx ∉ [x.1, y.1] := fun h => by
        have := hr h
        rw [hk2] at this
        exact this
      clear hr HR
      have hA6 := hK.A.alloc (port0 mb)
      have hP6 : PD (wr.alloc (port0 mb)) wr.heap.size mb := blk_new _ _
      have hbp : Below wr.heap.size wr (wr.alloc (port0 mb)) := below_alloc (Below.refl _ _) _
      have kyp := blk_below hK.ky hbp
      rw [HYV.out] at kyp
      have HD := Lib.hid (do3_calls (mb := mb) (fun args W => enters_ Try.func37 (by kernel_rfl) rfl args W) ((NodeKinds_fn (St.refl hA6 hP6) HY.out hraw kyp (blk_below hK.kh hbp) (blk_below hK.kr hbp) (hK.O.below hbp))))
      have hmf := makeFunc_run
      have hta := ta_bool true
      clear hA6 hP6 hbp hraw kyp hK kyf
      go_wp2_with fail
      refine HD.out.mono ?_
      rintro e W7 ⟨rfl, hF, m', hlk, hS7⟩
      have hF7 := (Fr.of_below (below_alloc (Below.refl wr.heap.size wr) (port0 mb)) mb cb).trans hF
      have ky7 := hF7.blk K6.out.A K6.out.ky (by decide) (by decide)
      have hP17 := K6.out.O1.fr K6.out.A hF7
      have hC := HY.out.row.C
      have hft := fits_calls (H := H) (low := ⟨#[107]⟩) (hs := [x.1, y.1]) (A1 := A1) (A2 := some ⟨gh, 0, none⟩) (AN := AN) (c1 := c1) (c2 := c2) (nN := 2) (kN := kN) (n := 2) hS7.A (hlk.val HY.out.nd.w0) (hC.cells hlk.1) (by rw [HVN.out]; simp) (by rw [HVN.out]; omega) hP17 (by simp) (fun j hj => by rw [HY.out.vl])
      have HFT := Lib.hid hft
      have hsw := K6.out.hB.size
      have HBF := Lib.hid (hF7.over K6.out.hB hsw (by omega) (by omega))
      rw [HYV.out] at ky7
      clear y0 y1 y2 y3 y4 y5 y6 hF7 hF HD hft hS7 hP17 hC hlk h0 r0 zr
      obtain ⟨y0, y1, y2, y3, y4, y5, y6⟩ := box7 ky7
      go_wp2_with fail
      refine HFT.out.mono ?_
      rintro e W8 ⟨rfl, hF8⟩
      have HBG := Lib.hid (hF8.over HBF.out HBF.out.size (by omega) (by omega))
      clear hF8 HFT
      go_wp2_with fail
      go_ret
      exact ⟨rfl, HBG.out⟩
end
end Go.Proofs.Ytcfbjcadpcedhaa.Mem
