/- NodeChains, by hand: of any chain At tells the newest age that isn't newer than a version; Newest tells the newest one. -/
import Derived.Test.YtcfbjcadpcedhaaNChains0
import Derived.BigQuiet
namespace Go.Proofs.Ytcfbjcadpcedhaa.Mem
open Go.RowKit Go.Proofs.YtcfbjcadpcedhaaW.PrintWords Go.Proofs.YtcfbjcadpcedhaaW.PrintLast Go.Proofs.Ytcfbjcadpcedhaa.Tags
set_option linter.unusedVariables false
set_option linter.unusedSimpArgs false
section
variable {w0 w w' : World} {pb mb cb : Nat} {m m' : M}
set_option maxHeartbeats 6400000 in
set_option maxRecDepth 100000 in
theorem NodeChains_fn (h : St w0 w pb mb cb m) {rs : List Int} {z H t0 t1 t2 ver : Int} {l : List (Int × Ag)} {vs hs : List Int} {A1 A2 AN : Option Addr} {c1 c2 kN by_ bv : Nat} (hrl : 1 ≤ rs.length ∧ rs.length ≤ 40) (hy : Yd16 m rs z H t0 t1 t2 l vs hs AN kN) (ky : w.heap[by_]? = some (.cells (yardV mb H ⟨#[107]⟩ t0 (.slice AN 2 kN) (.slice A1 vs.length c1) (.slice A2 hs.length c2)) 48 (0, 0)))
    (kv : w.heap[bv]? = some (.cells #[.int .i64 ver] 3 (0, 0))) {B : Nat} (hO1 : OwnI w B (.slice A1 vs.length c1) vs) (hO2 : OwnI w B (.slice A2 hs.length c2) hs) :
    Calls Try.prog 20 #[ptr pb, .pointer (some ⟨by_, 0, none⟩), .pointer (some ⟨bv, 0, none⟩)] w fun e w' => e = .returned (.iface 4 (.bool true)) ∧ Fr w w' mb cb := by
  have hC := hy.row.C
  have hw := hy.nd.w0
  have hvl := hy.vl
  have hhl := hy.hl
  have hdd := hy.dd
  have hvn : vs.length = rs.length := by rw [hvl, List.length_map, hy.len]
  have hhn : hs.length = rs.length := by rw [hhl, List.length_map, hy.len]
  have hv1 : 1 ≤ vs.length ∧ vs.length ≤ 40 := by omega
  have hh1 : 1 ≤ hs.length ∧ hs.length ≤ 40 := by omega
  obtain ⟨a, l', rfl⟩ : ∃ a l', l = (z, a) :: l' := by
    have hl := hy.len
    match l, hl, hC with
    | [], hl, _ => simp at hl; omega
    | (x, a) :: l', _, hC => exact ⟨a, l', by rw [hC.1]⟩
  have hza := hC.2.2.1
  have hvz : vs.getD 0 0 = a.ver := by rw [hvl]; rfl
  have hhz : hs.getD 0 0 = z := by rw [hhl]; rfl
  obtain ⟨L, hL⟩ : ∃ L, (z, a) :: l' = L := ⟨_, rfl⟩
  rw [hL] at hC hvl hdd
  have HVL := Lib.hid hvl
  have HDD := Lib.hid hdd
  have HL := Lib.hid hL
  clear hvn hhn hy hrl hhl hvl hdd hL
  obtain ⟨y0, y1, y2, y3, y4, y5, y6⟩ := box7 ky
  go_enter Try.func20, Try.ntmps20
  go_wp2_with fail
  refine (newest_ok h ⟨⟨#[107]⟩, t0, AN, 2, kN⟩ (a := a) (word_val hw) (fun W hW => take_ok hW (by rw [tick_val]; exact hza))).mono ?_
  rintro e W1 ⟨rfl, h1, hF1⟩
  have ky1 := hF1.blk h.A ky (by decide) (by decide)
  have kv1 := hF1.blk h.A kv (by decide) (by decide)
  have hO11 := hO1.fr h.A hF1
  have hO21 := hO2.fr h.A hF1
  obtain ⟨W2, hW2⟩ : ∃ W2 : World, W2 = W1.alloc (ageC a) := ⟨_, rfl⟩
  have hb2 : Below W1.heap.size W1 W2 := hW2 ▸ below_alloc (Below.refl _ _) _
  have kx := (show W2.heap[W1.heap.size]? = some (.cells #[.int .i64 a.ver, .int .i64 0, .string ⟨#[]⟩, .string ⟨#[]⟩, .bool false, .bool a.dead, .slice none 0 0, .slice none 0 0, .slice none 0 0, .slice none 0 0, .int .i64 a.prev] 52 (0, 0)) from hW2 ▸ blk_new _ _)
  have h2 := h1.below hb2
  have ky2 := blk_below ky1 hb2
  have kv2 := blk_below kv1 hb2
  have hO12 := hO11.below hb2
  have hO22 := hO21.below hb2
  have HF2 := Lib.hid (hF1.trans (Fr.of_below hb2 mb cb))
  have HW2 := Lib.hid hW2
  have hC2 : Chain m.tick.tick z L := hC.cells rfl
  have hw2 : m.tick.tick.val t0 = some (number z) := by rw [tick_val, tick_val]; exact hw
  clear hW2 hb2 h1 ky1 kv1 hO11 hO21 hF1 ky kv h hO1 hO2 hw hC hza y0 y1 y2 y3 y4 y5 y6
  go_upto_region 2 with fail
  rw [← HW2.out]
  clear HW2
  obtain ⟨y0, y1, y2, y3, y4, y5, y6⟩ := box7 ky2
  have v0 := box1 kv2
  go_wp2_with fail
  refine (at_ok h2 ⟨⟨#[107]⟩, t0, AN, 2, kN⟩ ver hw2 hC2).mono ?_
  rintro e W3 ⟨m3, hlk, h3, hF3, hres⟩
  have ky3 := hF3.blk h2.A ky2 (by decide) (by decide)
  have kx3 := hF3.blk h2.A kx (by decide) (by decide)
  have kv3 := hF3.blk h2.A kv2 (by decide) (by decide)
  have hO13 := hO12.fr h2.A hF3
  have hO23 := hO22.fr h2.A hF3
  have HF3 := Lib.hid (HF2.out.trans hF3)
  clear ky2 kv2 kx hO12 hO22 hF3 h2 hC2 hw2 y0 y1 y2 y3 y4 y5 y6 v0 hlk
  obtain ⟨b, has, rfl, hcase⟩ : ∃ (b : Ag) (has : Bool), e = .returned (.tuple #[b.v, .bool has, .int .i64 0]) ∧ ((has = false ∧ ∀ r, RefAt vs ver r → r = -1) ∨ (has = true ∧ b.dead = true ∧ ∃ k : Nat, k < vs.length ∧ vs.getD k 0 = b.ver ∧ ∀ r, RefAt vs ver r → r = (k : Int))) := by
    rcases hres with ⟨hall, rfl⟩ | ⟨l1, x, l2, hll, hno, hle, rfl⟩
    · refine ⟨Ag.z, false, rfl, Or.inl ⟨rfl, fun r hr => hr.none fun x hx => ?_⟩⟩
      rw [HVL.out] at hx
      obtain ⟨q, hq, rfl⟩ := List.mem_map.1 hx
      exact hall q hq
    · have hv : vs = vers l1 ++ x.2.ver :: vers l2 := by rw [HVL.out, hll]; simp [vers]
      refine ⟨x.2, true, rfl, Or.inr ⟨rfl, HDD.out x (by rw [hll]; simp), l1.length, by rw [hv]; simp [vers], by rw [hv, List.getD_eq_getElem?_getD, List.getElem?_append_right (by simp [vers])]; simp [vers], fun r hr => ?_⟩⟩
      rw [hv] at hr
      have := hr.first (fun y hy => by
        obtain ⟨q, hq, rfl⟩ := List.mem_map.1 hy
        exact hno q hq) hle
      rw [this]
      simp [vers]
  clear hres
  obtain ⟨W4, hW4⟩ : ∃ W4 : World, W4 = W3.alloc (ageC b) := ⟨_, rfl⟩
  have hb4 : Below W3.heap.size W3 W4 := hW4 ▸ below_alloc (Below.refl _ _) _
  have kb := (show W4.heap[W3.heap.size]? = some (.cells #[.int .i64 b.ver, .int .i64 0, .string ⟨#[]⟩, .string ⟨#[]⟩, .bool false, .bool b.dead, .slice none 0 0, .slice none 0 0, .slice none 0 0, .slice none 0 0, .int .i64 b.prev] 52 (0, 0)) from hW4 ▸ blk_new _ _)
  have ky4 := blk_below ky3 hb4
  have kx4 := blk_below kx3 hb4
  have kv4 := blk_below kv3 hb4
  have hO14 := hO13.below hb4
  have hO24 := hO23.below hb4
  have HF4 := Lib.hid (HF3.out.trans (Fr.of_below hb4 mb cb))
  have HW4 := Lib.hid hW4
  have HC := Lib.hid hcase
  clear hW4 hb4 ky3 kx3 kv3 hO13 hO23 HF3 HF2 h3 hcase
  go_upto_region 3 with fail
  rw [← HW4.out]
  clear HW4
  obtain ⟨y0, y1, y2, y3, y4, y5, y6⟩ := box7 ky4
  have v0 := box1 kv4
  go_wp2_with fail
  refine (refAt_calls (hO14.rd (by omega)) (by omega) ver).mono ?_
  rintro e w5 ⟨r, rfl, hr, rfl⟩
  obtain ⟨gv, egv, -⟩ := hO14.cell 0 (by omega)
  obtain ⟨gh, egh, -⟩ := hO24.cell 0 (by omega)
  subst egv egh
  have d1 := hO14.cell_at (j := 0) (by omega)
  have d2 := hO24.cell_at (j := 0) (by omega)
  rw [hvz] at d1
  rw [hhz] at d2
  obtain ⟨x0, x1, x2, x3, x4, x5, x6, x7, x8, x9, x10⟩ := box11 kx4
  obtain ⟨b0, b1, b2, b3, b4, b5, b6, b7, b8, b9, b10⟩ := box11 kb
  have HR := Lib.hid hr
  have iv : 0 < vs.length := by omega
  have ih : 0 < hs.length := by omega
  have iv2 : (0 : Int) < (vs.length : Int) := by omega
  have ih2 : (0 : Int) < (hs.length : Int) := by omega
  have iv3 : decide (0 < vs.length) = true := decide_eq_true iv
  have ih3 : decide (0 < hs.length) = true := decide_eq_true ih
  clear hr kx4 kb ky4 kv4 hvz hhz
  rcases HC.out with ⟨rfl, hall⟩ | ⟨rfl, hbd, k, hk, hkv, hrk⟩
  · obtain rfl := hall _ HR.out
    clear hall HC HR
    go_upto_region 4 with fail
    go_quiet (fail)
    go_upto_region 6 with fail
    go_quiet (fail)
    go_wp2_with fail
    go_ret
    exact ⟨rfl, (HF4.out.drewN _).drewN _⟩
  · obtain rfl := hrk _ HR.out
    have d3 := hO14.cell_at hk
    rw [hkv] at d3
    rw [hbd] at b5
    have g1 : decide ((k : Int) ≥ 0) = true := decide_eq_true (by omega)
    have g2 : decide (k < vs.length) = true := decide_eq_true hk
    clear hkv hrk HC HR
    go_upto_region 4 with fail
    go_quiet (fail)
    go_upto_region 6 with fail
    go_quiet (fail)
    go_wp2_with fail
    go_ret
    exact ⟨rfl, (HF4.out.drewN _).drewN _⟩
set_option maxHeartbeats 3200000 in
set_option maxRecDepth 100000 in
theorem NodeChains_short (A : Option Addr) (cap : Nat) (l : List Int) (hl : l.length < 1 ∨ 40 < l.length) (v : Int) (w : World) :
    Calls Try.prog 4 #[.slice A l.length cap, .int .i64 v] w fun e w' => e = .returned (.bool true) ∧ Below w.heap.size w w' := by
  obtain ⟨W1, hW1⟩ : ∃ W1 : World, W1 = w.alloc (.cells #[.int .i64 v] 3) := ⟨_, rfl⟩
  have hB1 : Below w.heap.size w W1 := hW1 ▸ below_alloc (Below.refl _ _) _
  have HW1 := Lib.hid hW1
  clear hW1
  go_enter Try.func4, Try.ntmps4
  go_upto_region 1 with fail
  rw [← HW1.out]
  clear HW1
  go_wp2_with fail
  refine (nawake_calls W1).mono ?_
  rintro e W2 ⟨rfl, hB2⟩
  have HB2 := Lib.hid (below_then hB1 hB1.size hB2)
  clear hB1 hB2
  by_cases h1 : l.length < 1
  · have e0 : l.length = 0 := by omega
    rw [e0]
    go_wp2_with fail
    refine (nawake_calls W2).mono ?_
    rintro e W3 ⟨rfl, hB3⟩
    have HB3 := Lib.hid (below_then HB2.out HB2.out.size hB3)
    clear hB3
    go_wp2_with fail
    go_ret
    exact ⟨rfl, HB3.out⟩
  · have g1 : decide (l.length < 1) = false := decide_eq_false h1
    have g2 : decide (40 < l.length) = true := decide_eq_true (by omega)
    have g0 : decide (l.length = 0) = false := decide_eq_false (by omega)
    go_wp2_with fail
    refine (nawake_calls W2).mono ?_
    rintro e W3 ⟨rfl, hB3⟩
    have HB3 := Lib.hid (below_then HB2.out HB2.out.size hB3)
    clear hB3
    go_wp2_with fail
    go_ret
    exact ⟨rfl, HB3.out⟩
set_option maxHeartbeats 6400000 in
set_option maxRecDepth 100000 in
theorem NodeChains_main (A : Option Addr) (cap : Nat) (l : List Int) (hl : 1 ≤ l.length ∧ l.length ≤ 40) (v : Int) (w : World) (hR : U8 w A l) (hr8 : ∀ r ∈ l, 0 ≤ r ∧ r ≤ 255) :
    Calls Try.prog 4 #[.slice A l.length cap, .int .i64 v] w fun e w' => e = .returned (.bool true) ∧ Below w.heap.size w w' := by
  have g1 : decide (l.length < 1) = false := decide_eq_false (by omega)
  have g2 : decide (40 < l.length) = false := decide_eq_false (by omega)
  have g0 : decide (l.length = 0) = false := decide_eq_false (by omega)
  obtain ⟨W1, hW1⟩ : ∃ W1 : World, W1 = w.alloc (.cells #[.int .i64 v] 3) := ⟨_, rfl⟩
  have hB1 : Below w.heap.size w W1 := hW1 ▸ below_alloc (Below.refl _ _) _
  have k1 : W1.heap[w.heap.size]? = some (.cells #[.int .i64 v] 3 (0, 0)) := hW1 ▸ blk_new _ _
  have hR1 := hR.below hB1
  have HW1 := Lib.hid hW1
  have HR8 := Lib.hid hr8
  clear hW1 hR hr8
  go_enter Try.func4, Try.ntmps4
  go_upto_region 1 with fail
  rw [← HW1.out]
  clear HW1
  go_wp2_with fail
  refine (nawake_calls W1).mono ?_
  rintro e W2 ⟨rfl, hB2⟩
  have k2 := blk_below k1 hB2
  have HR2 := Lib.hid (hR1.below hB2)
  have HB2 := Lib.hid (below_then hB1 hB1.size hB2)
  clear hB1 hB2 k1 hR1
  go_wp2_with fail
  refine (nlay_calls (cr := cap) (by omega) HR8.out HR2.out).mono ?_
  rintro e W3 ⟨mb, cb, m, z, H, t0, t1, t2, L, vs, hs, A1, A2, AN, c1, c2, kN, rfl, hy, hA, hO1, hO2, hRN, hB3, hmb, hcb⟩
  have k3 := blk_below k2 hB3
  obtain ⟨W4, hW4⟩ : ∃ W4 : World, W4 = W3.alloc (.cells (yardV mb H ⟨#[107]⟩ t0 (.slice AN 2 kN) (.slice A1 vs.length c1) (.slice A2 hs.length c2)) 48) := ⟨_, rfl⟩
  have hb4 : Below W3.heap.size W3 W4 := hW4 ▸ below_alloc (Below.refl _ _) _
  have ky : W4.heap[W3.heap.size]? = some (.cells (yardV mb H ⟨#[107]⟩ t0 (.slice AN 2 kN) (.slice A1 vs.length c1) (.slice A2 hs.length c2)) 48 (0, 0)) := hW4 ▸ blk_new _ _
  have k4 := blk_below k3 hb4
  have hA4 := hA.below hb4
  have hP1 := hO1.below hb4
  have hP2 := hO2.below hb4
  have hsz := HB2.out.size
  have HB4 := Lib.hid (below_then (below_then HB2.out HB2.out.size hB3) (by have := hB3.size; omega) hb4)
  have HW4 := Lib.hid hW4
  clear hW4 hb4 hB3 hA hO1 hO2 hRN k2 k3
  have hA5 := hA4.alloc (port0 mb)
  have hP5 : PD (W4.alloc (port0 mb)) W4.heap.size mb := blk_new _ _
  have hbp : Below W4.heap.size W4 (W4.alloc (port0 mb)) := below_alloc (Below.refl _ _) _
  have HD := Lib.hid (do2_calls (mb := mb) (fun args W => enters_ Try.func20 (by kernel_rfl) rfl args W) (NodeChains_fn (St.refl hA5 hP5) hl hy (blk_below ky hbp) (blk_below k4 hbp) (hP1.below hbp) (hP2.below hbp)))
  have hmf := makeFunc_run
  have hta := ta_bool true
  obtain ⟨y0, y1, y2, y3, y4, y5, y6⟩ := box7 ky
  clear hA4 hA5 hP5 hbp hy hP1 hP2 k4 ky
  go_upto_region 4 with fail
  rw [← HW4.out]
  clear HW4
  go_wp2_with fail
  refine HD.out.mono ?_
  rintro e W5 ⟨rfl, hF⟩
  have hF5 := (Fr.of_below (below_alloc (Below.refl W4.heap.size W4) (port0 mb)) mb cb).trans hF
  have HBF := Lib.hid (hF5.over HB4.out HB4.out.size (by omega) (by omega))
  clear hF5 hF y0 y1 y2 y3 y4 y5 y6 HD
  go_wp2_with fail
  go_ret
  exact ⟨rfl, HBF.out⟩
theorem u8_row {A : Option Addr} {l : List Int} (h : (Kd.int .u8).C w A l.length l) : U8 w A l := ⟨rfl, h.2.1, fun hn => by
  obtain ⟨ad, _, e, _⟩ := ReadsRow.get_ h 0 0 (Int.le_refl _) (by omega)
  refine ⟨ad, e, fun j hj => ?_⟩
  obtain ⟨ad2, c, e2, _, hk, hc⟩ := ReadsRow.get_ h 0 (j : Int) (by omega) (by omega)
  rw [e] at e2
  injection e2 with e2
  subst e2
  have hk' : c = [.int .u8 (l.getD j 0)] := hk
  subst hk'
  have := hc 0 _ rfl
  rw [show (j : Int).toNat * (Kd.int .u8).sz + 0 = j by show (j : Int).toNat * 1 + 0 = j; omega] at this
  exact this⟩
theorem u8_oks {l : List Int} (h : ∀ n ∈ l, (Lit.int .u8 n).wf = true) : ∀ r ∈ l, 0 ≤ r ∧ r ≤ 255 := fun r hr => by
  simpa [Lit.wf, IntKind.min, IntKind.max, IntKind.signed, IntKind.bits] using h r hr
theorem NodeChains_walk (A : Option Addr) (cap : Nat) (l : List Int) (v : Int) (w : World) (hR : (Kd.int .u8).C w A l.length l) (hok : ∀ n ∈ l, (Lit.int .u8 n).wf = true) :
    Calls Try.prog 4 #[.slice A l.length cap, .int .i64 v] w fun e w' => e = .returned (.bool true) ∧ Below w.heap.size w w' := by
  by_cases h : l.length < 1 ∨ 40 < l.length
  · exact NodeChains_short A cap l h v w
  · exact NodeChains_main A cap l (by omega) v w (u8_row hR) (u8_oks hok)
end
end Go.Proofs.Ytcfbjcadpcedhaa.Mem
