/- NodeCuts, by hand: a cut tells the cells of all ages behind the newest one that isn't newer than a version; a second cut tells nothing. -/
import Derived.Test.YtcfbjcadpcedhaaNCuts0
namespace Go.Proofs.Ytcfbjcadpcedhaa.Mem
open Go.RowKit Go.Proofs.YtcfbjcadpcedhaaW.PrintWords Go.Proofs.YtcfbjcadpcedhaaW.PrintLast Go.Proofs.Ytcfbjcadpcedhaa.Tags
set_option linter.unusedVariables false
set_option linter.unusedSimpArgs false
section
variable {w0 w w' : World} {pb mb cb : Nat} {m m' m1 m2 : M}
/-- What holds between two rounds of the closure. -/
def CutAt (w0 wr w : World) (pb mb cb b1 B by_ bn q2 : Nat) (Al : Option Addr) (cl : Nat) (ls : List Int) (gv gh c1 c2 : Nat) (vs hs : List Int) (yv : Array Value) (i : Nat) (m2 : M) : Prop :=
  OwnI wr b1 (.slice Al q2 cl) ls ∧ OwnI wr B (.slice (some ⟨gv, 0, none⟩) vs.length c1) vs ∧ OwnI wr B (.slice (some ⟨gh, 0, none⟩) hs.length c2) hs ∧ Fr w wr mb cb ∧ wr.heap[by_]? = some (.cells yv 48 (0, 0)) ∧ wr.heap[bn]? = some (.cells #[.int .i64 i] 3 (0, 0)) ∧ ∃ m3, Like m3 m2 ∧ St w0 wr pb mb cb m3
theorem m3val {t : Int} (h : Like m' m) : m'.val t = m.val t := val_cells h.1 t
theorem CutAt.drewN {wr : World} {b1 B by_ bn q2 : Nat} {Al : Option Addr} {cl : Nat} {ls : List Int} {gv gh c1 c2 : Nat} {vs hs : List Int} {yv : Array Value} {i : Nat} (h : CutAt w0 wr w pb mb cb b1 B by_ bn q2 Al cl ls gv gh c1 c2 vs hs yv i m2) (n : Nat) : CutAt w0 (wr.drewN n) w pb mb cb b1 B by_ bn q2 Al cl ls gv gh c1 c2 vs hs yv i m2 := by
  obtain ⟨h1, h2, h3, h4, h5, h6, m3, h7, h8⟩ := h
  have hb := pw_below_drewN (Below.refl wr.heap.size wr) n
  exact ⟨h1.below hb, h2.below hb, h3.below hb, h4.drewN n, h5, h6, m3, h7, h8.drewN n⟩
theorem cells_pair : ∀ (l : List (Int × Ag)) (j : Nat) (h : j < l.length), (cellsOf l).getD (2 * j) 0 = l[j].1 ∧ (cellsOf l).getD (2 * j + 1) 0 = l[j].2.prev
  | x :: l, 0, _ => ⟨rfl, rfl⟩
  | x :: l, j + 1, h => by
    have := cells_pair l j (by simpa using h)
    rw [show 2 * (j + 1) = 2 * j + 1 + 1 by omega]
    refine ⟨?_, ?_⟩
    · show (x.1 :: x.2.prev :: cellsOf l).getD (2 * j + 1 + 1) 0 = _
      simpa using this.1
    · show (x.1 :: x.2.prev :: cellsOf l).getD (2 * j + 1 + 1 + 1) 0 = _
      simpa using this.2
set_option maxHeartbeats 6400000 in
set_option maxRecDepth 100000 in
theorem NodeCuts_fn (h : St w0 w pb mb cb m) {rs : List Int} {z H t0 t1 t2 least : Int} {L : List (Int × Ag)} {vs hs : List Int} {A1 A2 AN : Option Addr} {c1 c2 kN by_ bl bn i : Nat} (hrl : 1 ≤ rs.length ∧ rs.length ≤ 40) (hy : Yd16 m rs z H t0 t1 t2 L vs hs AN kN) (hi : ∀ L' L2, Cutp L L' L2 least → L'.length = i)
    (ky : w.heap[by_]? = some (.cells (yardV mb H ⟨#[107]⟩ t0 (.slice AN 2 kN) (.slice A1 vs.length c1) (.slice A2 hs.length c2)) 48 (0, 0))) (kl : w.heap[bl]? = some (.cells #[.int .i64 least] 3 (0, 0))) (kn : w.heap[bn]? = some (.cells #[.int .i64 i] 3 (0, 0))) {B : Nat} (hO1 : OwnI w B (.slice A1 vs.length c1) vs) (hO2 : OwnI w B (.slice A2 hs.length c2) hs) :
    Calls Try.prog 25 #[ptr pb, .pointer (some ⟨by_, 0, none⟩), .pointer (some ⟨bl, 0, none⟩), .pointer (some ⟨bn, 0, none⟩)] w fun e w' => e = .returned (.iface 4 (.bool true)) ∧ (∃ m' L' L2, Cutp L L' L2 least ∧ At w' mb cb m' ∧ Chain m' z L' ∧ m'.val t0 = some (number z)) ∧ Fr w w' mb cb := by
  have hC := hy.row.C
  have hnd := hy.row.nd
  have hS := hy.row.S
  have hw := hy.nd.w0
  have hn0 := hy.nd.n0
  have hvl := hy.vl
  have hhl := hy.hl
  have hll := hy.len
  have hvn : vs.length = rs.length := by rw [hvl, List.length_map, hll]
  have hhn : hs.length = rs.length := by rw [hhl, List.length_map, hll]
  obtain ⟨gv, egv, -⟩ := hO1.cell 0 (by omega)
  obtain ⟨gh, egh, -⟩ := hO2.cell 0 (by omega)
  subst egv egh
  obtain ⟨y0, y1, y2, y3, y4, y5, y6⟩ := box7 ky
  have l0 := box1 kl
  have HCUT := Lib.hid (cut_ok h hS ⟨⟨#[107]⟩, t0, AN, 2, kN⟩ least hw hC hnd (by omega))
  have HVL := Lib.hid hvl
  have HHL := Lib.hid hhl
  have HI := Lib.hid hi
  have HLL := Lib.hid hll
  have HVN := Lib.hid hvn
  have HHN := Lib.hid hhn
  clear hy hvl hhl hi hll hvn hhn
  go_enter Try.func25, Try.ntmps25
  go_wp2_with fail
  refine HCUT.out.mono ?_
  intro e W1 hE
  obtain ⟨m1, L', L2, Al, cl, hcp, rfl, hOl, hC1, hnd1, hS1, hk1, h1, hF1⟩ := cut_to hC hnd hE
  have hw1 : m1.val t0 = some (number z) := (hk1 t0 hn0).trans hw
  have hap : prevs L = prevs L' ++ prevs L2 := by rw [hcp.1]; simp [prevs]
  have hn1 : t0 ∉ prevs L' := fun hm => hn0 (by rw [hap]; exact List.mem_append_left _ hm)
  have hll' : L'.length + L2.length = rs.length := by rw [← HLL.out, hcp.1, List.length_append]
  have hLi : L'.length = i := HI.out L' L2 hcp
  have hages : ∀ y ∈ L2, m1.val y.1 = some (.iface 52 y.2.v) := fun y hy => by
    have hyL : y ∈ L := by rw [hcp.1]; exact List.mem_append_right _ hy
    rw [hk1 y.1 (hC.not_prev hyL)]
    exact (hC.age y hyL).1
  have hagn : ∀ y ∈ L2, y.1 ∉ prevs L' := fun y hy hm => by
    have hyL : y ∈ L := by rw [hcp.1]; exact List.mem_append_right _ hy
    exact hC.not_prev hyL (by rw [hap]; exact List.mem_append_left _ hm)
  have ky1 := hF1.blk h.A ky (by decide) (by decide)
  have kl1 := hF1.blk h.A kl (by decide) (by decide)
  have kn1 := hF1.blk h.A kn (by decide) (by decide)
  have hO11 := hO1.fr h.A hF1
  have hO21 := hO2.fr h.A hF1
  have HF1 := Lib.hid hF1
  have HCP := Lib.hid hcp
  have hl9 : L'.length ≤ 1000 := by omega
  clear hF1 ky kl kn hO1 hO2 h y0 y1 y2 y3 y4 y5 y6 l0 HCUT hE hC hnd hS hw hn0 hk1 hcp
  obtain ⟨y0, y1, y2, y3, y4, y5, y6⟩ := box7 ky1
  have l0 := box1 kl1
  have HCUT := Lib.hid (cut_ok h1 hS1 ⟨⟨#[107]⟩, t0, AN, 2, kN⟩ least hw1 hC1 hnd1 hl9)
  obtain ⟨q, hq⟩ : ∃ q, L2.length = q := ⟨_, rfl⟩
  obtain ⟨q2, hq2⟩ : ∃ q2, 2 * q = q2 := ⟨_, rfl⟩
  have hcl : (cellsOf L2).length = q2 := by rw [cellsOf_len]; omega
  have hcl2 : 2 * L2.length = q2 := by omega
  rw [hcl] at hOl
  rw [hcl2]
  have HAG := Lib.hid hages
  have HAN := Lib.hid hagn
  have HQ := Lib.hid hq
  have HQ2 := Lib.hid hq2
  have HLI := Lib.hid hLi
  have HCL := Lib.hid hcl
  have hiq : i + q ≤ 40 := by omega
  have e1 : (vs.length : Int) - (i : Int) = (q : Int) := by have := HVN.out; omega
  have hvs : vs.length = i + q := by have := HVN.out; omega
  have hhs : hs.length = i + q := by have := HHN.out; omega
  have HVS := Lib.hid hvs
  have HHS := Lib.hid hhs
  clear hages hagn hq hLi hcl hcl2 hll' hl9 hvs hhs hap
  go_wp2_with fail
  refine HCUT.out.mono ?_
  intro e W2 hE
  obtain ⟨m2, K', K2, Ak, ck, hcp2, rfl, hOk, hC2, hnd2, hS2, hk2, h2, hF2⟩ := cut_to hC1 hnd1 hE
  obtain ⟨rfl, rfl⟩ := HCP.out.again hcp2
  have hw2 : m2.val t0 = some (number z) := (hk2 t0 hn1).trans hw1
  have HAG2 := Lib.hid (show ∀ y ∈ L2, m2.val y.1 = some (.iface 52 y.2.v) from fun y hy => (hk2 y.1 (HAN.out y hy)).trans (HAG.out y hy))
  have ky2 := hF2.blk h1.A ky1 (by decide) (by decide)
  have kn2 := hF2.blk h1.A kn1 (by decide) (by decide)
  have hO12 := hO11.fr h1.A hF2
  have hO22 := hO21.fr h1.A hF2
  have hOl2 := hOl.fr h1.A hF2
  have HF2 := Lib.hid (HF1.out.trans hF2)
  have HC2 := Lib.hid (And.intro hC2 hw2)
  clear hF2 ky1 kl1 kn1 hO11 hO21 h1 y0 y1 y2 y3 y4 y5 y6 l0 HCUT hE hC1 hnd1 hS1 hw1 hn1 hcp2 hOk hC2 hnd2 hS2 hk2 hw2 HF1 HAG HAN hOl
  simp only [List.length_nil, Nat.mul_zero]
  obtain ⟨y0, y1, y2, y3, y4, y5, y6⟩ := box7 ky2
  have n0 := box1 kn2
  have e2 : (2 : Int) * (q : Int) = (q2 : Int) := by omega
  have wq : IntKind.i64.wrap (q : Int) = (q : Int) := IntWalk.i64_in _ (by omega)
  have wq2 : IntKind.i64.wrap (q2 : Int) = (q2 : Int) := IntWalk.i64_in _ (by omega)
  have hq2b : q2 ≤ 80 := by omega
  have HST := Lib.hid (show CutAt w0 W2 w pb mb cb w.heap.size B by_ bn q2 Al cl (cellsOf L2) gv gh c1 c2 vs hs (yardV mb H ⟨#[107]⟩ t0 (.slice AN 2 kN) (.slice (some ⟨gv, 0, none⟩) vs.length c1) (.slice (some ⟨gh, 0, none⟩) hs.length c2)) i m2 from ⟨hOl2, hO12, hO22, HF2.out, ky2, kn2, m2, ⟨rfl, rfl⟩, h2⟩)
  obtain ⟨ls, hls⟩ : ∃ ls, cellsOf L2 = ls := ⟨_, rfl⟩
  have HCL' := HCL.out
  rw [hls] at HST HCL'
  have HSL := Lib.hid HCL'
  have HLS := Lib.hid hls
  clear hls HCL' HCL hOl2 hO12 hO22 HF2 ky2 kn2 h2 hq2
  go_wp2_with fail
  go_loopw [10] (fun j wr => ∃ k : Nat, k ≤ q ∧ j = .int .i64 k ∧ CutAt w0 wr w pb mb cb w.heap.size B by_ bn q2 Al cl ls gv gh c1 c2 vs hs (yardV mb H ⟨#[107]⟩ t0 (.slice AN 2 kN) (.slice (some ⟨gv, 0, none⟩) vs.length c1) (.slice (some ⟨gh, 0, none⟩) hs.length c2)) i m2) (fun j _ => q - (intOf j).toNat)
  case atStart => exact ⟨0, by omega, rfl, HST.out⟩
  case round =>
    clear HST y0 y1 y2 y3 y4 y5 y6 n0
    obtain ⟨k, hk, rfl, hOl, hO1, hO2, hF, ky, kn, m3, hlk, hS3⟩ := hrel
    obtain ⟨n2, hn2⟩ : ∃ n2, 2 * k = n2 := ⟨_, rfl⟩
    have e3 : (2 : Int) * (k : Int) = (n2 : Int) := by omega
    have w3 : IntKind.i64.wrap (n2 : Int) = (n2 : Int) := IntWalk.i64_in _ (by omega)
    have HN2 := Lib.hid hn2
    clear hn2
    by_cases hlt : k < q
    · have g3' : n2 < q2 := by have := HQ2.out; have := HN2.out; omega
      have g3 : decide (n2 < q2) = true := decide_eq_true g3'
      have hk2 : k < L2.length := by rw [HQ.out]; exact hlt
      obtain ⟨y, hy⟩ : ∃ y, L2[k] = y := ⟨_, rfl⟩
      obtain ⟨p1, p2⟩ := cells_pair L2 k hk2
      have hyv := HAG2.out _ (List.getElem_mem hk2)
      rw [HLS.out, HN2.out, hy] at p1 p2
      rw [hy] at hyv
      obtain ⟨n3, hn3⟩ : ∃ n3, i + k = n3 := ⟨_, rfl⟩
      obtain ⟨n4, hn4⟩ : ∃ n4, n2 + 1 = n4 := ⟨_, rfl⟩
      have e4 : (i : Int) + (k : Int) = (n3 : Int) := by omega
      have w4 : IntKind.i64.wrap (n3 : Int) = (n3 : Int) := IntWalk.i64_in _ (by omega)
      have e5 : (n2 : Int) + 1 = (n4 : Int) := by omega
      have w5 : IntKind.i64.wrap (n4 : Int) = (n4 : Int) := IntWalk.i64_in _ (by omega)
      have hLg : L[n3]? = some y := by
        rw [HCP.out.1, List.getElem?_append_right (by rw [HLI.out]; omega), HLI.out, show n3 - i = k by omega, List.getElem?_eq_getElem hk2, hy]
      have hv3 : vs.getD n3 0 = y.2.ver := by rw [HVL.out, List.getD_eq_getElem?_getD]; simp [vers, hLg]
      have hh3 : hs.getD n3 0 = y.1 := by rw [HHL.out, List.getD_eq_getElem?_getD]; simp [hands, hLg]
      have g4' : n3 < vs.length := by have := HVS.out; omega
      have g5' : n3 < hs.length := by have := HHS.out; omega
      have g6' : n4 < q2 := by have := HQ2.out; have := HN2.out; omega
      have g4 : decide (n3 < vs.length) = true := decide_eq_true g4'
      have g5 : decide (n3 < hs.length) = true := decide_eq_true g5'
      have g6 : decide (n4 < q2) = true := decide_eq_true g6'
      have hl0 : 0 < ls.length := by rw [HSL.out]; omega
      have hOlL : OwnI wr w.heap.size (.slice Al ls.length cl) ls := by rw [HSL.out]; exact hOl
      obtain ⟨gl, egl, -⟩ := hOlL.cell 0 hl0
      subst egl
      have d0 := hOlL.cell_at (j := n2) (by rw [HSL.out]; exact g3')
      rw [p1] at d0
      rw [← m3val hlk] at hyv
      have HYV := Lib.hid hyv
      have HP2 := Lib.hid p2
      have HP1 := Lib.hid p1
      have HV3 := Lib.hid hv3
      have HH3 := Lib.hid hh3
      have HN4 := Lib.hid hn4
      have HN3 := Lib.hid hn3
      clear hyv p1 p2 hv3 hh3 hn3 hn4 hLg hy hOlL
      go_wp2_with fail
      refine (take_ok hS3 HYV.out).mono ?_
      rintro e W4 ⟨rfl, h4, hF4⟩
      have ky4 := hF4.blk hS3.A ky (by decide) (by decide)
      have kn4 := hF4.blk hS3.A kn (by decide) (by decide)
      have hOl4 := hOl.fr hS3.A hF4
      have hO14 := hO1.fr hS3.A hF4
      have hO24 := hO2.fr hS3.A hF4
      have HF4 := Lib.hid (hF.trans hF4)
      obtain ⟨W5, hW5⟩ : ∃ W5 : World, W5 = W4.alloc (ageC y.2) := ⟨_, rfl⟩
      have hb5 : Below W4.heap.size W4 W5 := hW5 ▸ below_alloc (Below.refl _ _) _
      obtain ⟨x0, x1, x2, x3, x4, x5, x6, x7, x8, x9, x10⟩ := box11 (show W5.heap[W4.heap.size]? = some (.cells #[.int .i64 y.2.ver, .int .i64 0, .string ⟨#[]⟩, .string ⟨#[]⟩, .bool false, .bool y.2.dead, .slice none 0 0, .slice none 0 0, .slice none 0 0, .slice none 0 0, .int .i64 y.2.prev] 52 (0, 0)) from hW5 ▸ blk_new _ _)
      have HST := Lib.hid (show CutAt w0 W5 w pb mb cb w.heap.size B by_ bn q2 (some ⟨gl, 0, none⟩) cl ls gv gh c1 c2 vs hs (yardV mb H ⟨#[107]⟩ t0 (.slice AN 2 kN) (.slice (some ⟨gv, 0, none⟩) vs.length c1) (.slice (some ⟨gh, 0, none⟩) hs.length c2)) i m2 from ⟨hOl4.below hb5, hO14.below hb5, hO24.below hb5, HF4.out.trans (Fr.of_below hb5 mb cb), blk_below ky4 hb5, blk_below kn4 hb5, m3.tick, hlk, h4.below hb5⟩)
      have HW5 := Lib.hid hW5
      clear hW5 hb5 ky4 kn4 hOl4 hO14 hO24 HF4 h4 hF4 ky kn hOl hO1 hO2 hF hS3 d0
      go_upto_region 9 with fail
      rw [← HW5.out]
      clear HW5
      obtain ⟨hOl, hO1, hO2, -, ky, kn, -⟩ := HST.out
      obtain ⟨y0, y1, y2, y3, y4, y5, y6⟩ := box7 ky
      have n0 := box1 kn
      have hOlL : OwnI W5 w.heap.size (.slice (some ⟨gl, 0, none⟩) ls.length cl) ls := by rw [HSL.out]; exact hOl
      have d0 := hOlL.cell_at (j := n2) (by rw [HSL.out]; exact g3')
      have d1 := hOlL.cell_at (j := n4) (by rw [HSL.out]; exact g6')
      have d2 := hO1.cell_at g4'
      have d3 := hO2.cell_at g5'
      rw [HP1.out] at d0
      rw [← HN4.out, HP2.out, HN4.out] at d1
      rw [HV3.out] at d2
      rw [HH3.out] at d3
      clear hOl hO1 hO2 ky kn hOlL
      go_quiet (fail)
      have HST2 := Lib.hid (HST.out.drewN nq)
      clear HST
      go_wp2_with fail
      go_roundw
      case rel => exact ⟨k + 1, by omega, by go_num, HST2.out⟩
      case measure => simp [intOf]; omega
    · have g3 : decide (n2 < q2) = false := decide_eq_false (by have := HQ2.out; have := HN2.out; omega)
      have FIN := Lib.hid (show (∃ m' L'' L2'', Cutp L L'' L2'' least ∧ At wr mb cb m' ∧ Chain m' z L'' ∧ m'.val t0 = some (number z)) ∧ Fr w wr mb cb from ⟨⟨m3, _, _, HCP.out, hS3.A, HC2.out.1.cells hlk.1, (m3val hlk).trans HC2.out.2⟩, hF⟩)
      clear hOl hO1 hO2 hF ky kn hlk hS3
      go_wp2_with fail
      go_ret
      exact ⟨rfl, FIN.out.1, FIN.out.2⟩
set_option maxHeartbeats 3200000 in
set_option maxRecDepth 100000 in
theorem NodeCuts_short (A : Option Addr) (cap : Nat) (l : List Int) (hl : l.length < 1 ∨ 40 < l.length) (v : Int) (w : World) :
    Calls Try.prog 5 #[.slice A l.length cap, .int .i64 v] w fun e w' => e = .returned (.bool true) ∧ Below w.heap.size w w' := by
  obtain ⟨W1, hW1⟩ : ∃ W1 : World, W1 = w.alloc (.cells #[.int .i64 v] 3) := ⟨_, rfl⟩
  have hB1 : Below w.heap.size w W1 := hW1 ▸ below_alloc (Below.refl _ _) _
  have HW1 := Lib.hid hW1
  clear hW1
  go_enter Try.func5, Try.ntmps5
  go_upto_region 1 with fail
  rw [← HW1.out]
  clear HW1
  go_wp2_with fail
  refine (nawake_calls W1).mono ?_
  rintro e W2 ⟨rfl, hB2⟩
  have HB2 := Lib.hid (below_then hB1 hB1.size hB2)
  clear hB1 hB2
  by_cases h1 : l.length < 1
  · have e0 : l.length = 0 := by omega
    rw [e0]
    go_wp2_with fail
    refine (nawake_calls W2).mono ?_
    rintro e W3 ⟨rfl, hB3⟩
    have HB3 := Lib.hid (below_then HB2.out HB2.out.size hB3)
    clear hB3
    go_wp2_with fail
    go_ret
    exact ⟨rfl, HB3.out⟩
  · have g1 : decide (l.length < 1) = false := decide_eq_false h1
    have g2 : decide (40 < l.length) = true := decide_eq_true (by omega)
    have g0 : decide (l.length = 0) = false := decide_eq_false (by omega)
    go_wp2_with fail
    refine (nawake_calls W2).mono ?_
    rintro e W3 ⟨rfl, hB3⟩
    have HB3 := Lib.hid (below_then HB2.out HB2.out.size hB3)
    clear hB3
    go_wp2_with fail
    go_ret
    exact ⟨rfl, HB3.out⟩
theorem cutp_ex (L : List (Int × Ag)) (least : Int) : ∃ L' L2, Cutp L L' L2 least := by
  induction L with
  | nil => exact ⟨[], [], rfl, Or.inl ⟨rfl, by simp⟩⟩
  | cons x L ih =>
    by_cases h : x.2.ver ≤ least
    · exact ⟨[x], L, rfl, Or.inr ⟨[], x, rfl, by simp, h⟩⟩
    · obtain ⟨L', L2, rfl, hc⟩ := ih
      refine ⟨x :: L', L2, rfl, ?_⟩
      rcases hc with ⟨rfl, hn⟩ | ⟨l1, u, rfl, hn, hu⟩
      · exact Or.inl ⟨rfl, fun q hq => by
          rcases List.mem_cons.1 hq with rfl | hq
          · exact h
          · exact hn q hq⟩
      · exact Or.inr ⟨x :: l1, u, rfl, fun q hq => by
          rcases List.mem_cons.1 hq with rfl | hq
          · exact h
          · exact hn q hq, hu⟩
theorem Cutp.pos {L L' L2 : List (Int × Ag)} {least : Int} (h : Cutp L L' L2 least) (hL : 1 ≤ L.length) : 1 ≤ L'.length ∧ L'.length ≤ L.length := by
  obtain ⟨rfl, h⟩ := h
  rcases h with ⟨rfl, _⟩ | ⟨l1, x, rfl, _, _⟩
  · simpa using hL
  · simp
theorem vers_pre2 {L' L2 : List (Int × Ag)} : ∀ j, j < L'.length → (vers L').getD j 0 = (vers (L' ++ L2)).getD j 0 := fun j hj => by
  have e : vers (L' ++ L2) = vers L' ++ vers L2 := by simp [vers]
  rw [e, List.getD_eq_getElem?_getD, List.getD_eq_getElem?_getD, List.getElem?_append_left (by simpa [vers] using hj)]
set_option maxHeartbeats 6400000 in
set_option maxRecDepth 100000 in
theorem NodeCuts_main (A : Option Addr) (cap : Nat) (l : List Int) (hl : 1 ≤ l.length ∧ l.length ≤ 40) (v : Int) (w : World) (hR : U8 w A l) (hr8 : ∀ r ∈ l, 0 ≤ r ∧ r ≤ 255) :
    Calls Try.prog 5 #[.slice A l.length cap, .int .i64 v] w fun e w' => e = .returned (.bool true) ∧ Below w.heap.size w w' := by
  have g1 : decide (l.length < 1) = false := decide_eq_false (by omega)
  have g2 : decide (40 < l.length) = false := decide_eq_false (by omega)
  have g0 : decide (l.length = 0) = false := decide_eq_false (by omega)
  obtain ⟨W1, hW1⟩ : ∃ W1 : World, W1 = w.alloc (.cells #[.int .i64 v] 3) := ⟨_, rfl⟩
  have hB1 : Below w.heap.size w W1 := hW1 ▸ below_alloc (Below.refl _ _) _
  have k1 : W1.heap[w.heap.size]? = some (.cells #[.int .i64 v] 3 (0, 0)) := hW1 ▸ blk_new _ _
  have hR1 := hR.below hB1
  have HW1 := Lib.hid hW1
  have HR8 := Lib.hid hr8
  clear hW1 hR hr8
  go_enter Try.func5, Try.ntmps5
  go_upto_region 1 with fail
  rw [← HW1.out]
  clear HW1
  go_wp2_with fail
  refine (nawake_calls W1).mono ?_
  rintro e W2 ⟨rfl, hB2⟩
  have k2 := blk_below k1 hB2
  have HR2 := Lib.hid (hR1.below hB2)
  have HB2 := Lib.hid (below_then hB1 hB1.size hB2)
  clear hB1 hB2 k1 hR1
  go_wp2_with fail
  refine (nlay_calls (cr := cap) (by omega) HR8.out HR2.out).mono ?_
  rintro e W3 ⟨mb, cb, m, z, H, t0, t1, t2, L, vs, hs, A1, A2, AN, c1, c2, kN, rfl, hy, hA, hO1, hO2, hRN, hB3, hmb, hcb⟩
  have k3 := blk_below k2 hB3
  have hln : L.length = l.length := hy.len
  have hvn : vs.length = l.length := by rw [hy.vl, List.length_map, hy.len]
  obtain ⟨W4, hW4⟩ : ∃ W4 : World, W4 = W3.alloc (.cells (yardV mb H ⟨#[107]⟩ t0 (.slice AN 2 kN) (.slice A1 vs.length c1) (.slice A2 hs.length c2)) 48) := ⟨_, rfl⟩
  have hb4 : Below W3.heap.size W3 W4 := hW4 ▸ below_alloc (Below.refl _ _) _
  have ky : W4.heap[W3.heap.size]? = some (.cells (yardV mb H ⟨#[107]⟩ t0 (.slice AN 2 kN) (.slice A1 vs.length c1) (.slice A2 hs.length c2)) 48 (0, 0)) := hW4 ▸ blk_new _ _
  have k4 := blk_below k3 hb4
  have hA4 := hA.below hb4
  have hP1 := hO1.below hb4
  have hP2 := hO2.below hb4
  have hsz := HB2.out.size
  have HB4 := Lib.hid (below_then (below_then HB2.out HB2.out.size hB3) (by have := hB3.size; omega) hb4)
  have HW4 := Lib.hid hW4
  have HY := Lib.hid hy
  have HLN := Lib.hid (And.intro hln hvn)
  have hv9 : vs.length ≤ 1000 := by omega
  obtain ⟨y0, y1, y2, y3, y4, y5, y6⟩ := box7 ky
  have l0 := box1 k4
  clear hW4 hb4 hB3 hA hO1 hO2 hRN k2 k3 hln hvn
  go_upto_region 4 with fail
  rw [← HW4.out]
  clear HW4
  go_wp2_with fail
  refine (refLeft_calls (hP1.rd (by omega)) hv9 v).mono ?_
  rintro e w5 ⟨i, rfl, hri, rfl⟩
  rw [hy.vl] at hri
  have HRI := Lib.hid (show ∀ L' L2, Cutp L L' L2 v → L'.length = i from fun L' L2 hc => (left_eq hc hri).symm)
  obtain ⟨L', L2, hcp⟩ := cutp_ex L v
  have hip := hcp.pos (by rw [HLN.out.1]; omega)
  rw [HRI.out L' L2 hcp, HLN.out.1] at hip
  clear hri hy hcp
  obtain ⟨W5, hW5⟩ : ∃ W5 : World, W5 = W4.alloc (.cells #[.int .i64 i] 3) := ⟨_, rfl⟩
  have hb5 : Below W4.heap.size W4 W5 := hW5 ▸ below_alloc (Below.refl _ _) _
  have kn : W5.heap[W4.heap.size]? = some (.cells #[.int .i64 i] 3 (0, 0)) := hW5 ▸ blk_new _ _
  have ky5 := blk_below ky hb5
  have kl5 := blk_below k4 hb5
  have hA5 := hA4.below hb5
  have hP15 := hP1.below hb5
  have hP25 := hP2.below hb5
  have HB5 := Lib.hid (below_then HB4.out HB4.out.size hb5)
  have HW5 := Lib.hid hW5
  clear hW5 hb5 ky k4 hA4 hP1 hP2 y0 y1 y2 y3 y4 y5 y6 l0
  go_upto_region 7 with fail
  rw [← HW5.out]
  clear HW5
  obtain ⟨y0, y1, y2, y3, y4, y5, y6⟩ := box7 ky5
  have hA6 := hA5.alloc (port0 mb)
  have hP6 : PD (W5.alloc (port0 mb)) W5.heap.size mb := blk_new _ _
  have hbp : Below W5.heap.size W5 (W5.alloc (port0 mb)) := below_alloc (Below.refl _ _) _
  have HD := Lib.hid (do3_calls (mb := mb) (fun args W => enters_ Try.func25 (by kernel_rfl) rfl args W) (NodeCuts_fn (St.refl hA6 hP6) hl HY.out HRI.out (blk_below ky5 hbp) (blk_below kl5 hbp) (blk_below kn hbp) (hP15.below hbp) (hP25.below hbp)))
  have hmf := makeFunc_run
  have hta := ta_bool true
  clear hA6 hP6 hbp hP25 kl5
  go_wp2_with fail
  refine HD.out.mono ?_
  rintro e W7 ⟨rfl, ⟨m', L', L2, hcp, hA7, hC7, hw7⟩, hF⟩
  have hF7 := (Fr.of_below (below_alloc (Below.refl W5.heap.size W5) (port0 mb)) mb cb).trans hF
  have ky7 := hF7.blk hA5 ky5 (by decide) (by decide)
  have kn7 := hF7.blk hA5 kn (by decide) (by decide)
  have hP17 := hP15.fr hA5 hF7
  have hvl := HY.out.vl
  have hll := HRI.out L' L2 hcp
  have hLe := hcp.1
  have hft := fits_calls (H := H) (low := ⟨#[107]⟩) (hs := hs) (A1 := A1) (A2 := A2) (AN := AN) (c1 := c1) (c2 := c2) (nN := 2) (kN := kN) (n := i) hA7 hw7 hC7 (by rw [hll]; have := HLN.out.2; omega) hv9 hP17 hll (fun j hj => by rw [hvl, hLe]; exact vers_pre2 j (by rw [hll]; exact hj))
  have HFT := Lib.hid hft
  have HBF := Lib.hid (hF7.over HB5.out HB5.out.size (by omega) (by omega))
  clear y0 y1 y2 y3 y4 y5 y6 hF7 hF HD hft hvl hll hLe hcp hC7 hw7 hA7 hA5 hP15 ky5 kn
  obtain ⟨y0, y1, y2, y3, y4, y5, y6⟩ := box7 ky7
  have n0 := box1 kn7
  go_wp2_with fail
  refine HFT.out.mono ?_
  rintro e W8 ⟨rfl, hF8⟩
  have HBG := Lib.hid (hF8.over HBF.out HBF.out.size (by omega) (by omega))
  clear hF8 HFT
  go_wp2_with fail
  go_ret
  exact ⟨rfl, HBG.out⟩
theorem NodeCuts_walk (A : Option Addr) (cap : Nat) (l : List Int) (v : Int) (w : World) (hR : (Kd.int .u8).C w A l.length l) (hok : ∀ n ∈ l, (Lit.int .u8 n).wf = true) :
    Calls Try.prog 5 #[.slice A l.length cap, .int .i64 v] w fun e w' => e = .returned (.bool true) ∧ Below w.heap.size w w' := by
  by_cases h : l.length < 1 ∨ 40 < l.length
  · exact NodeCuts_short A cap l h v w
  · exact NodeCuts_main A cap l (by omega) v w (u8_row hR) (u8_oks hok)
end
end Go.Proofs.Ytcfbjcadpcedhaa.Mem
