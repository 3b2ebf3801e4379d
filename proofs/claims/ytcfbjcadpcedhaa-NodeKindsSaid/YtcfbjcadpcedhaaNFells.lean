/- NodeFells, by hand: an age that is felled tells its own cells, and those of all behind it; felled again only its own. -/
import Derived.Test.YtcfbjcadpcedhaaNFits
import Derived.Test.YtcfbjcadpcedhaaNChains
import Derived.IntWalk
namespace Go.Proofs.Ytcfbjcadpcedhaa.Mem
open Go.RowKit Go.Proofs.YtcfbjcadpcedhaaW.PrintWords Go.Proofs.YtcfbjcadpcedhaaW.PrintLast Go.Proofs.Ytcfbjcadpcedhaa.Tags
set_option linter.unusedVariables false
set_option linter.unusedSimpArgs false
section
variable {w0 w w' : World} {pb mb cb : Nat} {m m' m1 m2 : M}
theorem cellsOf_get : ∀ (l : List (Int × Ag)) (j : Nat), (cellsOf l).getD (2 * j) 0 = (hands l).getD j 0
  | [], j => by simp [cellsOf]
  | x :: l, 0 => rfl
  | x :: l, j + 1 => by
    have := cellsOf_get l j
    rw [show 2 * (j + 1) = 2 * j + 1 + 1 by omega]
    show (x.1 :: x.2.prev :: cellsOf l).getD (2 * j + 1 + 1) 0 = (x.1 :: hands l).getD (j + 1) 0
    simpa using this
theorem Zeroed.trans_ {ps qs : List Int} (h1 : Zeroed m m1 ps) (h2 : Zeroed m1 m2 qs) (hs : ∀ y ∈ qs, y ∈ ps) : Zeroed m m2 ps :=
  ⟨fun y hy => by
    by_cases hq : y ∈ qs
    · exact h2.zero y hq
    · rw [h2.other y hq]; exact h1.zero y hy, fun y hy => by rw [h2.other y (fun hq => hy (hs y hq))]; exact h1.other y hy⟩
theorem Chain.not_prev {z : Int} {l : List (Int × Ag)} (h : Chain m z l) {x : Int × Ag} (hx : x ∈ l) : x.1 ∉ prevs l := fun hm => by
  obtain ⟨q, hq, e⟩ := List.mem_map.1 hm
  obtain ⟨a1, _⟩ := h.age x hx
  obtain ⟨_, y, a2⟩ := h.age q hq
  have e' : q.2.prev = x.1 := e
  rw [e'] at a2
  exact val_ne (y := x.1) a2 a1 (number_ne (by decide)) rfl
/-- What is left of a chain whose words are zero from an age on. -/
theorem Chain.cut_ : ∀ {z : Int} {l1 : List (Int × Ag)} {x : Int × Ag} {l2 : List (Int × Ag)}, Chain m z (l1 ++ x :: l2) → (∀ y ∈ l1, m'.val y.1 = m.val y.1 ∧ m'.val y.2.prev = m.val y.2.prev) → m'.val x.1 = m.val x.1 → m'.val x.2.prev = some (number 0) → Chain m' z (l1 ++ [x])
  | z, [], x, l2, hc, _, h1, h2 => by
    obtain ⟨e, n, a, _⟩ := hc
    exact ⟨e, n, by rw [e, h1, ← e]; exact a, 0, h2, rfl⟩
  | z, y :: l1, x, l2, hc, hk, h1, h2 => by
    obtain ⟨e, n, a, q, b, hc⟩ := hc
    have hy := hk y List.mem_cons_self
    exact ⟨e, n, by rw [e, hy.1, ← e]; exact a, q, hy.2.trans b, hc.cut_ (fun u hu => hk u (List.mem_cons_of_mem _ hu)) h1 h2⟩
theorem Chain.cut {z : Int} {l1 : List (Int × Ag)} {x : Int × Ag} {l2 : List (Int × Ag)} (hc : Chain m z (l1 ++ x :: l2)) (hnd : (prevs (l1 ++ x :: l2)).Nodup) (hz : Zeroed m m' (prevs (x :: l2))) : Chain m' z (l1 ++ [x]) := by
  have hap : prevs (l1 ++ x :: l2) = prevs l1 ++ prevs (x :: l2) := by simp [prevs]
  have hin : ∀ t, t ∉ prevs (l1 ++ x :: l2) → t ∉ prevs (x :: l2) := fun t ht hm => ht (by rw [hap]; exact List.mem_append_right _ hm)
  refine hc.cut_ (fun y hy => ⟨hz.other _ (hin _ (hc.not_prev (by simp [hy]))), hz.other _ fun hm => ?_⟩) (hz.other _ (hin _ (hc.not_prev (by simp)))) (hz.zero _ (by simp [prevs]))
  rw [hap] at hnd
  exact (List.nodup_append.1 hnd).2.2 _ (List.mem_map.2 ⟨y, hy, rfl⟩) _ hm rfl
/-- What holds between two rounds of the closure. -/
def FellAt (wr w : World) (mb cb b1 b2 B by_ bi q2 : Nat) (Al : Option Addr) (cl : Nat) (ls : List Int) (Ak : Option Addr) (ck : Nat) (ks : List Int) (gh c2 : Nat) (hs : List Int) (yv : Array Value) (i : Nat) (m3 : M) : Prop :=
  OwnI wr b1 (.slice Al q2 cl) ls ∧ OwnI wr b2 (.slice Ak 2 ck) ks ∧ OwnI wr B (.slice (some ⟨gh, 0, none⟩) hs.length c2) hs ∧ At wr mb cb m3 ∧ Fr w wr mb cb ∧ wr.heap[by_]? = some (.cells yv 48 (0, 0)) ∧ wr.heap[bi]? = some (.cells #[.int .i64 i] 3 (0, 0))
theorem FellAt.drewN {wr : World} {b1 b2 B by_ bi q2 : Nat} {Al : Option Addr} {cl : Nat} {ls : List Int} {Ak : Option Addr} {ck : Nat} {ks : List Int} {gh c2 : Nat} {hs : List Int} {yv : Array Value} {i : Nat} {m3 : M} (h : FellAt wr w mb cb b1 b2 B by_ bi q2 Al cl ls Ak ck ks gh c2 hs yv i m3) (n : Nat) : FellAt (wr.drewN n) w mb cb b1 b2 B by_ bi q2 Al cl ls Ak ck ks gh c2 hs yv i m3 := by
  obtain ⟨h1, h2, h3, h4, h5, h6, h7⟩ := h
  have hb := pw_below_drewN (Below.refl wr.heap.size wr) n
  exact ⟨h1.below hb, h2.below hb, h3.below hb, h4.drewN n, h5.drewN n, h6, h7⟩
set_option maxHeartbeats 6400000 in
set_option maxRecDepth 100000 in
theorem NodeFells_fn (h : St w0 w pb mb cb m) {rs : List Int} {z H t0 t1 t2 : Int} {L L1 L2 : List (Int × Ag)} {x : Int × Ag} {vs hs : List Int} {A1 A2 AN : Option Addr} {c1 c2 kN by_ bi i : Nat} (hrl : rs.length ≤ 40) (hy : Yd16 m rs z H t0 t1 t2 L vs hs AN kN) (hL : L = L1 ++ x :: L2) (hi : L1.length = i)
    (ky : w.heap[by_]? = some (.cells (yardV mb H ⟨#[107]⟩ t0 (.slice AN 2 kN) (.slice A1 vs.length c1) (.slice A2 hs.length c2)) 48 (0, 0))) (ki : w.heap[bi]? = some (.cells #[.int .i64 i] 3 (0, 0))) {B : Nat} (hO2 : OwnI w B (.slice A2 hs.length c2) hs) :
    Calls Try.prog 29 #[ptr pb, .pointer (some ⟨by_, 0, none⟩), .pointer (some ⟨bi, 0, none⟩)] w fun e w' => e = .returned (.iface 4 (.bool true)) ∧ (∃ m', At w' mb cb m' ∧ Zeroed m m' (prevs (x :: L2))) ∧ Fr w w' mb cb := by
  have hC := hy.row.C
  have hnd := hy.row.nd
  have hS := hy.row.S
  have hhl := hy.hl
  have hll := hy.len
  rw [hL] at hC hnd hhl hll
  have hhn : hs.length = i + (L2.length + 1) := by rw [hhl]; simp [hands, hi]
  have hx1 : hs.getD i 0 = x.1 := by
    rw [hhl, List.getD_eq_getElem?_getD, ← hi]
    simp [hands]
  obtain ⟨zx, hCx⟩ := hC.app
  have hzx : zx = x.1 := hCx.1
  subst hzx
  have hap : prevs (L1 ++ x :: L2) = prevs L1 ++ prevs (x :: L2) := by simp [prevs]
  have hndx : (prevs (x :: L2)).Nodup := by rw [hap] at hnd; exact (List.nodup_append.1 hnd).2.1
  obtain ⟨q, hq⟩ : ∃ q, L2.length + 1 = q := ⟨_, rfl⟩
  obtain ⟨q2, hq2⟩ : ∃ q2, 2 * q = q2 := ⟨_, rfl⟩
  have hql : i + q ≤ 40 := by
    have : (L1 ++ x :: L2).length = i + q := by simp [hi]; omega
    omega
  have hgets : ∀ j, j < q → (cellsOf (x :: L2)).getD (2 * j) 0 = hs.getD (i + j) 0 := fun j hj => by
    rw [cellsOf_get, hhl]
    simp only [hands, List.map_append]
    rw [List.getD_eq_getElem?_getD, List.getD_eq_getElem?_getD, List.getElem?_append_right (by simp [hi])]
    simp [hi]
  have HG := Lib.hid hgets
  have HHN := Lib.hid hhn
  have hl1 : (x :: L2).length ≤ 1000 := by simp; omega
  have hhb : i < hs.length := by omega
  have hf1 := fell_calls h hS hCx hndx hl1
  obtain ⟨gh, egh, -⟩ := hO2.cell 0 (by omega)
  subst egh
  have d1 := hO2.cell_at hhb
  rw [hx1] at d1
  obtain ⟨y0, y1, y2, y3, y4, y5, y6⟩ := box7 ky
  have i0 := box1 ki
  have HX1 := Lib.hid hx1
  have g0 : decide (i < hs.length) = true := decide_eq_true hhb
  have hF1 := Lib.hid hf1
  have hb0 : w0.heap.size ≤ w.heap.size := h.F.size
  clear hC hnd hS hhl hll hy hL hi hap hf1 hgets hhn hx1
  go_enter Try.func29, Try.ntmps29
  go_wp2_with fail
  refine hF1.out.mono ?_
  rintro e W1 ⟨Al, cl, m1, rfl, hOl, hz1, hS1, h1, hFr1⟩
  have hlen : (cellsOf (x :: L2)).length = q2 := by rw [cellsOf_len, List.length_cons]; omega
  have hlen2 : 2 * (x :: L2).length = q2 := by rw [List.length_cons]; omega
  rw [hlen] at hOl
  rw [hlen2]
  have ky1 := hFr1.blk h.A ky (by decide) (by decide)
  have ki1 := hFr1.blk h.A ki (by decide) (by decide)
  have hO21 := hO2.fr h.A hFr1
  have hnx : x.1 ∉ prevs (x :: L2) := hCx.not_prev (by simp)
  have hCx1 : Chain m1 x.1 [x] := ⟨rfl, hCx.2.1, by rw [hz1.other _ hnx]; exact hCx.2.2.1, 0, hz1.zero _ (by simp [prevs]), rfl⟩
  have HF1 := Lib.hid hFr1
  obtain ⟨ls, hls⟩ : ∃ ls, cellsOf (x :: L2) = ls := ⟨_, rfl⟩
  have hls0 : ls.getD 0 0 = x.1 := by rw [← hls]; rfl
  have hls1 : ls.getD 1 0 = x.2.prev := by rw [← hls]; rfl
  have hlsl : ls.length = q2 := by rw [← hls]; exact hlen
  have HG2 := Lib.hid (show ∀ j, j < q → ls.getD (2 * j) 0 = hs.getD (i + j) 0 by rw [← hls]; exact HG.out)
  rw [hls] at hOl
  clear hls hlen hlen2 HG
  clear d1 y0 y1 y2 y3 y4 y5 y6 i0 ky ki hO2 h hF1 hFr1 hCx hndx
  obtain ⟨y0, y1, y2, y3, y4, y5, y6⟩ := box7 ky1
  have i0 := box1 ki1
  have d1 := hO21.cell_at hhb
  rw [HX1.out] at d1
  have hf2 := Lib.hid (fell_calls h1 hS1 hCx1 (by simp [prevs]) (by simp))
  go_wp2_with fail
  refine hf2.out.mono ?_
  rintro e W2 ⟨Ak, ck, m2, rfl, hOk, hz2, hS2, h2, hFr2⟩
  have ky2 := hFr2.blk h1.A ky1 (by decide) (by decide)
  have ki2 := hFr2.blk h1.A ki1 (by decide) (by decide)
  have hO22 := hO21.fr h1.A hFr2
  have hOl2 := hOl.fr h1.A hFr2
  have HF2 := Lib.hid (HF1.out.trans hFr2)
  have hOk' : OwnI W2 W1.heap.size (.slice Ak 2 ck) [x.1, x.2.prev] := hOk
  clear d1 y0 y1 y2 y3 y4 y5 y6 i0 ky1 ki1 hO21 h1 hf2 hFr2 hOl hOk hCx1 HF1
  have hf3 := Lib.hid (fell_calls (at_ := 0) (l := []) h2 hS2 rfl (by simp [prevs]) (by simp))
  simp only [List.length_cons, List.length_nil, Nat.zero_add, Nat.mul_one]
  go_wp2_with fail
  refine hf3.out.mono ?_
  rintro e W3 ⟨An, cn, m3, rfl, hOn, hz3, hS3, h3, hFr3⟩
  have ky3 := hFr3.blk h2.A ky2 (by decide) (by decide)
  have ki3 := hFr3.blk h2.A ki2 (by decide) (by decide)
  have hO23 := hO22.fr h2.A hFr3
  have hOl3 := hOl2.fr h2.A hFr3
  have hOk3 := hOk'.fr h2.A hFr3
  have HF3 := Lib.hid (HF2.out.trans hFr3)
  have HZ := Lib.hid ((hz1.trans_ hz2 (fun y hy => by simp [prevs] at hy ⊢; exact Or.inl hy)).trans_ hz3 (fun y hy => by simp [prevs] at hy))
  have HA3 := Lib.hid h3.A
  clear ky2 ki2 hO22 h2 hf3 hFr3 hOl2 hOk' HF2 hOn hS1 hS2 hS3 hz1 hz2 hz3 h3
  simp only [List.length_nil, Nat.mul_zero]
  obtain ⟨y0, y1, y2, y3, y4, y5, y6⟩ := box7 ky3
  have i0 := box1 ki3
  have e1 : (hs.length : Int) - (i : Int) = (q : Int) := by have := HHN.out; omega
  have e2 : (2 : Int) * (q : Int) = (q2 : Int) := by omega
  have w1 : IntKind.i64.wrap (q : Int) = (q : Int) := IntWalk.i64_in _ (by omega)
  have w2 : IntKind.i64.wrap (q2 : Int) = (q2 : Int) := IntWalk.i64_in _ (by omega)
  have HE := Lib.hid hq2
  have HQ := Lib.hid hq
  have hq40 : i + q ≤ 40 := hql
  have HSL := Lib.hid hlsl
  have hqp : 0 < q := by omega
  have hq2b : q2 ≤ 80 ∧ 2 ≤ q2 := by omega
  have HST := Lib.hid (show FellAt W3 w mb cb w.heap.size W1.heap.size B by_ bi q2 Al cl ls Ak ck [x.1, x.2.prev] gh c2 hs (yardV mb H ⟨#[107]⟩ t0 (.slice AN 2 kN) (.slice A1 vs.length c1) (.slice (some ⟨gh, 0, none⟩) hs.length c2)) i m3 from ⟨hOl3, hOk3, hO23, HA3.out, HF3.out, ky3, ki3⟩)
  clear hq2 hq hlsl hql hOl3 hOk3 hO23 HA3 HF3 ky3 ki3
  go_wp2_with fail
  go_loopw [11] (fun j wr => ∃ k : Nat, k ≤ q ∧ j = .int .i64 k ∧ FellAt wr w mb cb w.heap.size W1.heap.size B by_ bi q2 Al cl ls Ak ck [x.1, x.2.prev] gh c2 hs (yardV mb H ⟨#[107]⟩ t0 (.slice AN 2 kN) (.slice A1 vs.length c1) (.slice (some ⟨gh, 0, none⟩) hs.length c2)) i m3) (fun j _ => q - (intOf j).toNat)
  case atStart => exact ⟨0, by omega, rfl, HST.out⟩
  case round =>
    clear HST y0 y1 y2 y3 y4 y5 y6 i0
    obtain ⟨k, hk, rfl, hOl, hOk, hO, hA, hF, ky, ki⟩ := hrel
    obtain ⟨n2, hn2⟩ : ∃ n2, 2 * k = n2 := ⟨_, rfl⟩
    have e3 : (2 : Int) * (k : Int) = (n2 : Int) := by omega
    have w3 : IntKind.i64.wrap (n2 : Int) = (n2 : Int) := IntWalk.i64_in _ (by omega)
    have hl0 : 0 < ls.length := by have h1 := HSL.out; omega
    have hOlL : OwnI wr w.heap.size (.slice Al ls.length cl) ls := by rw [HSL.out]; exact hOl
    obtain ⟨gl, egl, -⟩ := hOlL.cell 0 hl0
    have hOkL : OwnI wr W1.heap.size (.slice Ak [x.1, x.2.prev].length ck) [x.1, x.2.prev] := hOk
    obtain ⟨gk, egk, -⟩ := hOkL.cell 0 (by simp)
    clear hOlL hOkL
    subst egl egk
    obtain ⟨y0, y1, y2, y3, y4, y5, y6⟩ := box7 ky
    have i0 := box1 ki
    have HST := Lib.hid (show FellAt wr w mb cb w.heap.size W1.heap.size B by_ bi q2 (some ⟨gl, 0, none⟩) cl ls (some ⟨gk, 0, none⟩) ck [x.1, x.2.prev] gh c2 hs (yardV mb H ⟨#[107]⟩ t0 (.slice AN 2 kN) (.slice A1 vs.length c1) (.slice (some ⟨gh, 0, none⟩) hs.length c2)) i m3 from ⟨hOl, hOk, hO, hA, hF, ky, ki⟩)
    by_cases hlt : k < q
    · have g3 : decide (n2 < q2) = true := decide_eq_true (by have := HE.out; omega)
      have g3' : n2 < q2 := by have := HE.out; omega
      obtain ⟨n3, hn3⟩ : ∃ n3, i + k = n3 := ⟨_, rfl⟩
      have e4 : (i : Int) + (k : Int) = (n3 : Int) := by omega
      have w4 : IntKind.i64.wrap (n3 : Int) = (n3 : Int) := IntWalk.i64_in _ (by omega)
      have g4' : n3 < hs.length := by have := HHN.out; have := HQ.out; omega
      have g4 : decide (n3 < hs.length) = true := decide_eq_true g4'
      obtain ⟨u, hu⟩ : ∃ u, hs.getD n3 0 = u := ⟨_, rfl⟩
      have d2 := hO.cell_at g4'
      have hOl' : OwnI wr w.heap.size (.slice (some ⟨gl, 0, none⟩) ls.length cl) ls := by rw [HSL.out]; exact hOl
      have d3 := hOl'.cell_at (j := n2) (by rw [HSL.out]; exact g3')
      rw [hu] at d2
      rw [← hn2, HG2.out k hlt, hn3, hu, hn2] at d3
      have HN2 := Lib.hid hn2
      have HN3 := Lib.hid hn3
      clear hn2 hn3 hu hOl' hOl hOk hO hA hF ky ki
      go_upto_region 9 with fail
      go_quiet (fail)
      have HST2 := Lib.hid (HST.out.drewN nq)
      clear HST
      go_wp2_with fail
      go_roundw
      case rel => exact ⟨k + 1, by omega, by go_num, HST2.out⟩
      case measure => simp [intOf]; omega
    · obtain rfl : k = q := by omega
      have en : n2 = q2 := by have := HE.out; omega
      subst en
      have g3 : decide (n2 < n2) = false := decide_eq_false (by omega)
      have hOl' : OwnI wr w.heap.size (.slice (some ⟨gl, 0, none⟩) ls.length cl) ls := by rw [HSL.out]; exact hOl
      have d3 := hOl'.cell_at (j := 0) (by rw [HSL.out]; omega)
      have d4 := hOl'.cell_at (j := 1) (by rw [HSL.out]; omega)
      rw [hls0] at d3
      rw [hls1] at d4
      have d5 : wr.cell? ⟨gk, 0, none⟩ = some (.int .i64 x.1) := (show OwnI wr W1.heap.size (.slice (some ⟨gk, 0, none⟩) [x.1, x.2.prev].length ck) [x.1, x.2.prev] from hOk).cell_at (j := 0) (by simp)
      have d6 : wr.cell? ⟨gk, 1, none⟩ = some (.int .i64 x.2.prev) := (show OwnI wr W1.heap.size (.slice (some ⟨gk, 0, none⟩) [x.1, x.2.prev].length ck) [x.1, x.2.prev] from hOk).cell_at (j := 1) (by simp)
      have i1 : 0 < n2 := by omega
      have i2 : 1 < n2 := by omega
      have i3 : (0 : Int) < (n2 : Int) := by omega
      have i4 : (1 : Int) < (n2 : Int) := by omega
      have i5 : decide (0 < n2) = true := decide_eq_true i1
      have i6 : decide (1 < n2) = true := decide_eq_true i2
      clear hls0 hls1 hOl' hOl hOk hO hA hF ky ki hn2
      go_upto_region 11 with fail
      go_quiet (fail)
      have HST2 := Lib.hid (HST.out.drewN nq)
      clear HST
      go_wp2_with fail
      go_ret
      obtain ⟨_, _, _, hA, hF, _, _⟩ := HST2.out
      exact ⟨rfl, ⟨m3, hA, HZ.out⟩, hF⟩
theorem split_at_ {L : List (Int × Ag)} {i : Nat} (h : i < L.length) : ∃ L1 x L2, L = L1 ++ x :: L2 ∧ L1.length = i := ⟨L.take i, L[i], L.drop (i + 1), by rw [← List.drop_eq_getElem_cons h, List.take_append_drop], by simp; omega⟩
theorem vers_pre {L1 L2 : List (Int × Ag)} {x : Int × Ag} {i : Nat} (hi : L1.length = i) : ∀ j, j < i + 1 → (vers (L1 ++ [x])).getD j 0 = (vers (L1 ++ x :: L2)).getD j 0 := fun j hj => by
  have e : vers (L1 ++ x :: L2) = vers (L1 ++ [x]) ++ vers L2 := by simp [vers]
  have hl : j < (vers (L1 ++ [x])).length := by simp [vers]; omega
  rw [e, List.getD_eq_getElem?_getD, List.getD_eq_getElem?_getD, List.getElem?_append_left hl]
set_option maxHeartbeats 3200000 in
set_option maxRecDepth 100000 in
theorem NodeFells_short (A : Option Addr) (cap : Nat) (l : List Int) (hl : l.length < 1 ∨ 40 < l.length) (v : Int) (w : World) :
    Calls Try.prog 6 #[.slice A l.length cap, .int .u8 v] w fun e w' => e = .returned (.bool true) ∧ Below w.heap.size w w' := by
  go_enter Try.func6, Try.ntmps6
  go_wp2_with fail
  refine (nawake_calls w).mono ?_
  rintro e W2 ⟨rfl, hB2⟩
  have HB2 := Lib.hid hB2
  clear hB2
  by_cases h1 : l.length < 1
  · have e0 : l.length = 0 := by omega
    rw [e0]
    go_wp2_with fail
    refine (nawake_calls W2).mono ?_
    rintro e W3 ⟨rfl, hB3⟩
    have HB3 := Lib.hid (below_then HB2.out HB2.out.size hB3)
    clear hB3
    go_wp2_with fail
    go_ret
    exact ⟨rfl, HB3.out⟩
  · have g1 : decide (l.length < 1) = false := decide_eq_false h1
    have g2 : decide (40 < l.length) = true := decide_eq_true (by omega)
    have g0 : decide (l.length = 0) = false := decide_eq_false (by omega)
    go_wp2_with fail
    refine (nawake_calls W2).mono ?_
    rintro e W3 ⟨rfl, hB3⟩
    have HB3 := Lib.hid (below_then HB2.out HB2.out.size hB3)
    clear hB3
    go_wp2_with fail
    go_ret
    exact ⟨rfl, HB3.out⟩
set_option maxHeartbeats 6400000 in
set_option maxRecDepth 100000 in
theorem NodeFells_main (A : Option Addr) (cap : Nat) (l : List Int) (hl : 1 ≤ l.length ∧ l.length ≤ 40) (v : Int) (hv0 : 0 ≤ v) (hv1 : v < 256) (w : World) (hR : U8 w A l) (hr8 : ∀ r ∈ l, 0 ≤ r ∧ r ≤ 255) :
    Calls Try.prog 6 #[.slice A l.length cap, .int .u8 v] w fun e w' => e = .returned (.bool true) ∧ Below w.heap.size w w' := by
  have g1 : decide (l.length < 1) = false := decide_eq_false (by omega)
  have g2 : decide (40 < l.length) = false := decide_eq_false (by omega)
  have g0 : decide (l.length = 0) = false := decide_eq_false (by omega)
  have HR8 := Lib.hid hr8
  have HR := Lib.hid hR
  clear hR hr8
  go_enter Try.func6, Try.ntmps6
  go_wp2_with fail
  refine (nawake_calls w).mono ?_
  rintro e W2 ⟨rfl, hB2⟩
  have HR2 := Lib.hid (HR.out.below hB2)
  have HB2 := Lib.hid hB2
  clear hB2
  go_wp2_with fail
  refine (nlay_calls (cr := cap) (by omega) HR8.out HR2.out).mono ?_
  rintro e W3 ⟨mb, cb, m, z, H, t0, t1, t2, L, vs, hs, A1, A2, AN, c1, c2, kN, rfl, hy, hA, hO1, hO2, hRN, hB3, hmb, hcb⟩
  have hhn : hs.length = l.length := by rw [hy.hl, List.length_map, hy.len]
  have hln : L.length = l.length := hy.len
  have hvn : vs.length = l.length := by rw [hy.vl, List.length_map, hy.len]
  obtain ⟨i, hi⟩ : ∃ i : Nat, v % (hs.length : Int) = (i : Int) := ⟨(v % (hs.length : Int)).toNat, by have := Int.emod_nonneg v (show (hs.length : Int) ≠ 0 by omega); omega⟩
  have hil : i < L.length := by have := Int.emod_lt_of_pos v (show (0 : Int) < (hs.length : Int) by omega); omega
  have hi2 : Int.tmod v (hs.length : Int) = (i : Int) := by rw [Int.tmod_eq_emod_of_nonneg hv0]; exact hi
  obtain ⟨L1, x, L2, hL, hi1⟩ := split_at_ hil
  obtain ⟨W4, hW4⟩ : ∃ W4 : World, W4 = W3.alloc (.cells (yardV mb H ⟨#[107]⟩ t0 (.slice AN 2 kN) (.slice A1 vs.length c1) (.slice A2 hs.length c2)) 48) := ⟨_, rfl⟩
  have hb4 : Below W3.heap.size W3 W4 := hW4 ▸ below_alloc (Below.refl _ _) _
  have ky : W4.heap[W3.heap.size]? = some (.cells (yardV mb H ⟨#[107]⟩ t0 (.slice AN 2 kN) (.slice A1 vs.length c1) (.slice A2 hs.length c2)) 48 (0, 0)) := hW4 ▸ blk_new _ _
  have hA4 := hA.below hb4
  have hP1 := hO1.below hb4
  have hP2 := hO2.below hb4
  have hsz := HB2.out.size
  have HB4 := Lib.hid (below_then (below_then HB2.out HB2.out.size hB3) (by have := hB3.size; omega) hb4)
  have HW4 := Lib.hid hW4
  have HI := Lib.hid hi1
  have HLL := Lib.hid hL
  have HY := Lib.hid hy
  have HL4 := Lib.hid (And.intro hhn (And.intro hln hvn))
  have hh0 : (hs.length : Int) ≠ 0 := by omega
  have hh1 : ((hs.length : Int) == 0) = false := by simpa using hh0
  have hh2 : hs.length ≠ 0 := by omega
  have hh3 : decide (hs.length = 0) = false := decide_eq_false hh2
  have hi40 : i < 40 := by omega
  have hsl : hs.length ≤ 40 := by omega
  obtain ⟨y0, y1, y2, y3, y4, y5, y6⟩ := box7 ky
  clear hW4 hb4 hB3 hA hO1 hO2 hRN hL hi1 hy hhn hln hvn
  go_upto_region 4 with fail
  rw [← HW4.out]
  clear HW4
  obtain ⟨W5, hW5⟩ : ∃ W5 : World, W5 = W4.alloc (.cells #[.int .i64 i] 3) := ⟨_, rfl⟩
  have hb5 : Below W4.heap.size W4 W5 := hW5 ▸ below_alloc (Below.refl _ _) _
  have ki : W5.heap[W4.heap.size]? = some (.cells #[.int .i64 i] 3 (0, 0)) := hW5 ▸ blk_new _ _
  have ky5 := blk_below ky hb5
  have hA5 := hA4.below hb5
  have hP15 := hP1.below hb5
  have hP25 := hP2.below hb5
  have HB5 := Lib.hid (below_then HB4.out HB4.out.size hb5)
  have HW5 := Lib.hid hW5
  go_upto_region 7 with fail
  rw [← HW5.out]
  clear HW5 hW5 hb5 ky hA4 hP1 hP2 y0 y1 y2 y3 y4 y5 y6 hi hi2
  obtain ⟨y0, y1, y2, y3, y4, y5, y6⟩ := box7 ky5
  have hA6 := hA5.alloc (port0 mb)
  have hP6 : PD (W5.alloc (port0 mb)) W5.heap.size mb := blk_new _ _
  have hbp : Below W5.heap.size W5 (W5.alloc (port0 mb)) := below_alloc (Below.refl _ _) _
  have HD := Lib.hid (do2_calls (mb := mb) (fun args W => enters_ Try.func29 (by kernel_rfl) rfl args W) (NodeFells_fn (St.refl hA6 hP6) (by omega) HY.out HLL.out HI.out (blk_below ky5 hbp) (blk_below ki hbp) (hP25.below hbp)))
  have hmf := makeFunc_run
  have hta := ta_bool true
  clear hA6 hP6 hbp hP25
  go_wp2_with fail
  refine HD.out.mono ?_
  rintro e W7 ⟨rfl, ⟨m', hA7, hz⟩, hF⟩
  have hF7 := (Fr.of_below (below_alloc (Below.refl W5.heap.size W5) (port0 mb)) mb cb).trans hF
  have ky7 := hF7.blk hA5 ky5 (by decide) (by decide)
  have ki7 := hF7.blk hA5 ki (by decide) (by decide)
  have hP17 := hP15.fr hA5 hF7
  have hHY := HY.out
  have hC := hHY.row.C
  have hnd := hHY.row.nd
  have hn0 := hHY.nd.n0
  have hw0 := hHY.nd.w0
  have hvl := hHY.vl
  rw [HLL.out] at hC hnd hn0 hvl
  have hC7 := hC.cut hnd hz
  have hw7 : m'.val t0 = some (number z) := by
    rw [hz.other t0 (fun hm => hn0 (by simp only [prevs, List.map_append]; exact List.mem_append_right _ hm))]
    exact hw0
  have hll : (L1 ++ [x]).length = i + 1 := by simp [HI.out]
  have hft := fits_calls (H := H) (low := ⟨#[107]⟩) (hs := hs) (A1 := A1) (A2 := A2) (AN := AN) (c1 := c1) (c2 := c2) (nN := 2) (kN := kN) (n := i + 1) hA7 hw7 hC7 (by rw [hll]; have := HL4.out; omega) (by have := HL4.out; omega) hP17 hll (fun j hj => by rw [hvl]; exact vers_pre HI.out j hj)
  have HFT := Lib.hid hft
  have HBF := Lib.hid (hF7.over HB5.out HB5.out.size (by omega) (by omega))
  have w1 : IntKind.i64.wrap ((i : Int) + 1) = (i : Int) + 1 := IntWalk.i64_in _ (by omega)
  clear y0 y1 y2 y3 y4 y5 y6 hF7 hF HD hft hC hnd hn0 hw0 hvl hC7 hw7 hz hA7 hHY hA5 hP15 ky5 ki
  obtain ⟨y0, y1, y2, y3, y4, y5, y6⟩ := box7 ky7
  have i0 := box1 ki7
  go_wp2_with fail
  rw [show (i : Int) + 1 = ((i + 1 : Nat) : Int) by omega]
  refine HFT.out.mono ?_
  rintro e W8 ⟨rfl, hF8⟩
  have HBG := Lib.hid (hF8.over HBF.out HBF.out.size (by omega) (by omega))
  clear hF8 HFT
  go_wp2_with fail
  go_ret
  exact ⟨rfl, HBG.out⟩
theorem NodeFells_walk (A : Option Addr) (cap : Nat) (l : List Int) (v : Int) (hv : (Lit.int .u8 v).wf = true) (w : World) (hR : (Kd.int .u8).C w A l.length l) (hok : ∀ n ∈ l, (Lit.int .u8 n).wf = true) :
    Calls Try.prog 6 #[.slice A l.length cap, .int .u8 v] w fun e w' => e = .returned (.bool true) ∧ Below w.heap.size w w' := by
  have hv2 : 0 ≤ v ∧ v ≤ 255 := by simpa [Lit.wf, IntKind.min, IntKind.max, IntKind.signed, IntKind.bits] using hv
  by_cases h : l.length < 1 ∨ 40 < l.length
  · exact NodeFells_short A cap l h v w
  · exact NodeFells_main A cap l (by omega) v (by omega) (by omega) w (u8_row hR) (u8_oks hok)
end
end Go.Proofs.Ytcfbjcadpcedhaa.Mem
