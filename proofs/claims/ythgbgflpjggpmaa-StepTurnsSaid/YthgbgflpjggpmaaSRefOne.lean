/- The document's One, by hand. -/
import Derived.Test.YthgbgflpjggpmaaSSim1
import Derived.Outline
namespace Go.Proofs.Ythgbgflpjggpmaa.Mem
open Go.RowKit Go.Proofs.YthgbgflpjggpmaaW.PrintWords Go.Proofs.YthgbgflpjggpmaaW.PrintLast Go.Proofs.Ythgbgflpjggpmaa.Tags
open Go.Proofs.Ythgbgflpjggpmaa.PStepAlone (S57 k57)
open Go.Proofs.Ythgbgflpjggpmaa.RefAlloc
set_option linter.unusedVariables false
set_option linter.unusedSimpArgs false
/-- Whatever is no cell of the document's stays. -/
def Kq (w w' : World) : Prop := ∀ (k : Nat) (t : TypeId) (cs : Array Value), w.heap[k]? = some (Obj.cells cs t (0, 0)) → t ≠ 108 → w'.heap[k]? = some (Obj.cells cs t (0, 0))
theorem rflag_calls (b : Bool) (w : World) : Calls Try.prog 44 #[.bool b] w fun e w' => e = .returned (.int .i64 (flagI b)) ∧ w' = w := by
  cases b with
  | true =>
    go_enter Try.func44, Try.ntmps44
    go_wp2
    go_ret
    exact ⟨rfl, rfl⟩
  | false =>
    go_enter Try.func44, Try.ntmps44
    go_wp2
    go_ret
    exact ⟨rfl, rfl⟩
/-- What One ends in. -/
def OneEnd (w0 w : World) (y : R × Int × Int × Int) (e : Ending) (w' : World) : Prop := ∃ x', e = .returned (.tuple #[x', .int .i64 y.2.1, .int .i64 y.2.2.1, .int .i64 y.2.2.2]) ∧ RV w' w0.heap.size x' y.1 ∧ Below w0.heap.size w0 w' ∧ Kq w w'
theorem boxed13 (w : World) (v : Value) (c lv st : Int) (q : Array Value) : ∃ W, W = ((w.alloc (.cells #[v, .int .i64 c, .int .i64 lv, .int .i64 st] 52)).alloc (.cells q 57)).alloc (.cells #[.slice none 0 0, .int .i64 0, .int .i64 0, .int .i64 0] 52) ∧
    W.heap[w.heap.size]? = some (.cells #[v, .int .i64 c, .int .i64 lv, .int .i64 st] 52 (0, 0)) ∧ W.heap[w.heap.size + 1]? = some (.cells q 57 (0, 0)) ∧ W.heap[w.heap.size + 1 + 1]? = some (.cells #[.slice none 0 0, .int .i64 0, .int .i64 0, .int .i64 0] 52 (0, 0)) ∧ Below w.heap.size w W := by
  refine ⟨_, rfl, blk_alloc (blk_alloc (blk_new _ _) _) _, ?_, ?_, below_alloc (below_alloc (below_alloc (Below.refl _ _) _) _) _⟩
  · have e : w.heap.size + 1 = (w.alloc (.cells #[v, .int .i64 c, .int .i64 lv, .int .i64 st] 52)).heap.size := by simp
    rw [e]
    exact blk_alloc (blk_new _ _) _
  · have e : w.heap.size + 1 + 1 = ((w.alloc (.cells #[v, .int .i64 c, .int .i64 lv, .int .i64 st] 52)).alloc (.cells q 57)).heap.size := by simp
    rw [e]
    exact blk_new _ _
section
variable {w w0 : World} {x_ : Value} {r : R}
set_option maxHeartbeats 6400000 in
set_option maxRecDepth 100000 in
theorem rone_0 (hB : Below w0.heap.size w0 w) (h : RV w w0.heap.size x_ r) (hg : ∀ i, i < r.l.length → 0 ≤ (r.at i).f2) (x : S57) (h0 : 0 ≤ x.f0 ∧ x.f0 ≤ 255) (told : Int) (hd : x.f0 % 7 = 0) :
    Calls Try.prog 20 #[x_, .agg (askV x), .int .i64 told] w (OneEnd w0 w ((R.alloc r 1 x.f2).1, (R.alloc r 1 x.f2).2.1, (R.alloc r 1 x.f2).2.2, if ((R.alloc r 1 x.f2).2.2 == 0) = true then (R.alloc r 1 x.f2).2.1 else told)) := by
  obtain ⟨g, cap, tl, rfl, hbg, hgg, hcp, hcm, hlt⟩ := h.open
  clear hgg hcp hcm hlt hbg
  obtain ⟨W, hW, K3, K4, K6, hb⟩ := boxed13 w (.slice (some ⟨g, 0, none⟩) r.l.length cap) r.c r.lv r.st (askV x)
  have HW := Lib.hid hW
  have hR1 := h.move hb
  have hB1 := below_then hB hB.size hb
  have HCALL := Lib.hid (ralloc_calls hB1 hR1 hg 1 x.f2)
  obtain ⟨r2, nn, ee, hy⟩ : ∃ r2 nn ee, R.alloc r 1 x.f2 = (r2, nn, ee) := ⟨_, _, _, rfl⟩
  rw [hy] at HCALL ⊢
  obtain ⟨tt, htt⟩ : ∃ y, (if (ee == 0) = true then nn else told) = y := ⟨_, rfl⟩
  rw [htt]
  have HTT := Lib.hid htt
  clear htt
  have HR1 := Lib.hid hR1
  have HBB := Lib.hid hb
  have HBS := Lib.hid hB.size
  have HB1 := Lib.hid hB1
  have HK3 := Lib.hid K3
  have HK6 := Lib.hid K6
  obtain ⟨f0, f1, f2, f3, f4, f5⟩ := x
  simp only [askV] at K4 HW ⊢
  simp only at h0 hd
  obtain ⟨y0, y1, y2, y3, y4, y5⟩ := box6 K4
  obtain ⟨x0, x1, x2, x3⟩ := box_cells K3
  (try simp only [hTo] at HCALL)
  clear hW hb h hB hB1 hR1 K3 K4 K6 hy
  cases f4
  all_goals
    (try simp only [if_true, Bool.false_eq_true, if_false] at HCALL)
    go_enter Try.func20, Try.ntmps20
    go_upto_region 1 with fail
    rw [← HW.out]
    go_wp2_with fail
    refine HCALL.out.mono ?_
    clear HCALL HW
    rintro e W2 ⟨x', rfl, hR2, hS2⟩
    have hRS := hS2
    have k3 := RS.blk hRS HR1.out HK3.out (by decide)
    have k6 := RS.blk hRS HR1.out HK6.out (by decide)
    have hKq : Kq w W2 := fun k t cs hk ht => RS.blk hRS HR1.out (blk_below hk HBB.out) ht
    have hB2 := hRS.1
    clear x0 x1 x2 x3 y0 y1 y2 y3 y4 y5 hS2
    obtain ⟨g4, cap4, tl4, rfl, _, _, _, _, _⟩ := hR2.open
    obtain ⟨l4, c4, v4, s4⟩ := r2
    simp only at hR2 ⊢
    obtain ⟨p0, p1, p2, p3⟩ := box_cells k3
    have t0 := blk_frozen k3 0
    have t1 := blk_frozen k3 1
    have t2 := blk_frozen k3 2
    have t3 := blk_frozen k3 3
    obtain ⟨W3, hW3⟩ : ∃ y : World, y = (((W2.setCell ⟨w.heap.size, 0, none⟩ (.slice (some ⟨g4, 0, none⟩) l4.length cap4)).setCell ⟨w.heap.size, 1, none⟩ (.int .i64 c4)).setCell ⟨w.heap.size, 2, none⟩ (.int .i64 v4)).setCell ⟨w.heap.size, 3, none⟩ (.int .i64 s4) := ⟨_, rfl⟩
    have ho3 : Only W2 W3 w.heap.size := by rw [hW3]; exact only4 W2 _ _ _ _ _
    have k3b : W3.heap[w.heap.size]? = some (.cells #[.slice (some ⟨g4, 0, none⟩) l4.length cap4, .int .i64 c4, .int .i64 v4, .int .i64 s4] 52 (0, 0)) := by rw [hW3]; exact blk4 k3 _ _ _ _
    have k6b := (ho3.block _ (show w.heap.size + 1 + 1 ≠ w.heap.size by omega)).trans k6
    have hR3 := RV.only hR2 ho3 k3 (by decide)
    have hB3 := Below.only hB2 ho3 HBS.out
    have k6c := blk4 k6b (.slice (some ⟨g4, 0, none⟩) l4.length cap4) (.int .i64 c4) (.int .i64 v4) (.int .i64 s4)
    have ho4 := only4 W3 (w.heap.size + 1 + 1) (.slice (some ⟨g4, 0, none⟩) l4.length cap4) (.int .i64 c4) (.int .i64 v4) (.int .i64 s4)
    have hR4 := RV.only hR3 ho4 k6b (by decide)
    have hB4 := Below.only hB3 ho4 (by have := HBS.out; omega)
    have hK4 : Kq w (set4 W3 (w.heap.size + 1 + 1) (.slice (some ⟨g4, 0, none⟩) l4.length cap4) (.int .i64 c4) (.int .i64 v4) (.int .i64 s4)) := fun k t cs hk ht => (ho4.block k (by have := blk_lt hk; omega)).trans ((ho3.block k (by have := blk_lt hk; omega)).trans (hKq k t cs hk ht))
    have HW3 := Lib.hid hW3
    have HR4 := Lib.hid hR4
    have HB4 := Lib.hid hB4
    have HK4 := Lib.hid hK4
    have HK3B := Lib.hid k3b
    have HK6B := Lib.hid k6b
    have HK6C := Lib.hid k6c
    have HK62 := Lib.hid k6
    clear hW3 ho3 hR3 hB3 ho4 hR4 hB4 hK4 hKq hB2 hRS hR2 k3 k3b k6 k6b k6c
    by_cases hz : (ee == 0) = true
    · have ht := HTT.out
      rw [if_pos hz] at ht
      subst ht
      go_upto_region 24 with fail
      rw [← HW3.out]
      clear p0 p1 p2 p3 t0 t1 t2 t3 HW3
      obtain ⟨p0, p1, p2, p3⟩ := box_cells HK3B.out
      obtain ⟨q0, q1, q2, q3⟩ := box_cells HK6B.out
      obtain ⟨u0, u1, u2, u3⟩ := box_cells HK6C.out
      have t0 := blk_frozen HK6B.out 0
      have t1 := blk_frozen HK6B.out 1
      have t2 := blk_frozen HK6B.out 2
      have t3 := blk_frozen HK6B.out 3
      go_wp2_with fail
      exact bodyPost_ret (v := .tuple #[agg4 (.slice (some ⟨g4, 0, none⟩) l4.length cap4) c4 v4 s4, .int .i64 nn, .int .i64 ee, .int .i64 nn]) (by simp [results, Try.results20, go_sem, u0, u1, u2, u3]) rfl ⟨_, rfl, HR4.out, HB4.out, HK4.out⟩
    · have hz1 : (ee == 0) = false := by simpa using hz
      have ht := HTT.out
      rw [if_neg hz] at ht
      subst ht
      go_upto_region 24 with fail
      rw [← HW3.out]
      clear p0 p1 p2 p3 t0 t1 t2 t3 HW3
      obtain ⟨p0, p1, p2, p3⟩ := box_cells HK3B.out
      obtain ⟨q0, q1, q2, q3⟩ := box_cells HK6B.out
      obtain ⟨u0, u1, u2, u3⟩ := box_cells HK6C.out
      have t0 := blk_frozen HK6B.out 0
      have t1 := blk_frozen HK6B.out 1
      have t2 := blk_frozen HK6B.out 2
      have t3 := blk_frozen HK6B.out 3
      go_wp2_with fail
      exact bodyPost_ret (v := .tuple #[agg4 (.slice (some ⟨g4, 0, none⟩) l4.length cap4) c4 v4 s4, .int .i64 nn, .int .i64 ee, .int .i64 told]) (by simp [results, Try.results20, go_sem, u0, u1, u2, u3]) rfl ⟨_, rfl, HR4.out, HB4.out, HK4.out⟩
set_option maxHeartbeats 6400000 in
set_option maxRecDepth 100000 in
theorem rone_1 (hB : Below w0.heap.size w0 w) (h : RV w w0.heap.size x_ r) (hg : ∀ i, i < r.l.length → 0 ≤ (r.at i).f2) (x : S57) (h0 : 0 ≤ x.f0 ∧ x.f0 ≤ 255) (told : Int) (hd : x.f0 % 7 = 1) :
    Calls Try.prog 20 #[x_, .agg (askV x), .int .i64 told] w (OneEnd w0 w ((r.look (hTo x told) 1).1, (r.look (hTo x told) 1).2.1, (r.look (hTo x told) 1).2.2, told)) := by
  obtain ⟨g, cap, tl, rfl, hbg, hgg, hcp, hcm, hlt⟩ := h.open
  clear hgg hcp hcm hlt hbg
  obtain ⟨W, hW, K3, K4, K6, hb⟩ := boxed13 w (.slice (some ⟨g, 0, none⟩) r.l.length cap) r.c r.lv r.st (askV x)
  have HW := Lib.hid hW
  have hR1 := h.move hb
  have hB1 := below_then hB hB.size hb
  have HCALL := Lib.hid (look_calls hB1 hR1 (hTo x told) 1)
  obtain ⟨r2, nn, ee, hy⟩ : ∃ r2 nn ee, r.look (hTo x told) 1 = (r2, nn, ee) := ⟨_, _, _, rfl⟩
  rw [hy] at HCALL ⊢
  have HR1 := Lib.hid hR1
  have HBB := Lib.hid hb
  have HBS := Lib.hid hB.size
  have HB1 := Lib.hid hB1
  have HK3 := Lib.hid K3
  have HK6 := Lib.hid K6
  obtain ⟨f0, f1, f2, f3, f4, f5⟩ := x
  simp only [askV] at K4 HW ⊢
  simp only at h0 hd
  obtain ⟨y0, y1, y2, y3, y4, y5⟩ := box6 K4
  obtain ⟨x0, x1, x2, x3⟩ := box_cells K3
  (try simp only [hTo] at HCALL)
  clear hW hb h hB hB1 hR1 K3 K4 K6 hy
  cases f4
  all_goals
    (try simp only [if_true, Bool.false_eq_true, if_false] at HCALL)
    go_enter Try.func20, Try.ntmps20
    go_upto_region 1 with fail
    rw [← HW.out]
    go_wp2_with fail
    refine HCALL.out.mono ?_
    clear HCALL HW
    rintro e W2 ⟨x', rfl, hR2, hS2⟩
    have hRS := hS2
    have k3 := RS.blk hRS HR1.out HK3.out (by decide)
    have k6 := RS.blk hRS HR1.out HK6.out (by decide)
    have hKq : Kq w W2 := fun k t cs hk ht => RS.blk hRS HR1.out (blk_below hk HBB.out) ht
    have hB2 := hRS.1
    clear x0 x1 x2 x3 y0 y1 y2 y3 y4 y5 hS2
    obtain ⟨g4, cap4, tl4, rfl, _, _, _, _, _⟩ := hR2.open
    obtain ⟨l4, c4, v4, s4⟩ := r2
    simp only at hR2 ⊢
    obtain ⟨p0, p1, p2, p3⟩ := box_cells k3
    have t0 := blk_frozen k3 0
    have t1 := blk_frozen k3 1
    have t2 := blk_frozen k3 2
    have t3 := blk_frozen k3 3
    obtain ⟨W3, hW3⟩ : ∃ y : World, y = (((W2.setCell ⟨w.heap.size, 0, none⟩ (.slice (some ⟨g4, 0, none⟩) l4.length cap4)).setCell ⟨w.heap.size, 1, none⟩ (.int .i64 c4)).setCell ⟨w.heap.size, 2, none⟩ (.int .i64 v4)).setCell ⟨w.heap.size, 3, none⟩ (.int .i64 s4) := ⟨_, rfl⟩
    have ho3 : Only W2 W3 w.heap.size := by rw [hW3]; exact only4 W2 _ _ _ _ _
    have k3b : W3.heap[w.heap.size]? = some (.cells #[.slice (some ⟨g4, 0, none⟩) l4.length cap4, .int .i64 c4, .int .i64 v4, .int .i64 s4] 52 (0, 0)) := by rw [hW3]; exact blk4 k3 _ _ _ _
    have k6b := (ho3.block _ (show w.heap.size + 1 + 1 ≠ w.heap.size by omega)).trans k6
    have hR3 := RV.only hR2 ho3 k3 (by decide)
    have hB3 := Below.only hB2 ho3 HBS.out
    have k6c := blk4 k6b (.slice (some ⟨g4, 0, none⟩) l4.length cap4) (.int .i64 c4) (.int .i64 v4) (.int .i64 s4)
    have ho4 := only4 W3 (w.heap.size + 1 + 1) (.slice (some ⟨g4, 0, none⟩) l4.length cap4) (.int .i64 c4) (.int .i64 v4) (.int .i64 s4)
    have hR4 := RV.only hR3 ho4 k6b (by decide)
    have hB4 := Below.only hB3 ho4 (by have := HBS.out; omega)
    have hK4 : Kq w (set4 W3 (w.heap.size + 1 + 1) (.slice (some ⟨g4, 0, none⟩) l4.length cap4) (.int .i64 c4) (.int .i64 v4) (.int .i64 s4)) := fun k t cs hk ht => (ho4.block k (by have := blk_lt hk; omega)).trans ((ho3.block k (by have := blk_lt hk; omega)).trans (hKq k t cs hk ht))
    have HW3 := Lib.hid hW3
    have HR4 := Lib.hid hR4
    have HB4 := Lib.hid hB4
    have HK4 := Lib.hid hK4
    have HK3B := Lib.hid k3b
    have HK6B := Lib.hid k6b
    have HK6C := Lib.hid k6c
    have HK62 := Lib.hid k6
    clear hW3 ho3 hR3 hB3 ho4 hR4 hB4 hK4 hKq hB2 hRS hR2 k3 k3b k6 k6b k6c
    go_upto_region 24 with fail
    rw [← HW3.out]
    clear p0 p1 p2 p3 t0 t1 t2 t3 HW3
    obtain ⟨p0, p1, p2, p3⟩ := box_cells HK3B.out
    obtain ⟨q0, q1, q2, q3⟩ := box_cells HK6B.out
    obtain ⟨u0, u1, u2, u3⟩ := box_cells HK6C.out
    have t0 := blk_frozen HK6B.out 0
    have t1 := blk_frozen HK6B.out 1
    have t2 := blk_frozen HK6B.out 2
    have t3 := blk_frozen HK6B.out 3
    go_wp2_with fail
    exact bodyPost_ret (v := .tuple #[agg4 (.slice (some ⟨g4, 0, none⟩) l4.length cap4) c4 v4 s4, .int .i64 (nn), .int .i64 ee, .int .i64 told]) (by simp [results, Try.results20, go_sem, u0, u1, u2, u3]) rfl ⟨_, rfl, HR4.out, HB4.out, HK4.out⟩
set_option maxHeartbeats 6400000 in
set_option maxRecDepth 100000 in
theorem rone_2 (hB : Below w0.heap.size w0 w) (h : RV w w0.heap.size x_ r) (hg : ∀ i, i < r.l.length → 0 ≤ (r.at i).f2) (x : S57) (h0 : 0 ≤ x.f0 ∧ x.f0 ≤ 255) (told : Int) (hd : x.f0 % 7 = 2) :
    Calls Try.prog 20 #[x_, .agg (askV x), .int .i64 told] w (OneEnd w0 w ((r.swap (hTo x told) 0 x.f2 true).1, 0, (r.swap (hTo x told) 0 x.f2 true).2.2, told)) := by
  obtain ⟨g, cap, tl, rfl, hbg, hgg, hcp, hcm, hlt⟩ := h.open
  clear hgg hcp hcm hlt hbg
  obtain ⟨W, hW, K3, K4, K6, hb⟩ := boxed13 w (.slice (some ⟨g, 0, none⟩) r.l.length cap) r.c r.lv r.st (askV x)
  have HW := Lib.hid hW
  have hR1 := h.move hb
  have hB1 := below_then hB hB.size hb
  have HCALL := Lib.hid (swap_calls hB1 hR1 (hTo x told) 0 x.f2 true)
  obtain ⟨r2, bb, ee, hy⟩ : ∃ r2 bb ee, r.swap (hTo x told) 0 x.f2 true = (r2, bb, ee) := ⟨_, _, _, rfl⟩
  rw [hy] at HCALL ⊢
  have HR1 := Lib.hid hR1
  have HBB := Lib.hid hb
  have HBS := Lib.hid hB.size
  have HB1 := Lib.hid hB1
  have HK3 := Lib.hid K3
  have HK6 := Lib.hid K6
  obtain ⟨f0, f1, f2, f3, f4, f5⟩ := x
  simp only [askV] at K4 HW ⊢
  simp only at h0 hd
  obtain ⟨y0, y1, y2, y3, y4, y5⟩ := box6 K4
  obtain ⟨x0, x1, x2, x3⟩ := box_cells K3
  (try simp only [hTo] at HCALL)
  clear hW hb h hB hB1 hR1 K3 K4 K6 hy
  cases f4
  all_goals
    (try simp only [if_true, Bool.false_eq_true, if_false] at HCALL)
    go_enter Try.func20, Try.ntmps20
    go_upto_region 1 with fail
    rw [← HW.out]
    go_wp2_with fail
    refine HCALL.out.mono ?_
    clear HCALL HW
    rintro e W2 ⟨x', rfl, hR2, hS2⟩
    have hRS := hS2
    have k3 := RS.blk hRS HR1.out HK3.out (by decide)
    have k6 := RS.blk hRS HR1.out HK6.out (by decide)
    have hKq : Kq w W2 := fun k t cs hk ht => RS.blk hRS HR1.out (blk_below hk HBB.out) ht
    have hB2 := hRS.1
    clear x0 x1 x2 x3 y0 y1 y2 y3 y4 y5 hS2
    obtain ⟨g4, cap4, tl4, rfl, _, _, _, _, _⟩ := hR2.open
    obtain ⟨l4, c4, v4, s4⟩ := r2
    simp only at hR2 ⊢
    obtain ⟨p0, p1, p2, p3⟩ := box_cells k3
    have t0 := blk_frozen k3 0
    have t1 := blk_frozen k3 1
    have t2 := blk_frozen k3 2
    have t3 := blk_frozen k3 3
    obtain ⟨W3, hW3⟩ : ∃ y : World, y = (((W2.setCell ⟨w.heap.size, 0, none⟩ (.slice (some ⟨g4, 0, none⟩) l4.length cap4)).setCell ⟨w.heap.size, 1, none⟩ (.int .i64 c4)).setCell ⟨w.heap.size, 2, none⟩ (.int .i64 v4)).setCell ⟨w.heap.size, 3, none⟩ (.int .i64 s4) := ⟨_, rfl⟩
    have ho3 : Only W2 W3 w.heap.size := by rw [hW3]; exact only4 W2 _ _ _ _ _
    have k3b : W3.heap[w.heap.size]? = some (.cells #[.slice (some ⟨g4, 0, none⟩) l4.length cap4, .int .i64 c4, .int .i64 v4, .int .i64 s4] 52 (0, 0)) := by rw [hW3]; exact blk4 k3 _ _ _ _
    have k6b := (ho3.block _ (show w.heap.size + 1 + 1 ≠ w.heap.size by omega)).trans k6
    have hR3 := RV.only hR2 ho3 k3 (by decide)
    have hB3 := Below.only hB2 ho3 HBS.out
    have k6c := blk4 k6b (.slice (some ⟨g4, 0, none⟩) l4.length cap4) (.int .i64 c4) (.int .i64 v4) (.int .i64 s4)
    have ho4 := only4 W3 (w.heap.size + 1 + 1) (.slice (some ⟨g4, 0, none⟩) l4.length cap4) (.int .i64 c4) (.int .i64 v4) (.int .i64 s4)
    have hR4 := RV.only hR3 ho4 k6b (by decide)
    have hB4 := Below.only hB3 ho4 (by have := HBS.out; omega)
    have hK4 : Kq w (set4 W3 (w.heap.size + 1 + 1) (.slice (some ⟨g4, 0, none⟩) l4.length cap4) (.int .i64 c4) (.int .i64 v4) (.int .i64 s4)) := fun k t cs hk ht => (ho4.block k (by have := blk_lt hk; omega)).trans ((ho3.block k (by have := blk_lt hk; omega)).trans (hKq k t cs hk ht))
    have HW3 := Lib.hid hW3
    have HR4 := Lib.hid hR4
    have HB4 := Lib.hid hB4
    have HK4 := Lib.hid hK4
    have HK3B := Lib.hid k3b
    have HK6B := Lib.hid k6b
    have HK6C := Lib.hid k6c
    have HK62 := Lib.hid k6
    clear hW3 ho3 hR3 hB3 ho4 hR4 hB4 hK4 hKq hB2 hRS hR2 k3 k3b k6 k6b k6c
    go_upto_region 24 with fail
    rw [← HW3.out]
    clear p0 p1 p2 p3 t0 t1 t2 t3 HW3
    obtain ⟨p0, p1, p2, p3⟩ := box_cells HK3B.out
    obtain ⟨q0, q1, q2, q3⟩ := box_cells HK6B.out
    obtain ⟨u0, u1, u2, u3⟩ := box_cells HK6C.out
    have t0 := blk_frozen HK6B.out 0
    have t1 := blk_frozen HK6B.out 1
    have t2 := blk_frozen HK6B.out 2
    have t3 := blk_frozen HK6B.out 3
    go_wp2_with fail
    exact bodyPost_ret (v := .tuple #[agg4 (.slice (some ⟨g4, 0, none⟩) l4.length cap4) c4 v4 s4, .int .i64 (0), .int .i64 ee, .int .i64 told]) (by simp [results, Try.results20, go_sem, u0, u1, u2, u3]) rfl ⟨_, rfl, HR4.out, HB4.out, HK4.out⟩
set_option maxHeartbeats 6400000 in
set_option maxRecDepth 100000 in
theorem rone_3 (hB : Below w0.heap.size w0 w) (h : RV w w0.heap.size x_ r) (hg : ∀ i, i < r.l.length → 0 ≤ (r.at i).f2) (x : S57) (h0 : 0 ≤ x.f0 ∧ x.f0 ≤ 255) (told : Int) (hd : x.f0 % 7 = 3) :
    Calls Try.prog 20 #[x_, .agg (askV x), .int .i64 told] w (OneEnd w0 w ((r.swap (hTo x told) x.f2 x.f3 false).1, flagI (r.swap (hTo x told) x.f2 x.f3 false).2.1, (r.swap (hTo x told) x.f2 x.f3 false).2.2, told)) := by
  obtain ⟨g, cap, tl, rfl, hbg, hgg, hcp, hcm, hlt⟩ := h.open
  clear hgg hcp hcm hlt hbg
  obtain ⟨W, hW, K3, K4, K6, hb⟩ := boxed13 w (.slice (some ⟨g, 0, none⟩) r.l.length cap) r.c r.lv r.st (askV x)
  have HW := Lib.hid hW
  have hR1 := h.move hb
  have hB1 := below_then hB hB.size hb
  have HCALL := Lib.hid (swap_calls hB1 hR1 (hTo x told) x.f2 x.f3 false)
  obtain ⟨r2, bb, ee, hy⟩ : ∃ r2 bb ee, r.swap (hTo x told) x.f2 x.f3 false = (r2, bb, ee) := ⟨_, _, _, rfl⟩
  rw [hy] at HCALL ⊢
  have HR1 := Lib.hid hR1
  have HBB := Lib.hid hb
  have HBS := Lib.hid hB.size
  have HB1 := Lib.hid hB1
  have HK3 := Lib.hid K3
  have HK6 := Lib.hid K6
  obtain ⟨f0, f1, f2, f3, f4, f5⟩ := x
  simp only [askV] at K4 HW ⊢
  simp only at h0 hd
  obtain ⟨y0, y1, y2, y3, y4, y5⟩ := box6 K4
  obtain ⟨x0, x1, x2, x3⟩ := box_cells K3
  (try simp only [hTo] at HCALL)
  clear hW hb h hB hB1 hR1 K3 K4 K6 hy
  cases f4
  all_goals
    (try simp only [if_true, Bool.false_eq_true, if_false] at HCALL)
    go_enter Try.func20, Try.ntmps20
    go_upto_region 1 with fail
    rw [← HW.out]
    go_wp2_with fail
    refine HCALL.out.mono ?_
    clear HCALL HW
    rintro e W2 ⟨x', rfl, hR2, hS2⟩
    have hRS := hS2
    have k3 := RS.blk hRS HR1.out HK3.out (by decide)
    have k6 := RS.blk hRS HR1.out HK6.out (by decide)
    have hKq : Kq w W2 := fun k t cs hk ht => RS.blk hRS HR1.out (blk_below hk HBB.out) ht
    have hB2 := hRS.1
    clear x0 x1 x2 x3 y0 y1 y2 y3 y4 y5 hS2
    obtain ⟨g4, cap4, tl4, rfl, _, _, _, _, _⟩ := hR2.open
    obtain ⟨l4, c4, v4, s4⟩ := r2
    simp only at hR2 ⊢
    obtain ⟨p0, p1, p2, p3⟩ := box_cells k3
    have t0 := blk_frozen k3 0
    have t1 := blk_frozen k3 1
    have t2 := blk_frozen k3 2
    have t3 := blk_frozen k3 3
    obtain ⟨W3, hW3⟩ : ∃ y : World, y = (((W2.setCell ⟨w.heap.size, 0, none⟩ (.slice (some ⟨g4, 0, none⟩) l4.length cap4)).setCell ⟨w.heap.size, 1, none⟩ (.int .i64 c4)).setCell ⟨w.heap.size, 2, none⟩ (.int .i64 v4)).setCell ⟨w.heap.size, 3, none⟩ (.int .i64 s4) := ⟨_, rfl⟩
    have ho3 : Only W2 W3 w.heap.size := by rw [hW3]; exact only4 W2 _ _ _ _ _
    have k3b : W3.heap[w.heap.size]? = some (.cells #[.slice (some ⟨g4, 0, none⟩) l4.length cap4, .int .i64 c4, .int .i64 v4, .int .i64 s4] 52 (0, 0)) := by rw [hW3]; exact blk4 k3 _ _ _ _
    have k6b := (ho3.block _ (show w.heap.size + 1 + 1 ≠ w.heap.size by omega)).trans k6
    have hR3 := RV.only hR2 ho3 k3 (by decide)
    have hB3 := Below.only hB2 ho3 HBS.out
    have k6c := blk4 k6b (.slice (some ⟨g4, 0, none⟩) l4.length cap4) (.int .i64 c4) (.int .i64 v4) (.int .i64 s4)
    have ho4 := only4 W3 (w.heap.size + 1 + 1) (.slice (some ⟨g4, 0, none⟩) l4.length cap4) (.int .i64 c4) (.int .i64 v4) (.int .i64 s4)
    have hR4 := RV.only hR3 ho4 k6b (by decide)
    have hB4 := Below.only hB3 ho4 (by have := HBS.out; omega)
    have hK4 : Kq w (set4 W3 (w.heap.size + 1 + 1) (.slice (some ⟨g4, 0, none⟩) l4.length cap4) (.int .i64 c4) (.int .i64 v4) (.int .i64 s4)) := fun k t cs hk ht => (ho4.block k (by have := blk_lt hk; omega)).trans ((ho3.block k (by have := blk_lt hk; omega)).trans (hKq k t cs hk ht))
    have HW3 := Lib.hid hW3
    have HR4 := Lib.hid hR4
    have HB4 := Lib.hid hB4
    have HK4 := Lib.hid hK4
    have HK3B := Lib.hid k3b
    have HK6B := Lib.hid k6b
    have HK6C := Lib.hid k6c
    have HK62 := Lib.hid k6
    clear hW3 ho3 hR3 hB3 ho4 hR4 hB4 hK4 hKq hB2 hRS hR2 k3 k3b k6 k6b k6c
    go_wp2_with fail
    refine (rflag_calls bb _).mono ?_
    rintro e w9 ⟨rfl, rfl⟩
    go_upto_region 24 with fail
    rw [← HW3.out]
    clear p0 p1 p2 p3 t0 t1 t2 t3 HW3
    obtain ⟨p0, p1, p2, p3⟩ := box_cells HK3B.out
    obtain ⟨q0, q1, q2, q3⟩ := box_cells HK6B.out
    obtain ⟨u0, u1, u2, u3⟩ := box_cells HK6C.out
    have t0 := blk_frozen HK6B.out 0
    have t1 := blk_frozen HK6B.out 1
    have t2 := blk_frozen HK6B.out 2
    have t3 := blk_frozen HK6B.out 3
    go_wp2_with fail
    exact bodyPost_ret (v := .tuple #[agg4 (.slice (some ⟨g4, 0, none⟩) l4.length cap4) c4 v4 s4, .int .i64 (flagI bb), .int .i64 ee, .int .i64 told]) (by simp [results, Try.results20, go_sem, u0, u1, u2, u3]) rfl ⟨_, rfl, HR4.out, HB4.out, HK4.out⟩
set_option maxHeartbeats 6400000 in
set_option maxRecDepth 100000 in
theorem rone_4 (hB : Below w0.heap.size w0 w) (h : RV w w0.heap.size x_ r) (hg : ∀ i, i < r.l.length → 0 ≤ (r.at i).f2) (x : S57) (h0 : 0 ≤ x.f0 ∧ x.f0 ≤ 255) (told : Int) (hd : x.f0 % 7 = 4) :
    Calls Try.prog 20 #[x_, .agg (askV x), .int .i64 told] w (OneEnd w0 w ((r.free (hTo x told)).1, 0, (r.free (hTo x told)).2, told)) := by
  obtain ⟨g, cap, tl, rfl, hbg, hgg, hcp, hcm, hlt⟩ := h.open
  clear hgg hcp hcm hlt hbg
  obtain ⟨W, hW, K3, K4, K6, hb⟩ := boxed13 w (.slice (some ⟨g, 0, none⟩) r.l.length cap) r.c r.lv r.st (askV x)
  have HW := Lib.hid hW
  have hR1 := h.move hb
  have hB1 := below_then hB hB.size hb
  have HCALL := Lib.hid (Go.Proofs.Ythgbgflpjggpmaa.RefAlloc.free_calls hB1 hR1 (hTo x told))
  obtain ⟨r2, ee, hy⟩ : ∃ r2 ee, r.free (hTo x told) = (r2, ee) := ⟨_, _, rfl⟩
  rw [hy] at HCALL ⊢
  have HR1 := Lib.hid hR1
  have HBB := Lib.hid hb
  have HBS := Lib.hid hB.size
  have HB1 := Lib.hid hB1
  have HK3 := Lib.hid K3
  have HK6 := Lib.hid K6
  obtain ⟨f0, f1, f2, f3, f4, f5⟩ := x
  simp only [askV] at K4 HW ⊢
  simp only at h0 hd
  obtain ⟨y0, y1, y2, y3, y4, y5⟩ := box6 K4
  obtain ⟨x0, x1, x2, x3⟩ := box_cells K3
  (try simp only [hTo] at HCALL)
  clear hW hb h hB hB1 hR1 K3 K4 K6 hy
  cases f4
  all_goals
    (try simp only [if_true, Bool.false_eq_true, if_false] at HCALL)
    go_enter Try.func20, Try.ntmps20
    go_upto_region 1 with fail
    rw [← HW.out]
    go_wp2_with fail
    refine HCALL.out.mono ?_
    clear HCALL HW
    rintro e W2 ⟨x', rfl, hR2, hS2⟩
    have hRS := hS2
    have k3 := RS.blk hRS HR1.out HK3.out (by decide)
    have k6 := RS.blk hRS HR1.out HK6.out (by decide)
    have hKq : Kq w W2 := fun k t cs hk ht => RS.blk hRS HR1.out (blk_below hk HBB.out) ht
    have hB2 := hRS.1
    clear x0 x1 x2 x3 y0 y1 y2 y3 y4 y5 hS2
    obtain ⟨g4, cap4, tl4, rfl, _, _, _, _, _⟩ := hR2.open
    obtain ⟨l4, c4, v4, s4⟩ := r2
    simp only at hR2 ⊢
    obtain ⟨p0, p1, p2, p3⟩ := box_cells k3
    have t0 := blk_frozen k3 0
    have t1 := blk_frozen k3 1
    have t2 := blk_frozen k3 2
    have t3 := blk_frozen k3 3
    obtain ⟨W3, hW3⟩ : ∃ y : World, y = (((W2.setCell ⟨w.heap.size, 0, none⟩ (.slice (some ⟨g4, 0, none⟩) l4.length cap4)).setCell ⟨w.heap.size, 1, none⟩ (.int .i64 c4)).setCell ⟨w.heap.size, 2, none⟩ (.int .i64 v4)).setCell ⟨w.heap.size, 3, none⟩ (.int .i64 s4) := ⟨_, rfl⟩
    have ho3 : Only W2 W3 w.heap.size := by rw [hW3]; exact only4 W2 _ _ _ _ _
    have k3b : W3.heap[w.heap.size]? = some (.cells #[.slice (some ⟨g4, 0, none⟩) l4.length cap4, .int .i64 c4, .int .i64 v4, .int .i64 s4] 52 (0, 0)) := by rw [hW3]; exact blk4 k3 _ _ _ _
    have k6b := (ho3.block _ (show w.heap.size + 1 + 1 ≠ w.heap.size by omega)).trans k6
    have hR3 := RV.only hR2 ho3 k3 (by decide)
    have hB3 := Below.only hB2 ho3 HBS.out
    have k6c := blk4 k6b (.slice (some ⟨g4, 0, none⟩) l4.length cap4) (.int .i64 c4) (.int .i64 v4) (.int .i64 s4)
    have ho4 := only4 W3 (w.heap.size + 1 + 1) (.slice (some ⟨g4, 0, none⟩) l4.length cap4) (.int .i64 c4) (.int .i64 v4) (.int .i64 s4)
    have hR4 := RV.only hR3 ho4 k6b (by decide)
    have hB4 := Below.only hB3 ho4 (by have := HBS.out; omega)
    have hK4 : Kq w (set4 W3 (w.heap.size + 1 + 1) (.slice (some ⟨g4, 0, none⟩) l4.length cap4) (.int .i64 c4) (.int .i64 v4) (.int .i64 s4)) := fun k t cs hk ht => (ho4.block k (by have := blk_lt hk; omega)).trans ((ho3.block k (by have := blk_lt hk; omega)).trans (hKq k t cs hk ht))
    have HW3 := Lib.hid hW3
    have HR4 := Lib.hid hR4
    have HB4 := Lib.hid hB4
    have HK4 := Lib.hid hK4
    have HK3B := Lib.hid k3b
    have HK6B := Lib.hid k6b
    have HK6C := Lib.hid k6c
    have HK62 := Lib.hid k6
    clear hW3 ho3 hR3 hB3 ho4 hR4 hB4 hK4 hKq hB2 hRS hR2 k3 k3b k6 k6b k6c
    go_upto_region 24 with fail
    rw [← HW3.out]
    clear p0 p1 p2 p3 t0 t1 t2 t3 HW3
    obtain ⟨p0, p1, p2, p3⟩ := box_cells HK3B.out
    obtain ⟨q0, q1, q2, q3⟩ := box_cells HK6B.out
    obtain ⟨u0, u1, u2, u3⟩ := box_cells HK6C.out
    have t0 := blk_frozen HK6B.out 0
    have t1 := blk_frozen HK6B.out 1
    have t2 := blk_frozen HK6B.out 2
    have t3 := blk_frozen HK6B.out 3
    go_wp2_with fail
    exact bodyPost_ret (v := .tuple #[agg4 (.slice (some ⟨g4, 0, none⟩) l4.length cap4) c4 v4 s4, .int .i64 (0), .int .i64 ee, .int .i64 told]) (by simp [results, Try.results20, go_sem, u0, u1, u2, u3]) rfl ⟨_, rfl, HR4.out, HB4.out, HK4.out⟩
set_option maxHeartbeats 6400000 in
set_option maxRecDepth 100000 in
theorem rone_5 (hB : Below w0.heap.size w0 w) (h : RV w w0.heap.size x_ r) (hg : ∀ i, i < r.l.length → 0 ≤ (r.at i).f2) (x : S57) (h0 : 0 ≤ x.f0 ∧ x.f0 ≤ 255) (told : Int) (hd : x.f0 % 7 = 5) :
    Calls Try.prog 20 #[x_, .agg (askV x), .int .i64 told] w (OneEnd w0 w ((r.retire (hTo x told) x.f2).1, 0, (r.retire (hTo x told) x.f2).2, told)) := by
  obtain ⟨g, cap, tl, rfl, hbg, hgg, hcp, hcm, hlt⟩ := h.open
  clear hgg hcp hcm hlt hbg
  obtain ⟨W, hW, K3, K4, K6, hb⟩ := boxed13 w (.slice (some ⟨g, 0, none⟩) r.l.length cap) r.c r.lv r.st (askV x)
  have HW := Lib.hid hW
  have hR1 := h.move hb
  have hB1 := below_then hB hB.size hb
  have HCALL := Lib.hid (Go.Proofs.Ythgbgflpjggpmaa.RefAlloc.retire_calls hR1 hB1.size (hTo x told) x.f2)
  obtain ⟨r2, ee, hy⟩ : ∃ r2 ee, r.retire (hTo x told) x.f2 = (r2, ee) := ⟨_, _, rfl⟩
  rw [hy] at HCALL ⊢
  have HR1 := Lib.hid hR1
  have HBB := Lib.hid hb
  have HBS := Lib.hid hB.size
  have HB1 := Lib.hid hB1
  have HK3 := Lib.hid K3
  have HK6 := Lib.hid K6
  obtain ⟨f0, f1, f2, f3, f4, f5⟩ := x
  simp only [askV] at K4 HW ⊢
  simp only at h0 hd
  obtain ⟨y0, y1, y2, y3, y4, y5⟩ := box6 K4
  obtain ⟨x0, x1, x2, x3⟩ := box_cells K3
  (try simp only [hTo] at HCALL)
  clear hW hb h hB hB1 hR1 K3 K4 K6 hy
  cases f4
  all_goals
    (try simp only [if_true, Bool.false_eq_true, if_false] at HCALL)
    go_enter Try.func20, Try.ntmps20
    go_upto_region 1 with fail
    rw [← HW.out]
    go_wp2_with fail
    refine HCALL.out.mono ?_
    clear HCALL HW
    rintro e W2 ⟨x', rfl, hR2, hS2⟩
    have hRS := RS.of_below HB1.out hS2 (RV.own (agg4 (.slice (some ⟨g, 0, none⟩) r.l.length cap) r.c r.lv r.st))
    have k3 := RS.blk hRS HR1.out HK3.out (by decide)
    have k6 := RS.blk hRS HR1.out HK6.out (by decide)
    have hKq : Kq w W2 := fun k t cs hk ht => RS.blk hRS HR1.out (blk_below hk HBB.out) ht
    have hB2 := hRS.1
    clear x0 x1 x2 x3 y0 y1 y2 y3 y4 y5 hS2
    obtain ⟨g4, cap4, tl4, rfl, _, _, _, _, _⟩ := hR2.open
    obtain ⟨l4, c4, v4, s4⟩ := r2
    simp only at hR2 ⊢
    obtain ⟨p0, p1, p2, p3⟩ := box_cells k3
    have t0 := blk_frozen k3 0
    have t1 := blk_frozen k3 1
    have t2 := blk_frozen k3 2
    have t3 := blk_frozen k3 3
    obtain ⟨W3, hW3⟩ : ∃ y : World, y = (((W2.setCell ⟨w.heap.size, 0, none⟩ (.slice (some ⟨g4, 0, none⟩) l4.length cap4)).setCell ⟨w.heap.size, 1, none⟩ (.int .i64 c4)).setCell ⟨w.heap.size, 2, none⟩ (.int .i64 v4)).setCell ⟨w.heap.size, 3, none⟩ (.int .i64 s4) := ⟨_, rfl⟩
    have ho3 : Only W2 W3 w.heap.size := by rw [hW3]; exact only4 W2 _ _ _ _ _
    have k3b : W3.heap[w.heap.size]? = some (.cells #[.slice (some ⟨g4, 0, none⟩) l4.length cap4, .int .i64 c4, .int .i64 v4, .int .i64 s4] 52 (0, 0)) := by rw [hW3]; exact blk4 k3 _ _ _ _
    have k6b := (ho3.block _ (show w.heap.size + 1 + 1 ≠ w.heap.size by omega)).trans k6
    have hR3 := RV.only hR2 ho3 k3 (by decide)
    have hB3 := Below.only hB2 ho3 HBS.out
    have k6c := blk4 k6b (.slice (some ⟨g4, 0, none⟩) l4.length cap4) (.int .i64 c4) (.int .i64 v4) (.int .i64 s4)
    have ho4 := only4 W3 (w.heap.size + 1 + 1) (.slice (some ⟨g4, 0, none⟩) l4.length cap4) (.int .i64 c4) (.int .i64 v4) (.int .i64 s4)
    have hR4 := RV.only hR3 ho4 k6b (by decide)
    have hB4 := Below.only hB3 ho4 (by have := HBS.out; omega)
    have hK4 : Kq w (set4 W3 (w.heap.size + 1 + 1) (.slice (some ⟨g4, 0, none⟩) l4.length cap4) (.int .i64 c4) (.int .i64 v4) (.int .i64 s4)) := fun k t cs hk ht => (ho4.block k (by have := blk_lt hk; omega)).trans ((ho3.block k (by have := blk_lt hk; omega)).trans (hKq k t cs hk ht))
    have HW3 := Lib.hid hW3
    have HR4 := Lib.hid hR4
    have HB4 := Lib.hid hB4
    have HK4 := Lib.hid hK4
    have HK3B := Lib.hid k3b
    have HK6B := Lib.hid k6b
    have HK6C := Lib.hid k6c
    have HK62 := Lib.hid k6
    clear hW3 ho3 hR3 hB3 ho4 hR4 hB4 hK4 hKq hB2 hRS hR2 k3 k3b k6 k6b k6c
    go_upto_region 24 with fail
    rw [← HW3.out]
    clear p0 p1 p2 p3 t0 t1 t2 t3 HW3
    obtain ⟨p0, p1, p2, p3⟩ := box_cells HK3B.out
    obtain ⟨q0, q1, q2, q3⟩ := box_cells HK6B.out
    obtain ⟨u0, u1, u2, u3⟩ := box_cells HK6C.out
    have t0 := blk_frozen HK6B.out 0
    have t1 := blk_frozen HK6B.out 1
    have t2 := blk_frozen HK6B.out 2
    have t3 := blk_frozen HK6B.out 3
    go_wp2_with fail
    exact bodyPost_ret (v := .tuple #[agg4 (.slice (some ⟨g4, 0, none⟩) l4.length cap4) c4 v4 s4, .int .i64 (0), .int .i64 ee, .int .i64 told]) (by simp [results, Try.results20, go_sem, u0, u1, u2, u3]) rfl ⟨_, rfl, HR4.out, HB4.out, HK4.out⟩
set_option maxHeartbeats 6400000 in
set_option maxRecDepth 100000 in
theorem rone_6 (hB : Below w0.heap.size w0 w) (h : RV w w0.heap.size x_ r) (hg : ∀ i, i < r.l.length → 0 ≤ (r.at i).f2) (x : S57) (h0 : 0 ≤ x.f0 ∧ x.f0 ≤ 255) (told : Int) (hd : x.f0 % 7 = 6) :
    Calls Try.prog 20 #[x_, .agg (askV x), .int .i64 told] w (OneEnd w0 w ((r.reap x.f1 x.f2).1, flagI (r.reap x.f1 x.f2).2.1, (r.reap x.f1 x.f2).2.2, told)) := by
  obtain ⟨g, cap, tl, rfl, hbg, hgg, hcp, hcm, hlt⟩ := h.open
  clear hgg hcp hcm hlt hbg
  obtain ⟨W, hW, K3, K4, K6, hb⟩ := boxed13 w (.slice (some ⟨g, 0, none⟩) r.l.length cap) r.c r.lv r.st (askV x)
  have HW := Lib.hid hW
  have hR1 := h.move hb
  have hB1 := below_then hB hB.size hb
  have HCALL := Lib.hid (Go.Proofs.Ythgbgflpjggpmaa.RefAlloc.reap_calls hR1 hB1.size x.f1 x.f2)
  obtain ⟨r2, bb, ee, hy⟩ : ∃ r2 bb ee, r.reap x.f1 x.f2 = (r2, bb, ee) := ⟨_, _, _, rfl⟩
  rw [hy] at HCALL ⊢
  have HR1 := Lib.hid hR1
  have HBB := Lib.hid hb
  have HBS := Lib.hid hB.size
  have HB1 := Lib.hid hB1
  have HK3 := Lib.hid K3
  have HK6 := Lib.hid K6
  obtain ⟨f0, f1, f2, f3, f4, f5⟩ := x
  simp only [askV] at K4 HW ⊢
  simp only at h0 hd
  obtain ⟨y0, y1, y2, y3, y4, y5⟩ := box6 K4
  obtain ⟨x0, x1, x2, x3⟩ := box_cells K3
  (try simp only [hTo] at HCALL)
  clear hW hb h hB hB1 hR1 K3 K4 K6 hy
  cases f4
  all_goals
    (try simp only [if_true, Bool.false_eq_true, if_false] at HCALL)
    go_enter Try.func20, Try.ntmps20
    go_upto_region 1 with fail
    rw [← HW.out]
    go_wp2_with fail
    refine HCALL.out.mono ?_
    clear HCALL HW
    rintro e W2 ⟨x', rfl, hR2, hS2⟩
    have hRS := RS.of_below HB1.out hS2 (RV.own (agg4 (.slice (some ⟨g, 0, none⟩) r.l.length cap) r.c r.lv r.st))
    have k3 := RS.blk hRS HR1.out HK3.out (by decide)
    have k6 := RS.blk hRS HR1.out HK6.out (by decide)
    have hKq : Kq w W2 := fun k t cs hk ht => RS.blk hRS HR1.out (blk_below hk HBB.out) ht
    have hB2 := hRS.1
    clear x0 x1 x2 x3 y0 y1 y2 y3 y4 y5 hS2
    obtain ⟨g4, cap4, tl4, rfl, _, _, _, _, _⟩ := hR2.open
    obtain ⟨l4, c4, v4, s4⟩ := r2
    simp only at hR2 ⊢
    obtain ⟨p0, p1, p2, p3⟩ := box_cells k3
    have t0 := blk_frozen k3 0
    have t1 := blk_frozen k3 1
    have t2 := blk_frozen k3 2
    have t3 := blk_frozen k3 3
    obtain ⟨W3, hW3⟩ : ∃ y : World, y = (((W2.setCell ⟨w.heap.size, 0, none⟩ (.slice (some ⟨g4, 0, none⟩) l4.length cap4)).setCell ⟨w.heap.size, 1, none⟩ (.int .i64 c4)).setCell ⟨w.heap.size, 2, none⟩ (.int .i64 v4)).setCell ⟨w.heap.size, 3, none⟩ (.int .i64 s4) := ⟨_, rfl⟩
    have ho3 : Only W2 W3 w.heap.size := by rw [hW3]; exact only4 W2 _ _ _ _ _
    have k3b : W3.heap[w.heap.size]? = some (.cells #[.slice (some ⟨g4, 0, none⟩) l4.length cap4, .int .i64 c4, .int .i64 v4, .int .i64 s4] 52 (0, 0)) := by rw [hW3]; exact blk4 k3 _ _ _ _
    have k6b := (ho3.block _ (show w.heap.size + 1 + 1 ≠ w.heap.size by omega)).trans k6
    have hR3 := RV.only hR2 ho3 k3 (by decide)
    have hB3 := Below.only hB2 ho3 HBS.out
    have k6c := blk4 k6b (.slice (some ⟨g4, 0, none⟩) l4.length cap4) (.int .i64 c4) (.int .i64 v4) (.int .i64 s4)
    have ho4 := only4 W3 (w.heap.size + 1 + 1) (.slice (some ⟨g4, 0, none⟩) l4.length cap4) (.int .i64 c4) (.int .i64 v4) (.int .i64 s4)
    have hR4 := RV.only hR3 ho4 k6b (by decide)
    have hB4 := Below.only hB3 ho4 (by have := HBS.out; omega)
    have hK4 : Kq w (set4 W3 (w.heap.size + 1 + 1) (.slice (some ⟨g4, 0, none⟩) l4.length cap4) (.int .i64 c4) (.int .i64 v4) (.int .i64 s4)) := fun k t cs hk ht => (ho4.block k (by have := blk_lt hk; omega)).trans ((ho3.block k (by have := blk_lt hk; omega)).trans (hKq k t cs hk ht))
    have HW3 := Lib.hid hW3
    have HR4 := Lib.hid hR4
    have HB4 := Lib.hid hB4
    have HK4 := Lib.hid hK4
    have HK3B := Lib.hid k3b
    have HK6B := Lib.hid k6b
    have HK6C := Lib.hid k6c
    have HK62 := Lib.hid k6
    clear hW3 ho3 hR3 hB3 ho4 hR4 hB4 hK4 hKq hB2 hRS hR2 k3 k3b k6 k6b k6c
    go_wp2_with fail
    refine (rflag_calls bb _).mono ?_
    rintro e w9 ⟨rfl, rfl⟩
    go_upto_region 24 with fail
    rw [← HW3.out]
    clear p0 p1 p2 p3 t0 t1 t2 t3 HW3
    obtain ⟨p0, p1, p2, p3⟩ := box_cells HK3B.out
    obtain ⟨q0, q1, q2, q3⟩ := box_cells HK6B.out
    obtain ⟨u0, u1, u2, u3⟩ := box_cells HK6C.out
    have t0 := blk_frozen HK6B.out 0
    have t1 := blk_frozen HK6B.out 1
    have t2 := blk_frozen HK6B.out 2
    have t3 := blk_frozen HK6B.out 3
    go_wp2_with fail
    exact bodyPost_ret (v := .tuple #[agg4 (.slice (some ⟨g4, 0, none⟩) l4.length cap4) c4 v4 s4, .int .i64 (flagI bb), .int .i64 ee, .int .i64 told]) (by simp [results, Try.results20, go_sem, u0, u1, u2, u3]) rfl ⟨_, rfl, HR4.out, HB4.out, HK4.out⟩
theorem rone_calls (hB : Below w0.heap.size w0 w) (h : RV w w0.heap.size x_ r) (hg : ∀ i, i < r.l.length → 0 ≤ (r.at i).f2) (x : S57) (h0 : 0 ≤ x.f0 ∧ x.f0 ≤ 255) (told : Int) :
    Calls Try.prog 20 #[x_, .agg (askV x), .int .i64 told] w (OneEnd w0 w (oneR r x told)) := by
  have hc : x.f0 % 7 = 0 ∨ x.f0 % 7 = 1 ∨ x.f0 % 7 = 2 ∨ x.f0 % 7 = 3 ∨ x.f0 % 7 = 4 ∨ x.f0 % 7 = 5 ∨ x.f0 % 7 = 6 := by omega
  unfold oneR
  rcases hc with e | e | e | e | e | e | e
  · simp only [e]
    exact rone_0 hB h hg x h0 told e
  · simp only [e]
    exact rone_1 hB h hg x h0 told e
  · simp only [e]
    exact rone_2 hB h hg x h0 told e
  · simp only [e]
    exact rone_3 hB h hg x h0 told e
  · simp only [e]
    exact rone_4 hB h hg x h0 told e
  · simp only [e]
    exact rone_5 hB h hg x h0 told e
  · simp only [e]
    exact rone_6 hB h hg x h0 told e
end
end Go.Proofs.Ythgbgflpjggpmaa.Mem
