/- At: the newest age that isn't newer than a version. -/
import Derived.Test.YtcfbjcadpcedhaaNode8
import Derived.Sort.CutIn
namespace Go.Proofs.Ytcfbjcadpcedhaa.Mem
open Go.RowKit Go.Proofs.YtcfbjcadpcedhaaW.PrintWords Go.Proofs.YtcfbjcadpcedhaaW.PrintLast Go.Proofs.Ytcfbjcadpcedhaa.Tags
attribute [local go_sem] Oper.semAt_some
set_option linter.unusedVariables false
set_option linter.unusedSimpArgs false
section
variable {w0 w w' : World} {pb mb cb : Nat} {m m' : M}
/-- What At comes to. -/
def AtIn (w0 w : World) (pb mb cb : Nat) (m : M) (l : List (Int × Ag)) (ver : Int) (e : Ending) (w' : World) : Prop :=
  ∃ m', Like m' m ∧ St w0 w' pb mb cb m' ∧ Fr w w' mb cb ∧ (((∀ x ∈ l, ¬ x.2.ver ≤ ver) ∧ e = .returned (.tuple #[Ag.z.v, .bool false, .int .i64 0])) ∨
    ∃ l1 x l2, l = l1 ++ x :: l2 ∧ (∀ y ∈ l1, ¬ y.2.ver ≤ ver) ∧ x.2.ver ≤ ver ∧ e = .returned (.tuple #[x.2.v, .bool true, .int .i64 0]))
theorem at5_blk (w : World) (nd : Nd) (ver : Int) : ∃ W, W = ((((w.alloc (nodC nd)).alloc (.cells #[.int .i64 ver] 3)).alloc (ageC Ag.z)).alloc (.cells #[.bool false] 4)).alloc (.cells #[.int .i64 0] 24) ∧ Below w.heap.size w W ∧ W.heap.size = w.heap.size + 5 ∧ W.heap[w.heap.size]? = some (.cells #[.string nd.low, .int .i64 nd.head, .slice nd.A nd.n nd.k] 46 (0, 0)) ∧ W.heap[w.heap.size + 1]? = some (.cells #[.int .i64 ver] 3 (0, 0)) ∧
    W.heap[w.heap.size + 1 + 1]? = some (.cells #[.int .i64 0, .int .i64 0, .string ⟨#[]⟩, .string ⟨#[]⟩, .bool false, .bool false, .slice none 0 0, .slice none 0 0, .slice none 0 0, .slice none 0 0, .int .i64 0] 52 (0, 0)) ∧ W.heap[w.heap.size + 1 + 1 + 1]? = some (.cells #[.bool false] 4 (0, 0)) ∧ W.heap[w.heap.size + 1 + 1 + 1 + 1]? = some (.cells #[.int .i64 0] 24 (0, 0)) := by
  have e1 : w.heap.size + 1 = (w.alloc (nodC nd)).heap.size := by simp
  have e2 : w.heap.size + 1 + 1 = ((w.alloc (nodC nd)).alloc (.cells #[.int .i64 ver] 3)).heap.size := by simp
  have e3 : w.heap.size + 1 + 1 + 1 = (((w.alloc (nodC nd)).alloc (.cells #[.int .i64 ver] 3)).alloc (ageC Ag.z)).heap.size := by simp
  have e4 : w.heap.size + 1 + 1 + 1 + 1 = ((((w.alloc (nodC nd)).alloc (.cells #[.int .i64 ver] 3)).alloc (ageC Ag.z)).alloc (.cells #[.bool false] 4)).heap.size := by simp
  refine ⟨_, rfl, below_alloc (below_alloc (below_alloc (below_alloc (below_alloc (Below.refl _ _) _) _) _) _) _, by simp, blk_alloc (blk_alloc (blk_alloc (blk_alloc (blk_new _ _) _) _) _) _, ?_, ?_, ?_, ?_⟩
  · rw [e1]; exact blk_alloc (blk_alloc (blk_alloc (blk_new _ _) _) _) _
  · rw [e2]; exact blk_alloc (blk_alloc (blk_new _ _) _) _
  · rw [e3]; exact blk_alloc (blk_new _ _) _
  · rw [e4]; exact blk_new _ _
/-- The results' cells, where a round has stopped the loop. -/
structure ResIn (w WL : World) (mb cb : Nat) (a : Ag) (W : World) : Prop where
  a : W.heap[w.heap.size + 1 + 1]? = some (.cells #[.int .i64 a.ver, .int .i64 0, .string ⟨#[]⟩, .string ⟨#[]⟩, .bool false, .bool a.dead, .slice none 0 0, .slice none 0 0, .slice none 0 0, .slice none 0 0, .int .i64 a.prev] 52 (0, 0))
  b : W.heap[w.heap.size + 1 + 1 + 1]? = some (.cells #[.bool true] 4 (0, 0))
  e : W.heap[w.heap.size + 1 + 1 + 1 + 1]? = some (.cells #[.int .i64 0] 24 (0, 0))
  F : Fr w W mb cb
theorem ResIn.only {WL W W' : World} {b : Nat} {a : Ag} (h : ResIn w WL mb cb a W) (hlt : w.heap.size + 1 + 1 + 1 + 1 < WL.heap.size) (hb : WL.heap.size ≤ b) (ho : Only W W' b) : ResIn w WL mb cb a W' :=
  ⟨(ho.block _ (by omega)).trans h.a, (ho.block _ (by omega)).trans h.b, (ho.block _ (by omega)).trans h.e, h.F.only ho (by omega)⟩
set_option maxHeartbeats 6400000 in
set_option maxRecDepth 100000 in
theorem at_in (n : Nat) (hn : 12 ≤ n) (h : St w0 w pb mb cb m) (nd : Nd) (ver : Int) {z : Int} {l : List (Int × Ag)} (hw : m.val nd.head = some (number z)) (hc : Chain m z l) : CallsIn Fence.wide n Try.prog 22 #[ptr pb, nd.v, .int .i64 ver] w (AtIn w0 w pb mb cb m l ver) := by
  obtain ⟨W1, hW1, hb, hsz, b0, b1, b2, b3, b4⟩ := at5_blk w nd ver
  have h1 := h.below hb
  have hw0 : w0.heap.size ≤ w.heap.size := h.F.size
  obtain ⟨k0, k1, k2⟩ := box3 b0
  have k3 := box1 b1
  have HWD := Lib.hid (word_val hw)
  have HC := Lib.hid hc
  have HW1 := Lib.hid hW1
  clear hW1 hw hc h
  refine callsIn_of_wp_marks Try.func22 rfl trivial ?_ rfl
  simp only [Try.ntmps22, List.size_toArray, List.length_cons, List.length_nil, Nat.reduceAdd, Nat.reduceSub, Array.replicate_succ, Array.replicate_zero, List.push_toArray, List.append_toArray, List.nil_append, List.cons_append]
  gi_upto_region 1 with fail
  rw [← HW1.out]
  gi_wp2_with fail
  refine ⟨trivial, fun _ => by omega, (callsIn_wide.2 (qWord h1 nd.head)).mono ?_⟩
  rw [HWD.out]
  rintro e W2 ⟨rfl, h2, hF⟩
  have c1 := hF.blk h1.A b1 (by decide) (by decide)
  have c2 := hF.blk h1.A b2 (by decide) (by decide)
  have c3 := hF.blk h1.A b3 (by decide) (by decide)
  have c4 := hF.blk h1.A b4 (by decide) (by decide)
  have s2 : W1.heap.size ≤ W2.heap.size := hF.size
  have HF2 := Lib.hid ((Fr.of_below hb mb cb).trans hF)
  clear b0 b1 b2 b3 b4 k0 k1 k2 k3 hb hF HW1 h1
  obtain ⟨W3, hW3⟩ : ∃ W3 : World, W3 = W2.alloc (.cells #[.int .i64 0] 24) := ⟨_, rfl⟩
  have hb3 : Below W2.heap.size W2 W3 := hW3 ▸ below_alloc (Below.refl _ _) _
  have ce : W3.heap[W2.heap.size]? = some (.cells #[.int .i64 0] 24 (0, 0)) := hW3 ▸ blk_new _ _
  have c0e := box1 ce
  have h3 := h2.below hb3
  have d1 := blk_below c1 hb3
  have d2 := blk_below c2 hb3
  have d3 := blk_below c3 hb3
  have d4 := blk_below c4 hb3
  have hz3 := Lib.hid (show W3.heap.size = W2.heap.size + 1 by rw [hW3]; simp)
  have HF3 := Lib.hid (HF2.out.trans (Fr.of_below hb3 mb cb))
  have HW3 := Lib.hid hW3
  clear hW3 hb3 c1 c2 c3 c4 h2
  gi_upto_region 2 with fail
  rw [← HW3.out]
  clear HW3
  gi_wp2_with fail
  refine ⟨trivial, fun _ => by omega, (callsIn_wide.2 (ages_calls (pb := pb) z ⟨W2.heap.size, 0, none⟩ W3)).mono ?_⟩
  rintro e W4 ⟨rfl, hW4⟩
  have hb4 : Below W3.heap.size W3 W4 := hW4 ▸ below_alloc (below_alloc (below_alloc (Below.refl _ _) _) _) _
  have kP : W4.heap[W3.heap.size]? = some (.cells #[ptr pb] 29 (0, 0)) := hW4 ▸ blk_alloc (blk_alloc (blk_new _ _) _) _
  have kH : W4.heap[W3.heap.size + 1]? = some (.cells #[.int .i64 z] 3 (0, 0)) := by
    have e : W3.heap.size + 1 = (W3.alloc (.cells #[ptr pb] 29)).heap.size := by simp
    rw [e]
    exact hW4 ▸ blk_alloc (blk_new _ _) _
  have kE : W4.heap[W3.heap.size + 2]? = some (.cells #[.pointer (some ⟨W2.heap.size, 0, none⟩)] 93 (0, 0)) := by
    have e : W3.heap.size + 2 = ((W3.alloc (.cells #[ptr pb] 29)).alloc (.cells #[.int .i64 z] 3)).heap.size := by simp
    rw [e]
    exact hW4 ▸ blk_new _ _
  have h4 := h3.below hb4
  have f1 := blk_below d1 hb4
  have f2 := blk_below d2 hb4
  have f3 := blk_below d3 hb4
  have f4 := blk_below d4 hb4
  have fe := blk_below ce hb4
  have HF4 := Lib.hid (HF3.out.trans (Fr.of_below hb4 mb cb))
  have hz4 := Lib.hid (show W4.heap.size = W3.heap.size + 3 by rw [hW4]; simp)
  clear hW4 hb4 d1 d2 d3 d4 ce c0e h3
  have lt4 := blk_lt f4
  have lte := blk_lt fe
  gi_wp2_with fail
  refine range_ages n (by omega) rfl rfl h4 (HC.out.cells (m' := m.tick) rfl) kH kP kE (fun a => decide (a.ver ≤ ver)) (ResIn w W4 mb cb) (fun x W W' b hj hb ho => hj.only lt4 hb ho) ?round ?done ?stop
  case round =>
    rintro ⟨xh, xa⟩ W m1 hx hSW hFW hsz
    have g1 := (hFW.blk h4.A f1 (by decide) (by decide))
    have g2 := (hFW.blk h4.A f2 (by decide) (by decide))
    have g3 := (hFW.blk h4.A f3 (by decide) (by decide))
    have g4 := (hFW.blk h4.A f4 (by decide) (by decide))
    have HFW := Lib.hid (HF4.out.trans hFW)
    gi_wp2_with fail
    refine ⟨below_alloc (Below.refl _ _) _, fun W2' ho => ?_⟩
    have hbA : Below W.heap.size W (W.alloc (ageC xa)) := below_alloc (Below.refl _ _) _
    have j1 := (ho.block _ (by omega)).trans (blk_below g1 hbA)
    have j2 := (ho.block _ (by omega)).trans (blk_below g2 hbA)
    have j3 := (ho.block _ (by omega)).trans (blk_below g3 hbA)
    have j4 := (ho.block _ (by omega)).trans (blk_below g4 hbA)
    have jb := (ho.block W.heap.size (by omega)).trans (blk_new W (ageC xa))
    have hS2 := (hSW.below hbA).only_ ho (by have := h4.lt_mb; omega) (by have := h4.lt_cb; omega) (by have := h4.lt_pb; omega) (by have := h4.F.size; omega)
    have HF5 := Lib.hid ((HFW.out.below hbA).only ho (by omega))
    obtain ⟨q0, q1, q2, q3, q4, q5, q6, q7, q8, q9, q10⟩ := box11 jb
    have v0 := box1 j1
    clear g1 g2 g3 g4 hFW hbA ho
    by_cases hv : xa.ver ≤ ver
    · have hvd : decide (xa.ver ≤ ver) = true := decide_eq_true hv
      obtain ⟨p0, p1, p2, p3, p4, p5, p6, p7, p8, p9, p10⟩ := box11 j2
      obtain ⟨y0, y1, y2, y3, y4, y5, y6, y7, y8, y9, y10⟩ := froz11 j2
      have t0 := box1 j3
      have t1 := box1 j4
      have u0 := blk_frozen j3 0
      have u1 := blk_frozen j4 0
      have hw00 := h4.F.size
      have hon := only11 W2' (w.heap.size + 1 + 1) (.int .i64 xa.ver) (.int .i64 0) (.string ⟨#[]⟩) (.string ⟨#[]⟩) (.bool false) (.bool xa.dead) (.slice none 0 0) (.slice none 0 0) (.slice none 0 0) (.slice none 0 0) (.int .i64 xa.prev)
      have a1 := blk11 j2 (.int .i64 xa.ver) (.int .i64 0) (.string ⟨#[]⟩) (.string ⟨#[]⟩) (.bool false) (.bool xa.dead) (.slice none 0 0) (.slice none 0 0) (.slice none 0 0) (.slice none 0 0) (.int .i64 xa.prev)
      have a2 := (hon.block (w.heap.size + 1 + 1 + 1) (by omega)).trans j3
      have a3 := (hon.block (w.heap.size + 1 + 1 + 1 + 1) (by omega)).trans j4
      have s1 := hS2.only hon j2 (by decide) (by decide) (by decide) (by omega)
      have f1 := HF5.out.only hon (by omega)
      have l1 := hon.block W4.heap.size (by omega)
      have l2 := hon.block (W4.heap.size + 1) (by omega)
      obtain ⟨X1, hX1⟩ : ∃ X1, set11 W2' (w.heap.size + 1 + 1) (.int .i64 xa.ver) (.int .i64 0) (.string ⟨#[]⟩) (.string ⟨#[]⟩) (.bool false) (.bool xa.dead) (.slice none 0 0) (.slice none 0 0) (.slice none 0 0) (.slice none 0 0) (.int .i64 xa.prev) = X1 := ⟨_, rfl⟩
      rw [hX1] at hon a1 a2 a3 s1 f1 l1 l2
      have ho2 := Only.set X1 ⟨w.heap.size + 1 + 1 + 1, 0, none⟩ (.bool true)
      have b1 := (ho2.block (w.heap.size + 1 + 1) (by simp <;> omega)).trans a1
      have b2 := blk_put a2 0 (.bool true) rfl
      have b3 := (ho2.block (w.heap.size + 1 + 1 + 1 + 1) (by simp <;> omega)).trans a3
      have s2 := s1.only ho2 a2 (by decide) (by decide) (by decide) (by simp <;> omega)
      have f2 := f1.only ho2 (by simp <;> omega)
      have l3 := (ho2.block W4.heap.size (by simp <;> omega)).trans l1
      have l4 := (ho2.block (W4.heap.size + 1) (by simp <;> omega)).trans l2
      have ho3 := Only.set (X1.setCell ⟨w.heap.size + 1 + 1 + 1, 0, none⟩ (.bool true)) ⟨w.heap.size + 1 + 1 + 1 + 1, 0, none⟩ (.int .i64 0)
      have c1 := (ho3.block (w.heap.size + 1 + 1) (by simp <;> omega)).trans b1
      have c2 := (ho3.block (w.heap.size + 1 + 1 + 1) (by simp <;> omega)).trans b2
      have c3 := blk_put b3 0 (.int .i64 0) rfl
      have s3 := s2.only ho3 b3 (by decide) (by decide) (by decide) (by simp <;> omega)
      have f3 := f2.only ho3 (by simp <;> omega)
      have l5 := (ho3.block W4.heap.size (by simp <;> omega)).trans l3
      have l6 := (ho3.block (W4.heap.size + 1) (by simp <;> omega)).trans l4
      have FIN := Lib.hid (And.intro (show ResIn w W4 mb cb xa _ from ⟨c1, c2, c3, f3⟩) (And.intro s3 (And.intro l6 l5)))
      rw [← hX1] at FIN
      clear hon a1 a2 a3 s1 f1 l1 l2 hX1 ho2 b1 b2 b3 s2 f2 l3 l4 ho3 c1 c2 c3 s3 f3 l5 l6
      gi_wp2_with fail
      exact ⟨hvd, FIN.out⟩
    · have hvd : decide (xa.ver ≤ ver) = false := decide_eq_false hv
      gi_wp2_with fail
      exact ⟨rfl, Below.refl _ _⟩
  case stop =>
    rintro m' W l1 ⟨xh, xa⟩ l2 hlk hSW hll hst hs hj hK
    have hne : w.heap.size + 1 + 1 + 1 + 1 < W4.heap.size := lt4
    have ho := only_putObj W W4.heap.size (.deferred none)
    have hj2 := hj.only lt4 (Nat.le_refl _) ho
    have hS2 := hSW.only_ ho (by have := h4.lt_mb; omega) (by have := h4.lt_cb; omega) (by have := h4.lt_pb; omega) (by have := h4.F.size; omega)
    obtain ⟨q0, q1, q2, q3, q4, q5, q6, q7, q8, q9, q10⟩ := box11 hj2.a
    have v0 := box1 hj2.b
    have v1 := box1 hj2.e
    have FIN := Lib.hid (show AtIn w0 w pb mb cb m l ver (.returned (.tuple #[xa.v, .bool true, .int .i64 0])) _ from ⟨m', hlk, hS2, hj2.F, Or.inr ⟨l1, (xh, xa), l2, hll, fun y hy => of_decide_eq_false (hst y hy), of_decide_eq_true hs, rfl⟩⟩)
    clear hj hj2 hS2 hSW hll hst hs ho
    gi_wp2_with fail
    refine ⟨by simp, .inl ⟨_, _, rfl, run_takeDeferred hK, ?_⟩⟩
    exact ⟨_, by simp [results, Try.f22, go_sem, q0, q1, q2, q3, q4, q5, q6, q7, q8, q9, q10, v0, v1], FIN.out⟩
  case done =>
    intro m' W hlk hSW hF hst hK
    have g2 := (hF.blk h4.A f2 (by decide) (by decide))
    have g3 := (hF.blk h4.A f3 (by decide) (by decide))
    have g4 := (hF.blk h4.A f4 (by decide) (by decide))
    have ge := (hF.blk h4.A fe (by decide) (by decide))
    have HF := Lib.hid (HF4.out.trans hF)
    have w0e := box1 ge
    obtain ⟨p0, p1, p2, p3, p4, p5, p6, p7, p8, p9, p10⟩ := box11 g2
    obtain ⟨y0, y1, y2, y3, y4, y5, y6, y7, y8, y9, y10⟩ := froz11 g2
    have t0 := box1 g3
    have t1 := box1 g4
    have u0 := blk_frozen g3 0
    have u1 := blk_frozen g4 0
    have hw00 := h4.F.size
    have hon := only11 W (w.heap.size + 1 + 1) (.int .i64 0) (.int .i64 0) (.string ⟨#[]⟩) (.string ⟨#[]⟩) (.bool false) (.bool false) (.slice none 0 0) (.slice none 0 0) (.slice none 0 0) (.slice none 0 0) (.int .i64 0)
    have a1 := blk11 g2 (.int .i64 0) (.int .i64 0) (.string ⟨#[]⟩) (.string ⟨#[]⟩) (.bool false) (.bool false) (.slice none 0 0) (.slice none 0 0) (.slice none 0 0) (.slice none 0 0) (.int .i64 0)
    have a2 := (hon.block (w.heap.size + 1 + 1 + 1) (by omega)).trans g3
    have a3 := (hon.block (w.heap.size + 1 + 1 + 1 + 1) (by omega)).trans g4
    have s1 := hSW.only hon g2 (by decide) (by decide) (by decide) (by omega)
    have f1 := HF.out.only hon (by omega)
    have l1 := (hon.block W4.heap.size (by omega)).trans hK
    obtain ⟨X1, hX1⟩ : ∃ X1, set11 W (w.heap.size + 1 + 1) (.int .i64 0) (.int .i64 0) (.string ⟨#[]⟩) (.string ⟨#[]⟩) (.bool false) (.bool false) (.slice none 0 0) (.slice none 0 0) (.slice none 0 0) (.slice none 0 0) (.int .i64 0) = X1 := ⟨_, rfl⟩
    rw [hX1] at hon a1 a2 a3 s1 f1 l1
    have ho2 := Only.set X1 ⟨w.heap.size + 1 + 1 + 1, 0, none⟩ (.bool false)
    have b1 := (ho2.block (w.heap.size + 1 + 1) (by simp <;> omega)).trans a1
    have b2 := blk_put a2 0 (.bool false) rfl
    have b3 := (ho2.block (w.heap.size + 1 + 1 + 1 + 1) (by simp <;> omega)).trans a3
    have s2 := s1.only ho2 a2 (by decide) (by decide) (by decide) (by simp <;> omega)
    have f2 := f1.only ho2 (by simp <;> omega)
    have l3 := (ho2.block W4.heap.size (by simp <;> omega)).trans l1
    have ho3 := Only.set (X1.setCell ⟨w.heap.size + 1 + 1 + 1, 0, none⟩ (.bool false)) ⟨w.heap.size + 1 + 1 + 1 + 1, 0, none⟩ (.int .i64 0)
    have c1 := (ho3.block (w.heap.size + 1 + 1) (by simp <;> omega)).trans b1
    have c2 := (ho3.block (w.heap.size + 1 + 1 + 1) (by simp <;> omega)).trans b2
    have c3 := blk_put b3 0 (.int .i64 0) rfl
    have s3 := s2.only ho3 b3 (by decide) (by decide) (by decide) (by simp <;> omega)
    have f3 := f2.only ho3 (by simp <;> omega)
    have l5 := (ho3.block W4.heap.size (by simp <;> omega)).trans l3
    have FIN := Lib.hid (And.intro (blk_drew c1) (And.intro (blk_drew c2) (And.intro (blk_drew c3) (And.intro (s3.drewN 1) (And.intro (f3.drewN 1) (show (((X1.setCell ⟨w.heap.size + 1 + 1 + 1, 0, none⟩ (.bool false)).setCell ⟨w.heap.size + 1 + 1 + 1 + 1, 0, none⟩ (.int .i64 0)).drewN 1).heap[W4.heap.size]? = _ from l5))))))
    have hlt1 : w.heap.size + 1 + 1 + 1 + 1 < W4.heap.size := lt4
    rw [← hX1] at FIN
    clear hon a1 a2 a3 s1 f1 l1 hX1 ho2 b1 b2 b3 s2 f2 l3 ho3 c1 c2 c3 s3 f3 l5
    gi_upto_region 8 with fail
    gi_region
    obtain ⟨WF, hWF⟩ : ∃ WF, ((set11 W (w.heap.size + 1 + 1) (.int .i64 0) (.int .i64 0) (.string ⟨#[]⟩) (.string ⟨#[]⟩) (.bool false) (.bool false) (.slice none 0 0) (.slice none 0 0) (.slice none 0 0) (.slice none 0 0) (.int .i64 0)).setCell ⟨w.heap.size + 1 + 1 + 1, 0, none⟩ (.bool false)).setCell ⟨w.heap.size + 1 + 1 + 1 + 1, 0, none⟩ (.int .i64 0) = WF := ⟨_, rfl⟩
    rw [hWF] at FIN
    have F2 := FIN.out
    rw [hWF]
    clear hWF FIN
    obtain ⟨c1, c2, c3, s3, f3, l5⟩ := F2
    have s3 : St w0 WF.drew pb mb cb m' := s3
    have f3 : Fr w WF.drew mb cb := f3
    have l5 : WF.drew.heap[W4.heap.size]? = some (.deferred (some [])) := l5
    have ho := only_putObj WF.drew W4.heap.size (.deferred none)
    have d1 := (ho.block (w.heap.size + 1 + 1) (by omega)).trans c1
    have d2 := (ho.block (w.heap.size + 1 + 1 + 1) (by omega)).trans c2
    have d3 := (ho.block (w.heap.size + 1 + 1 + 1 + 1) (by omega)).trans c3
    have hS2 := s3.only_ ho (by have := h4.lt_mb; omega) (by have := h4.lt_cb; omega) (by have := h4.lt_pb; omega) (by omega)
    obtain ⟨q0, q1, q2, q3, q4, q5, q6, q7, q8, q9, q10⟩ := box11 d1
    have v0 := box1 d2
    have v1 := box1 d3
    have FIN := Lib.hid (show AtIn w0 w pb mb cb m l ver (.returned (.tuple #[Ag.z.v, .bool false, .int .i64 0])) _ from ⟨m', hlk, hS2, f3.only ho (by omega), Or.inl ⟨fun y hy => of_decide_eq_false (hst y hy), rfl⟩⟩)
    clear c1 c2 c3 s3 f3 ho d1 d2 d3 hS2
    gi_wp2_with fail
    refine ⟨by simp, .inl ⟨_, _, rfl, run_takeDeferred l5, ?_⟩⟩
    exact ⟨_, by simp [results, Try.f22, go_sem, q0, q1, q2, q3, q4, q5, q6, q7, q8, q9, q10, v0, v1], FIN.out⟩
end
end Go.Proofs.Ytcfbjcadpcedhaa.Mem
