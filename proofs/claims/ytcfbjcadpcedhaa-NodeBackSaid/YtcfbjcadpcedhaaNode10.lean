/- At, where the head can't be told; Cut. -/
import Derived.Test.YtcfbjcadpcedhaaNode9
namespace Go.Proofs.Ytcfbjcadpcedhaa.Mem
open Go.RowKit Go.Proofs.YtcfbjcadpcedhaaW.PrintWords Go.Proofs.YtcfbjcadpcedhaaW.PrintLast Go.Proofs.Ytcfbjcadpcedhaa.Tags
set_option linter.unusedVariables false
set_option linter.unusedSimpArgs false
section
variable {w0 w w' : World} {pb mb cb : Nat} {m m' : M}
theorem at_ok (h : St w0 w pb mb cb m) (nd : Nd) (ver : Int) {z : Int} {l : List (Int × Ag)} (hw : m.val nd.head = some (number z)) (hc : Chain m z l) : Calls Try.prog 22 #[ptr pb, nd.v, .int .i64 ver] w (AtIn w0 w pb mb cb m l ver) :=
  callsIn_wide.1 (at_in 12 (Nat.le_refl _) h nd ver hw hc)
set_option maxHeartbeats 6400000 in
set_option maxRecDepth 100000 in
theorem at_no_in (n : Nat) (hn : 12 ≤ n) (h : St w0 w pb mb cb m) (nd : Nd) (ver : Int) {e1 : Int} (he : e1 ≠ 0) {M1 : M} (hw : m.word nd.head = (M1, 0, e1)) : CallsIn Fence.wide n Try.prog 22 #[ptr pb, nd.v, .int .i64 ver] w (Endp w0 w pb mb cb (.tuple #[Ag.z.v, .bool false, .int .i64 e1]) M1) := by
  obtain ⟨W1, hW1, hb, hsz, b0, b1, b2, b3, b4⟩ := at5_blk w nd ver
  have h1 := h.below hb
  have hw0 : w0.heap.size ≤ w.heap.size := h.F.size
  obtain ⟨k0, k1, k2⟩ := box3 b0
  have k3 := box1 b1
  have HWD := Lib.hid hw
  have HW1 := Lib.hid hW1
  have g1 : (e1 != 0) = true := by simpa using he
  clear hW1 hw h
  refine callsIn_of_wp_marks Try.func22 rfl trivial ?_ rfl
  simp only [Try.ntmps22, List.size_toArray, List.length_cons, List.length_nil, Nat.reduceAdd, Nat.reduceSub, Array.replicate_succ, Array.replicate_zero, List.push_toArray, List.append_toArray, List.nil_append, List.cons_append]
  gi_upto_region 1 with fail
  rw [← HW1.out]
  gi_wp2_with fail
  refine ⟨trivial, fun _ => by omega, (callsIn_wide.2 (qWord h1 nd.head)).mono ?_⟩
  rw [HWD.out]
  rintro e W2 ⟨rfl, h2, hF⟩
  have c2 := hF.blk h1.A b2 (by decide) (by decide)
  have c3 := hF.blk h1.A b3 (by decide) (by decide)
  have c4 := hF.blk h1.A b4 (by decide) (by decide)
  have s2 : W1.heap.size ≤ W2.heap.size := hF.size
  have HF2 := Lib.hid ((Fr.of_below hb mb cb).trans hF)
  clear b0 b1 b2 b3 b4 k0 k1 k2 k3 hb hF HW1 h1
  obtain ⟨W3, hW3⟩ : ∃ W3 : World, W3 = W2.alloc (.cells #[.int .i64 e1] 24) := ⟨_, rfl⟩
  have hb3 : Below W2.heap.size W2 W3 := hW3 ▸ below_alloc (Below.refl _ _) _
  have ce : W3.heap[W2.heap.size]? = some (.cells #[.int .i64 e1] 24 (0, 0)) := hW3 ▸ blk_new _ _
  have c0e := box1 ce
  have h3 := h2.below hb3
  have g2 := blk_below c2 hb3
  have g3 := blk_below c3 hb3
  have g4 := blk_below c4 hb3
  have HF3 := Lib.hid (HF2.out.trans (Fr.of_below hb3 mb cb))
  have HW3 := Lib.hid hW3
  clear hW3 hb3 c2 c3 c4 h2
  gi_upto_region 2 with fail
  rw [← HW3.out]
  clear HW3
  obtain ⟨p0, p1, p2, p3, p4, p5, p6, p7, p8, p9, p10⟩ := box11 g2
  obtain ⟨y0, y1, y2, y3, y4, y5, y6, y7, y8, y9, y10⟩ := froz11 g2
  have t0 := box1 g3
  have t1 := box1 g4
  have u0 := blk_frozen g3 0
  have u1 := blk_frozen g4 0
  have hon := only11 W3 (w.heap.size + 1 + 1) (.int .i64 0) (.int .i64 0) (.string ⟨#[]⟩) (.string ⟨#[]⟩) (.bool false) (.bool false) (.slice none 0 0) (.slice none 0 0) (.slice none 0 0) (.slice none 0 0) (.int .i64 0)
  have a1 := blk11 g2 (.int .i64 0) (.int .i64 0) (.string ⟨#[]⟩) (.string ⟨#[]⟩) (.bool false) (.bool false) (.slice none 0 0) (.slice none 0 0) (.slice none 0 0) (.slice none 0 0) (.int .i64 0)
  have a2 := (hon.block (w.heap.size + 1 + 1 + 1) (by omega)).trans g3
  have a3 := (hon.block (w.heap.size + 1 + 1 + 1 + 1) (by omega)).trans g4
  have s1 := h3.only hon g2 (by decide) (by decide) (by decide) (by omega)
  have f1 := HF3.out.only hon (by omega)
  obtain ⟨X1, hX1⟩ : ∃ X1, set11 W3 (w.heap.size + 1 + 1) (.int .i64 0) (.int .i64 0) (.string ⟨#[]⟩) (.string ⟨#[]⟩) (.bool false) (.bool false) (.slice none 0 0) (.slice none 0 0) (.slice none 0 0) (.slice none 0 0) (.int .i64 0) = X1 := ⟨_, rfl⟩
  rw [hX1] at hon a1 a2 a3 s1 f1
  have ho2 := Only.set X1 ⟨w.heap.size + 1 + 1 + 1, 0, none⟩ (.bool false)
  have b1 := (ho2.block (w.heap.size + 1 + 1) (by simp <;> omega)).trans a1
  have b2 := blk_put a2 0 (.bool false) rfl
  have b3 := (ho2.block (w.heap.size + 1 + 1 + 1 + 1) (by simp <;> omega)).trans a3
  have s2' := s1.only ho2 a2 (by decide) (by decide) (by decide) (by simp <;> omega)
  have f2 := f1.only ho2 (by simp <;> omega)
  have ho3 := Only.set (X1.setCell ⟨w.heap.size + 1 + 1 + 1, 0, none⟩ (.bool false)) ⟨w.heap.size + 1 + 1 + 1 + 1, 0, none⟩ (.int .i64 e1)
  have c1 := (ho3.block (w.heap.size + 1 + 1) (by simp <;> omega)).trans b1
  have c2 := (ho3.block (w.heap.size + 1 + 1 + 1) (by simp <;> omega)).trans b2
  have c3 := blk_put b3 0 (.int .i64 e1) rfl
  have s3 := s2'.only ho3 b3 (by decide) (by decide) (by decide) (by simp <;> omega)
  have f3 := f2.only ho3 (by simp <;> omega)
  have FIN := Lib.hid (And.intro (blk_drew c1) (And.intro (blk_drew c2) (And.intro (blk_drew c3) (And.intro (s3.drewN 1) (f3.drewN 1)))))
  rw [← hX1] at FIN
  clear hon a1 a2 a3 s1 f1 hX1 ho2 b1 b2 b3 s2' f2 ho3 c1 c2 c3 s3 f3
  gi_upto_region 3 with fail
  gi_region
  obtain ⟨WF, hWF⟩ : ∃ WF, ((set11 W3 (w.heap.size + 1 + 1) (.int .i64 0) (.int .i64 0) (.string ⟨#[]⟩) (.string ⟨#[]⟩) (.bool false) (.bool false) (.slice none 0 0) (.slice none 0 0) (.slice none 0 0) (.slice none 0 0) (.int .i64 0)).setCell ⟨w.heap.size + 1 + 1 + 1, 0, none⟩ (.bool false)).setCell ⟨w.heap.size + 1 + 1 + 1 + 1, 0, none⟩ (.int .i64 e1) = WF := ⟨_, rfl⟩
  rw [hWF] at FIN
  have F2 := FIN.out
  rw [hWF]
  clear hWF FIN
  obtain ⟨c1, c2, c3, s3, f3⟩ := F2
  have s3 : St w0 WF.drew pb mb cb M1 := s3
  have f3 : Fr w WF.drew mb cb := f3
  obtain ⟨q0, q1, q2, q3, q4, q5, q6, q7, q8, q9, q10⟩ := box11 c1
  have v0 := box1 c2
  have v1 := box1 c3
  have FIN := Lib.hid (show Endp w0 w pb mb cb (.tuple #[Ag.z.v, .bool false, .int .i64 e1]) M1 (.returned (.tuple #[Ag.z.v, .bool false, .int .i64 e1])) _ from ⟨rfl, s3, f3⟩)
  clear c1 c2 c3 s3 f3
  gi_wp2_with fail
  exact ⟨_, by simp [results, Try.f22, go_sem, q0, q1, q2, q3, q4, q5, q6, q7, q8, q9, q10, v0, v1], FIN.out⟩
theorem at_no (h : St w0 w pb mb cb m) (nd : Nd) (ver : Int) {e1 : Int} (he : e1 ≠ 0) {M1 : M} (hw : m.word nd.head = (M1, 0, e1)) : Calls Try.prog 22 #[ptr pb, nd.v, .int .i64 ver] w (Endp w0 w pb mb cb (.tuple #[Ag.z.v, .bool false, .int .i64 e1]) M1) :=
  callsIn_wide.1 (at_no_in 12 (Nat.le_refl _) h nd ver he hw)
/-- What Cut comes to. -/
def CutIn (w0 w : World) (pb mb cb : Nat) (m : M) (n k : Nat) (g : Int) (l : List (Int × Ag)) (least : Int) (e : Ending) (w' : World) : Prop :=
  ∃ m', Shape m' n k g ∧ St w0 w' pb mb cb m' ∧ Fr w w' mb cb ∧ (((∀ x ∈ l, ¬ x.2.ver ≤ least) ∧ e = .returned (.tuple #[.slice none 0 0, .int .i64 0]) ∧ Like m' m) ∨
    ∃ l1 x l2 A c, l = l1 ++ x :: l2 ∧ (∀ y ∈ l1, ¬ y.2.ver ≤ least) ∧ x.2.ver ≤ least ∧ e = .returned (.tuple #[.slice A (2 * l2.length) c, .int .i64 0]) ∧ OwnI w' w.heap.size (.slice A (cellsOf l2).length c) (cellsOf l2) ∧ Zeroed m m' (prevs (x :: l2)))
theorem Like.shape {n k : Nat} {g : Int} (h : Shape m n k g) (e : Like m' m) : Shape m' n k g := h.of_cells e.1 e.2
theorem Chain.app : ∀ {h : Int} {l1 l2 : List (Int × Ag)}, Chain m h (l1 ++ l2) → ∃ z, Chain m z l2
  | h, [], l2, hc => ⟨h, hc⟩
  | h, x :: l1, l2, hc => by
    obtain ⟨_, _, _, z, _, hc⟩ := hc
    exact hc.app
set_option maxHeartbeats 3200000 in
set_option maxRecDepth 100000 in
theorem cut_no (h : St w0 w pb mb cb m) (nd : Nd) (least : Int) {e1 : Int} (he : e1 ≠ 0) {M1 : M} (hw : m.word nd.head = (M1, 0, e1)) :
    Calls Try.prog 26 #[ptr pb, nd.v, .int .i64 least] w (Endp w0 w pb mb cb (.tuple #[.slice none 0 0, .int .i64 e1]) M1) := by
  obtain ⟨W, hW⟩ : ∃ W : World, W = w.alloc (nodC nd) := ⟨_, rfl⟩
  have hb : Below w.heap.size w W := hW ▸ below_alloc (Below.refl _ _) _
  obtain ⟨k0, k1, k2⟩ := box3 (show W.heap[w.heap.size]? = some (.cells #[.string nd.low, .int .i64 nd.head, .slice nd.A nd.n nd.k] 46 (0, 0)) from hW ▸ blk_new _ _)
  have h1 := h.below hb
  have HA := Lib.hid (at_no h1 nd least he hw)
  have HW := Lib.hid hW
  have HB := Lib.hid (Fr.of_below hb mb cb)
  have g1 : (e1 != 0) = true := by simpa using he
  clear hW hb h hw h1
  go_enter Try.func26, Try.ntmps26
  go_upto_region 1 with fail
  rw [← HW.out]
  clear HW
  go_wp2_with fail
  refine HA.out.mono ?_
  rintro e W1 ⟨rfl, h1, hF⟩
  have h2 := h1.alloc (ageC Ag.z)
  have HF2 := Lib.hid ((HB.out.trans hF).alloc (ageC Ag.z))
  clear h1 hF k0 k1 k2
  go_wp2_with fail
  go_ret2
  exact ⟨rfl, h2, HF2.out⟩
set_option maxHeartbeats 6400000 in
set_option maxRecDepth 100000 in
theorem cut_ok (h : St w0 w pb mb cb m) {n k : Nat} {g : Int} (hs : Shape m n k g) (nd : Nd) (least : Int) {z : Int} {l : List (Int × Ag)} (hw : m.val nd.head = some (number z)) (hc : Chain m z l) (hnd : (prevs l).Nodup) (hl : l.length ≤ 1000) :
    Calls Try.prog 26 #[ptr pb, nd.v, .int .i64 least] w (CutIn w0 w pb mb cb m n k g l least) := by
  obtain ⟨W, hW⟩ : ∃ W : World, W = w.alloc (nodC nd) := ⟨_, rfl⟩
  have hb : Below w.heap.size w W := hW ▸ below_alloc (Below.refl _ _) _
  obtain ⟨k0, k1, k2⟩ := box3 (show W.heap[w.heap.size]? = some (.cells #[.string nd.low, .int .i64 nd.head, .slice nd.A nd.n nd.k] 46 (0, 0)) from hW ▸ blk_new _ _)
  have h1 := h.below hb
  have HA := Lib.hid (at_ok h1 nd least hw hc)
  have HW := Lib.hid hW
  have HB := Lib.hid (Fr.of_below hb mb cb)
  have HC := Lib.hid hc
  have HS := Lib.hid hs
  have HND := Lib.hid hnd
  clear hW hb h hw h1 hc hs hnd
  go_enter Try.func26, Try.ntmps26
  go_upto_region 1 with fail
  rw [← HW.out]
  clear HW
  go_wp2_with fail
  refine HA.out.mono ?_
  rintro e W1 ⟨m1, hlk, h1, hF, ⟨hall, rfl⟩ | ⟨l1, ⟨xh, xa⟩, l2, hll, hno, hle, rfl⟩⟩
  · have h2 := h1.alloc (ageC Ag.z)
    have FIN := Lib.hid (show CutIn w0 w pb mb cb m n k g l least (.returned (.tuple #[.slice none 0 0, .int .i64 0])) (W1.alloc (ageC Ag.z)) from ⟨m1, Like.shape HS.out hlk, h2, (HB.out.trans hF).alloc _, Or.inl ⟨hall, rfl, hlk⟩⟩)
    clear h1 h2 hF hall hlk k0 k1 k2
    go_wp2_with fail
    go_ret2
    exact FIN.out
  · obtain ⟨W2, hW2⟩ : ∃ W2 : World, W2 = W1.alloc (ageC xa) := ⟨_, rfl⟩
    have hb2 : Below W1.heap.size W1 W2 := hW2 ▸ below_alloc (Below.refl _ _) _
    obtain ⟨q0, q1, q2, q3, q4, q5, q6, q7, q8, q9, q10⟩ := box11 (show W2.heap[W1.heap.size]? = some (.cells #[.int .i64 xa.ver, .int .i64 0, .string ⟨#[]⟩, .string ⟨#[]⟩, .bool false, .bool xa.dead, .slice none 0 0, .slice none 0 0, .slice none 0 0, .slice none 0 0, .int .i64 xa.prev] 52 (0, 0)) from hW2 ▸ blk_new _ _)
    have h2 := h1.below hb2
    have HF2 := Lib.hid ((HB.out.trans hF).trans (Fr.of_below hb2 mb cb))
    have HW2 := Lib.hid hW2
    obtain ⟨z1, hc1⟩ := (show Chain m z (l1 ++ (xh, xa) :: l2) by rw [← hll]; exact HC.out).app
    obtain ⟨_, _, hxv, y, hy, hc2⟩ := hc1
    have hnd2 : xa.prev ∉ prevs l2 ∧ (prevs l2).Nodup ∧ (∀ q ∈ prevs l2, q ≠ xa.prev) := by
      have := HND.out
      rw [hll] at this
      unfold prevs at this ⊢
      rw [List.map_append, List.map_cons, List.nodup_append] at this
      have h2' := List.nodup_cons.1 this.2.1
      exact ⟨h2'.1, h2'.2, fun q hq e => h2'.1 (e ▸ hq)⟩
    have hl2 : l2.length ≤ 1000 := by rw [hll] at hl; simp at hl; omega
    have hy1 : m1.val xa.prev = some (number y) := (val_cells hlk.1 _).trans hy
    have hs1 := Like.shape HS.out hlk
    have HLL := Lib.hid hll
    have HNO := Lib.hid hno
    clear hW2 hb2 h1 hF k0 k1 k2 hll hno
    go_upto_region 2 with fail
    rw [← HW2.out]
    clear HW2
    by_cases hy0 : y = 0
    · subst hy0
      obtain rfl : l2 = [] := by
        cases l2 with
        | nil => rfl
        | cons q l2 => exact absurd rfl hc2.2.1
      go_wp2_with fail
      refine (taken_zero h2 hy1).mono ?_
      rintro e W3 ⟨rfl, h3, hF3⟩
      have HF3 := Lib.hid (HF2.out.trans hF3)
      clear h2 hF3 q0 q1 q2 q3 q4 q5 q6 q7 q8 q9 q10
      go_wp2_with fail
      refine (fell_calls h3 hs1.tick (at_ := 0) (l := []) rfl (by simp [prevs]) (by simp)).mono ?_
      rintro e W4 ⟨A, c, m4, rfl, hO, hz, hs4, h4, hF4⟩
      have FIN := Lib.hid (show CutIn w0 w pb mb cb m n k g l least (.returned (.tuple #[.slice A (2 * ([] : List (Int × Ag)).length) c, .int .i64 0])) W4 from ⟨m4, hs4, h4, HF3.out.trans hF4, Or.inr ⟨l1, (xh, xa), [], A, c, HLL.out, (fun y hy => by have := HNO.out y hy; omega), hle, rfl, hO.lower_ HF3.out.size, ⟨fun q hq => by
        obtain rfl := List.mem_singleton.1 hq
        rw [hz.other _ (by simp [prevs]), tick_val]
        exact hy1, fun q hq => by
        rw [hz.other _ (by simp [prevs]), tick_val]
        exact val_cells hlk.1 q⟩⟩⟩)
      clear hO hz hs4 h4 hF4 h3
      go_wp2_with fail
      go_ret2
      exact FIN.out
    · obtain ⟨M2, e2, t2, s2⟩ := swap_val hs1.tick ((tick_val m1 _).trans hy1) 0
      have hc3 : Chain M2 y l2 := hc2.keep fun q hq => by
        obtain ⟨a1, a2⟩ := hc2.age q hq
        have n1 : q.1 ≠ xa.prev := Ne.symm (val_ne hy a1 (number_ne (by decide)))
        have n2 : q.2.prev ≠ xa.prev := hnd2.2.2 _ (List.mem_map_of_mem hq)
        exact ⟨(t2.other _ n1).trans ((tick_val m1 _).trans (val_cells hlk.1 _)), (t2.other _ n2).trans ((tick_val m1 _).trans (val_cells hlk.1 _))⟩
      have HE2 := Lib.hid e2
      clear e2
      go_wp2_with fail
      refine (taken_some h2 hy1 hy0 HE2.out).mono ?_
      rintro e W3 ⟨rfl, h3, hF3⟩
      have HF3 := Lib.hid (HF2.out.trans hF3)
      clear h2 hF3 q0 q1 q2 q3 q4 q5 q6 q7 q8 q9 q10
      go_wp2_with fail
      refine (fell_calls h3 s2 hc3 hnd2.2.1 hl2).mono ?_
      rintro e W4 ⟨A, c, m4, rfl, hO, hz, hs4, h4, hF4⟩
      have FIN := Lib.hid (show CutIn w0 w pb mb cb m n k g l least (.returned (.tuple #[.slice A (2 * l2.length) c, .int .i64 0])) W4 from ⟨m4, hs4, h4, HF3.out.trans hF4, Or.inr ⟨l1, (xh, xa), l2, A, c, HLL.out, (fun y hy => by have := HNO.out y hy; omega), hle, rfl, hO.lower_ HF3.out.size, ⟨fun q hq => by
        by_cases hq2 : q ∈ prevs l2
        · exact hz.zero q hq2
        · rw [hz.other q hq2]
          rcases List.mem_cons.1 hq with e | hq
          · rw [e]; exact t2.self
          · exact absurd hq hq2, fun q hq => by
        have hq1 : q ≠ xa.prev := fun e => hq (List.mem_cons.2 (Or.inl e))
        have hq2 : q ∉ prevs l2 := fun hm => hq (List.mem_cons_of_mem _ hm)
        rw [hz.other q hq2, t2.other q hq1, tick_val]
        exact val_cells hlk.1 q⟩⟩⟩)
      clear hO hz hs4 h4 hF4 h3
      go_wp2_with fail
      go_ret2
      exact FIN.out
end
end Go.Proofs.Ytcfbjcadpcedhaa.Mem
