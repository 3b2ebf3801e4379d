/- An act, of the program and of the document's memory: both answer alike. By hand, case by case. -/
import Derived.Test.YthghhkdichbijaaDoes1
import Derived.Outline
namespace Go.Proofs.Ythghhkdichbijaa.Mem
open Go.RowKit Go.Proofs.YthghhkdichbijaaW.PrintWords Go.Proofs.Ythghhkdichbijaa.Tags Go.Proofs.Ythghhkdichbijaa.PMemPlays
open Go.Proofs.Ythghhkdichbijaa.RefAlloc
set_option linter.unusedVariables false
set_option linter.unusedSimpArgs false
section
variable {w w0 : World} {mb cb : Nat} {m : M} {x : Value} {r : R} {ts : List Int} {A : Option Addr} {c : Nat}
set_option maxHeartbeats 6400000 in
set_option maxRecDepth 100000 in
theorem Does_look (hB : Below w0.heap.size w0 w) (hA : At w mb cb m) (hmb : w0.heap.size ≤ mb) (hcb : w0.heap.size ≤ cb) (hR : RV w w0.heap.size x r) (hT : OwnI w w0.heap.size (.slice A ts.length c) ts) (hS : Sim m r) (d p n u : Int) (raw : Bool) (hd : d.tmod 9 = 3) :
    Calls Try.prog 23 #[ptr mb, x, .agg #[.int .u8 d, .int .i64 p, .int .i64 n, .int .i64 u, .bool raw], .slice A ts.length c] w (Did w0 w mb cb (.slice A ts.length c) ts) := by
  have s0 : (d.tmod 9 == 0) = false := by rw [hd]; rfl
  have s1 : (d.tmod 9 == 1) = false := by rw [hd]; rfl
  have s2 : (d.tmod 9 == 2) = false := by rw [hd]; rfl
  have s3 : (d.tmod 9 == 3) = true := by rw [hd]; rfl
  obtain ⟨g, cap, tl, rfl, hbg, hgg, hcp, hcm, hlt⟩ := hR.open
  clear hgg hcp hcm hlt hbg hd
  obtain ⟨W, hW, K5, K6, K8, hb⟩ := boxed3 w (.slice (some ⟨g, 0, none⟩) r.l.length cap) r.c r.lv r.st d p n u raw
  have HW := Lib.hid hW
  have hA1 := hA.below hb
  have hR1 := hR.move hb
  have hT1 := hT.below hb
  have hB1 := below_then hB hB.size hb
  obtain ⟨q, hq⟩ := handle_some d p n u raw ts
  have HQ := Lib.hid hq
  obtain ⟨hC, hc⟩ := hT1.toC
  have HC := Lib.hid hC
  have h8 : w0.heap.size ≤ w.heap.size + 1 + 1 := by have := hB.size; omega
  have ltmb := hA.lt_mb
  have ltcb := hA.lt_cb
  have e5m : w.heap.size ≠ mb := by omega
  have e5c : w.heap.size ≠ cb := by omega
  have e6m : w.heap.size + 1 ≠ mb := by omega
  have e6c : w.heap.size + 1 ≠ cb := by omega
  have e8m : w.heap.size + 1 + 1 ≠ mb := by omega
  have e8c : w.heap.size + 1 + 1 ≠ cb := by omega
  have HBB := Lib.hid hb
  clear hW hq hC hA hR hT hb
  have HK5 := Lib.hid K5
  have HK6 := Lib.hid K6
  have HK8 := Lib.hid K8
  clear K5 K6 K8
  go_enter Try.func23, Try.ntmps23
  go_wp2_with fail
  rw [← HW.out]
  refine (rundlelaw12_handle.calls d p n u raw A c ts q W HC.out hc HQ.out).mono ?_
  rintro e w1 ⟨rfl, hb1⟩
  have k5 := blk_below HK5.out hb1
  have k6 := blk_below HK6.out hb1
  have k8 := blk_below HK8.out hb1
  have hA2 := hA1.below hb1
  have hR2 := hR1.move hb1
  have hT2 := hT1.below hb1
  have hB2 := below_then hB1 hB1.size hb1
  have KP1 := Lib.hid (show Kp w w1 mb cb from fun k cs _ _ h => blk_below (blk_below h HBB.out) hb1)
  clear hb1 hA1 hR1 hT1 HC HQ HW HK5 HK6 HK8 hB1 HBB
  obtain ⟨y0, y1, y2, y3, y4⟩ := act_box k6
  obtain ⟨m', r', nn, ee, e1, e2, hS'⟩ := ex_word hS q
  have E1 := Lib.hid e1
  have E2 := Lib.hid e2
  clear e1 e2
  go_wp2_with fail
  refine (Word_calls hA2 q).mono ?_
  rw [E1.out]
  rintro e w3 ⟨rfl, hA3, hF3⟩
  have k5 := hF3.at_ k5 e5m e5c
  have k6 := hF3.at_ k6 e6m e6c
  have k8 := hF3.at_ k8 e8m e8c
  have hR3 := hR2.fr hA2 hF3
  have hT3 := hT2.fr hA2 hF3
  have hB3 := hF3.over hB2 hB2.size hmb hcb
  have KP3 := Lib.hid (show Kp w w3 mb cb from fun k cs h1 h2 h => hF3.at_ (KP1.out k cs h1 h2 h) h1 h2)
  clear hR2 hT2 hB2 hA2 hF3 KP1 y0 y1 y2 y3 y4
  obtain ⟨y0, y1, y2, y3, y4⟩ := act_box k6
  obtain ⟨x0, x1, x2, x3⟩ := box_cells k5
  go_wp2_with fail
  refine (look_calls hB3 hR3 q 1).mono ?_
  rw [E2.out]
  rintro e w4 ⟨x', rfl, hR4, hS4⟩
  have k6 := RS.blk hS4 hR3 k6 (by decide)
  have k8 := RS.blk hS4 hR3 k8 (by decide)
  have hA4 := RS.at_ hS4 hR3 hA3
  have hT4 := RS.own_ hS4 hR3 hT3
  have hB4 := hS4.1
  have KP4 := Lib.hid (show Kp w w4 mb cb from fun k cs h1 h2 h => RS.blk hS4 hR3 (KP3.out k cs h1 h2 h) (by decide))
  clear hR3 hT3 hB3 hA3 KP3 hS4 y0 y1 y2 y3 y4 x0 x1 x2 x3 k5
  obtain ⟨y0, y1, y2, y3, y4⟩ := act_box k6
  obtain ⟨p0, p1, p2, p3⟩ := box_cells k8
  have t0 := blk_frozen k8 0
  have t1 := blk_frozen k8 1
  have t2 := blk_frozen k8 2
  have t3 := blk_frozen k8 3
  have lt8 := blk_lt k8
  have ne8 : w.heap.size + 1 + 1 ≠ w4.heap.size := Nat.ne_of_lt lt8
  obtain ⟨g4, cap4, tl4, rfl, _, _, _, _, _⟩ := hR4.open
  obtain ⟨l4, c4, v4, s4⟩ := r'
  simp only at hR4 ⊢
  have q1 : (nn == nn) = true := by simp
  have q2 : (ee == ee) = true := by simp
  have ho := only4 w4 (w.heap.size + 1 + 1) (.slice (some ⟨g4, 0, none⟩) l4.length cap4) (.int .i64 c4) (.int .i64 v4) (.int .i64 s4)
  have k8b := blk_alloc (blk4 k8 (.slice (some ⟨g4, 0, none⟩) l4.length cap4) (.int .i64 c4) (.int .i64 v4) (.int .i64 s4)) (.cells #[.slice (some ⟨g4, 0, none⟩) l4.length cap4, .int .i64 c4, .int .i64 v4, .int .i64 s4] 45)
  have hA5 := (hA4.only ho (Ne.symm e8m) (Ne.symm e8c)).alloc (.cells #[.slice (some ⟨g4, 0, none⟩) l4.length cap4, .int .i64 c4, .int .i64 v4, .int .i64 s4] 45)
  have hR5 := RV.move (RV.only hR4 ho k8 (by decide)) (below_alloc (Below.refl _ _) (.cells #[.slice (some ⟨g4, 0, none⟩) l4.length cap4, .int .i64 c4, .int .i64 v4, .int .i64 s4] 45))
  have hT5 := (hT4.only ho k8 (by decide)).alloc (.cells #[.slice (some ⟨g4, 0, none⟩) l4.length cap4, .int .i64 c4, .int .i64 v4, .int .i64 s4] 45)
  have hB5 := (Below.only hB4 ho h8).alloc (by have := hB4.size; simpa using this) (.cells #[.slice (some ⟨g4, 0, none⟩) l4.length cap4, .int .i64 c4, .int .i64 v4, .int .i64 s4] 45)
  have KP5 : Kp w ((set4 w4 (w.heap.size + 1 + 1) (.slice (some ⟨g4, 0, none⟩) l4.length cap4) (.int .i64 c4) (.int .i64 v4) (.int .i64 s4)).alloc (.cells #[.slice (some ⟨g4, 0, none⟩) l4.length cap4, .int .i64 c4, .int .i64 v4, .int .i64 s4] 45)) mb cb := fun k cs h1 h2 h => blk_alloc ((ho.block k (by have := blk_lt h; omega)).trans (KP4.out k cs h1 h2 h)) _
  have FIN := Lib.hid (show Did w0 w mb cb (.slice A ts.length c) ts (.returned (.tuple #[agg4 (.slice (some ⟨g4, 0, none⟩) l4.length cap4) c4 v4 s4, .bool true, .int .i64 0])) _ from ⟨_, m', _, 0, rfl, hS', hA5, hR5, hT5, hB5, KP5⟩)
  have K8B := Lib.hid (box_cells k8b)
  clear ho k8b hA5 hR5 hT5 hB5 KP4 KP5
  go_wp2
  obtain ⟨u0, u1, u2, u3⟩ := K8B.out
  exact bodyPost_ret (v := .tuple #[agg4 (.slice (some ⟨g4, 0, none⟩) l4.length cap4) c4 v4 s4, .bool true, .int .i64 0]) (by simp [results, Try.results23, go_sem, u0, u1, u2, u3]) rfl FIN.out
end
end Go.Proofs.Ythghhkdichbijaa.Mem
