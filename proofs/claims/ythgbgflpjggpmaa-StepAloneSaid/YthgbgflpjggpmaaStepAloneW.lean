/- StepAlone, by hand: whatever a function asks, done step by step it asks memory once at each step, and answers what the document says; done at once, too. -/
import Derived.Test.YthgbgflpjggpmaaStepTurn0
import Derived.WalkSpells
namespace Go.Proofs.Ythgbgflpjggpmaa.Mem
open Go.RowKit Go.Proofs.YthgbgflpjggpmaaW.PrintWords Go.Proofs.YthgbgflpjggpmaaW.PrintLast Go.Proofs.Ythgbgflpjggpmaa.Tags
open Go.Proofs.Ythgbgflpjggpmaa.PStepAlone (S57 k57 z57 rd_T57 at_T57 z108 rundleref13_Next.f rundleref13_Next.calls)
open Go.Proofs.Ythgbgflpjggpmaa.RefAlloc
set_option linter.unusedVariables false
set_option linter.unusedSimpArgs false
section
set_option maxHeartbeats 1600000 in
set_option maxRecDepth 100000 in
theorem StepAlone_long (a : Int) (A : Option Addr) (cap : Nat) (l : List S57) (hl : 40 < l.length) (w : World) :
    Calls Try.prog 5 #[.int .u8 a, .slice A l.length cap] w fun e w' => e = .returned (.bool true) ∧ Below w.heap.size w w' := by
  have g1 : decide (40 < l.length) = true := decide_eq_true hl
  have g2 : decide ((40 : Int) < (l.length : Int)) = true := decide_eq_true (by omega)
  go_enter Try.func5, Try.ntmps5
  go_wp2_with fail
  refine (awake13_calls w).mono ?_
  rintro e w1 ⟨rfl, hB1⟩
  go_wp2_with fail
  refine (awake13_calls w1).mono ?_
  rintro e w2 ⟨rfl, hB2⟩
  go_wp2
  go_ret
  exact ⟨rfl, below_then hB1 hB1.size hB2⟩
theorem RV.oq {w w' : World} {B : Nat} {x : Value} {r : R} (h : RV w B x r) (hO : Oq w w') : RV w' B x r := h.keep fun k hk => by
  obtain ⟨cells, hc⟩ := h.typed hk
  rw [hO k _ _ hc (by decide), hc]
/-- What the loop holds. -/
def LoopA (w0 : World) (mb cb mo co lb xb pb n cap wb rb : Nat) (A : Option Addr) (l : List S57) (i : Value) (w : World) : Prop := ∃ (x : MS) (v : Value) (r : R5) (q : R) (vr : Value), i = .int .i64 r.n ∧ Al w0 mb cb mo co lb xb pb n cap A l w x v r ∧ Sim x.p.m q ∧ RV w w0.heap.size (agg4 vr q.c q.lv q.st) q ∧ w.heap[wb]? = some (.cells #[vr, .int .i64 q.c, .int .i64 q.lv, .int .i64 q.st] 52 (0, 0)) ∧ w.heap[rb]? = some (.cells (R5.v r) 47 (0, 0)) ∧ (l ≠ [] → ¬ r.a < l.length → Sht l x r)
theorem cell_at0 {w w' : World} {p : Addr} {v : Value} (hb : Below w.heap.size w w') (h : w.cell? p = some v) : w'.cell? p = some v := cell_later hb h
theorem mstep_ended {w : World} {xb pb : Nat} {fv out : Value} {steps : Int} (h : MG w xb pb fv out steps true) : Calls Try.prog 13 #[ptr xb] w fun e w' => e = .returned (.bool true) ∧ w' = w := by
  obtain ⟨m0, m1, m2, m3, m4⟩ := h.cells
  go_enter Try.func13, Try.ntmps13
  go_wp2
  go_ret
  exact ⟨rfl, rfl⟩
theorem Fr.over_ {w w1 w2 : World} {mb cb : Nat} {B : Nat} (h : Fr w1 w2 mb cb) (hb : Below B w w1) (h0 : B ≤ w1.heap.size) (h1 : B ≤ mb) (h2 : B ≤ cb) : Below B w w2 :=
  ⟨h.os.trans hb.os, h.tape.trans hb.tape, h.output.trans hb.output, Nat.le_trans hb.size h.size, fun k hk => (h.block k (by omega) (by omega) (by omega)).trans (hb.block k hk)⟩
/-- The document's One, in a world that has grown. -/
theorem one_at {w W w0 : World} {x_ : Value} {q : R} (hW : Below w.heap.size w W) (hB : Below w0.heap.size w0 w) (h : RV w w0.heap.size x_ q) (hg : ∀ i, i < q.l.length → 0 ≤ (q.at i).f2) (x : S57) (h0 : 0 ≤ x.f0 ∧ x.f0 ≤ 255) (told : Int) {q2 : R} {n2 e2 t2 : Int} (ho : oneR q x told = (q2, n2, e2, t2)) :
    Calls Try.prog 20 #[x_, .agg (askV x), .int .i64 told] W fun e w' => ∃ g c, e = .returned (.tuple #[agg4 (.slice (some ⟨g, 0, none⟩) q2.l.length c) q2.c q2.lv q2.st, .int .i64 n2, .int .i64 e2, .int .i64 t2]) ∧ RV w' w0.heap.size (agg4 (.slice (some ⟨g, 0, none⟩) q2.l.length c) q2.c q2.lv q2.st) q2 ∧ Below w0.heap.size w0 w' ∧ Kq W w' := by
  refine (rone_calls (below_then hB hB.size hW) (h.move hW) hg x h0 told).mono ?_
  rw [ho]
  rintro e w' ⟨x', rfl, h2, h3, h4⟩
  have h2' := h2
  obtain ⟨g, c, tl, rfl, _⟩ := h2'.open
  exact ⟨g, c, rfl, h2, h3, h4⟩
/-- What an ask of the document's leaves. -/
def CutA (w0 : World) (mb cb mo co lb xb pb n cap wb rb : Nat) (A : Option Addr) (l : List S57) (x : MS) (v : Value) (r : R5) (q2 : R) (n2 e2 t2 : Int) (cs : Array Value) (s13 s14 s15 s16 : Value) (w : World) : Prop := ∃ (b g c : Nat), s13 = .pointer (some ⟨b, 0, none⟩) ∧ s14 = .int .i64 n2 ∧ s15 = .int .i64 e2 ∧ s16 = .int .i64 t2 ∧
  w.heap[b]? = some (.cells #[.slice (some ⟨g, 0, none⟩) q2.l.length c, .int .i64 q2.c, .int .i64 q2.lv, .int .i64 q2.st] 52 (0, 0)) ∧ b ≠ wb ∧ Al w0 mb cb mo co lb xb pb n cap A l w x v r ∧ RV w w0.heap.size (agg4 (.slice (some ⟨g, 0, none⟩) q2.l.length c) q2.c q2.lv q2.st) q2 ∧
  w.heap[wb]? = some (.cells cs 52 (0, 0)) ∧ w.heap[rb]? = some (.cells (R5.v r) 47 (0, 0))
section
variable {w0 wr W w5 : World} {mb cb mo co lb xb pb n cap wb rb g c : Nat} {A : Option Addr} {l : List S57} {x : MS} {v : Value} {r : R5} {q2 : R} {n2 e2 t2 : Int} {cs : Array Value}
theorem cutA (h : Al w0 mb cb mo co lb xb pb n cap A l wr x v r) (hW : Below wr.heap.size wr W) (hq : Kq W w5) (hB : Below w0.heap.size w0 w5) (hR : RV w5 w0.heap.size (agg4 (.slice (some ⟨g, 0, none⟩) q2.l.length c) q2.c q2.lv q2.st) q2) (hwb : wr.heap[wb]? = some (.cells cs 52 (0, 0))) (hrb : wr.heap[rb]? = some (.cells (R5.v r) 47 (0, 0))) :
    CutA w0 mb cb mo co lb xb pb n cap wb rb A l x v r q2 n2 e2 t2 cs (.pointer (some ⟨w5.heap.size, 0, none⟩)) (.int .i64 n2) (.int .i64 e2) (.int .i64 t2) (w5.alloc (.cells #[.slice (some ⟨g, 0, none⟩) q2.l.length c, .int .i64 q2.c, .int .i64 q2.lv, .int .i64 q2.st] 52)) := by
  have hq2 : Kq wr w5 := (Kq.of_below hW).trans hq
  have hb : Below w5.heap.size w5 (w5.alloc (.cells #[.slice (some ⟨g, 0, none⟩) q2.l.length c, .int .i64 q2.c, .int .i64 q2.lv, .int .i64 q2.st] 52)) := below_alloc (Below.refl _ _) _
  have k1 := hq2 _ _ _ hwb (by decide)
  exact ⟨_, g, c, rfl, rfl, rfl, rfl, blk_new _ _, by have := blk_lt k1; omega, (h.kq hq2 hB).below hb, RV.move hR hb, blk_below k1 hb, blk_below (hq2 _ _ _ hrb (by decide)) hb⟩
theorem cutB (h : Al w0 mb cb mo co lb xb pb n cap A l wr x v r) (hW : Below wr.heap.size wr W) (hq : Kq W w5) (hB : Below w0.heap.size w0 w5) (hR : RV w5 w0.heap.size (agg4 (.slice (some ⟨g, 0, none⟩) q2.l.length c) q2.c q2.lv q2.st) q2) (hwb : wr.heap[wb]? = some (.cells cs 52 (0, 0))) (hrb : wr.heap[rb]? = some (.cells (R5.v r) 47 (0, 0)))
    {b : Nat} {a0 a1 a2 a3 : Value} (kb : w5.heap[b]? = some (.cells #[a0, a1, a2, a3] 52 (0, 0))) (hb0 : w0.heap.size ≤ b) (n1 : b ≠ wb) (n2' : b ≠ rb) :
    CutA w0 mb cb mo co lb xb pb n cap wb rb A l x v r q2 n2 e2 t2 cs (.pointer (some ⟨b, 0, none⟩)) (.int .i64 n2) (.int .i64 e2) (.int .i64 t2) (set4 w5 b (.slice (some ⟨g, 0, none⟩) q2.l.length c) (.int .i64 q2.c) (.int .i64 q2.lv) (.int .i64 q2.st)) := by
  have hq2 : Kq wr w5 := (Kq.of_below hW).trans hq
  have ho := only4 w5 b (.slice (some ⟨g, 0, none⟩) q2.l.length c) (.int .i64 q2.c) (.int .i64 q2.lv) (.int .i64 q2.st)
  have k1 := hq2 _ _ _ hwb (by decide)
  have k2 := hq2 _ _ _ hrb (by decide)
  exact ⟨b, g, c, rfl, rfl, rfl, rfl, blk4 kb _ _ _ _, n1, (h.kq hq2 hB).only ho kb (by decide) hb0, RV.only hR ho kb (by decide), (ho.block wb (Ne.symm n1)).trans k1, (ho.block rb (Ne.symm n2')).trans k2⟩
end
set_option maxHeartbeats 6400000 in
set_option maxRecDepth 100000 in
theorem StepAlone_main (a : Int) (ha : 0 ≤ a ∧ a ≤ 255) (A : Option Addr) (cap : Nat) (l : List S57) (h40 : l.length ≤ 40) (hc : l.length ≤ cap) (w : World) (hR : Kd.C k57 w A l.length l) (hf0 : ∀ i, 0 ≤ i → i < (l.length : Int) → 0 ≤ (rd_T57 l i).f0 ∧ (rd_T57 l i).f0 ≤ 255) :
    Calls Try.prog 5 #[.int .u8 a, .slice A l.length cap] w fun e w' => e = .returned (.bool true) ∧ Below w.heap.size w w' := by
  have g1 : decide (40 < l.length) = false := decide_eq_false (by omega)
  have g2 : decide ((40 : Int) < (l.length : Int)) = false := decide_eq_false (by omega)
  obtain ⟨n, hn⟩ : ∃ n : Nat, (n : Int) = 1 + a % 60 := ⟨(1 + a % 60).toNat, by omega⟩
  have hn1 : 1 ≤ n ∧ n ≤ 60 := by omega
  have HM := Lib.hid (memory_calls a ha n hn)
  have HR := Lib.hid hR
  have HF0 := Lib.hid hf0
  have HC := Lib.hid hc
  have HN := Lib.hid hn1
  have H40 := Lib.hid h40
  clear hn ha hR hf0 hc hn1 h40
  go_enter Try.func5, Try.ntmps5
  go_wp2_with fail
  refine (awake13_calls w).mono ?_
  rintro e w1 ⟨rfl, hb1⟩
  have HB1 := Lib.hid hb1
  clear hb1
  go_wp2_with fail
  refine (HM.out w1).mono ?_
  rintro e w2 ⟨rfl, hA2, hb2⟩
  obtain ⟨mb, hmb⟩ : ∃ y, w1.heap.size + 1 = y := ⟨_, rfl⟩
  obtain ⟨cb, hcb⟩ : ∃ y, w1.heap.size = y := ⟨_, rfl⟩
  rw [hmb, hcb] at hA2
  rw [hmb]
  have hB2 := below_then HB1.out HB1.out.size hb2
  have hbm : w.heap.size ≤ mb ∧ w.heap.size ≤ cb := by have := HB1.out.size; omega
  have HB2 := Lib.hid hB2
  have HA2 := Lib.hid hA2
  clear hA2 hb2 hB2 HB1 hmb hcb
  go_wp2_with fail
  refine (HM.out w2).mono ?_
  rintro e w3 ⟨rfl, hA3, hb3⟩
  obtain ⟨mo, hmo⟩ : ∃ y, w2.heap.size + 1 = y := ⟨_, rfl⟩
  obtain ⟨co, hco⟩ : ∃ y, w2.heap.size = y := ⟨_, rfl⟩
  rw [hmo, hco] at hA3
  rw [hmo]
  have hB3 := below_then HB2.out HB2.out.size hb3
  have hbo : w.heap.size ≤ mo ∧ w.heap.size ≤ co := by have := HB2.out.size; omega
  have hne : mo ≠ mb ∧ co ≠ cb := by have := mb_lt HA2.out; have := cb_lt HA2.out; omega
  have HB3 := Lib.hid hB3
  have HAo := Lib.hid hA3
  have HA3 := Lib.hid (HA2.out.below hb3)
  have HBS := Lib.hid (And.intro hbm (And.intro hbo hne))
  clear hA3 hb3 hB3 HB2 HA2 hmo hco HM hbm hbo hne
  go_wp2_with fail
  refine (rnew_calls n w3 HN.out.1 (by have := HN.out.2; omega)).mono ?_
  rintro e w4 ⟨g, c, rfl, hR4, hb4⟩
  obtain ⟨w5, hw5⟩ : ∃ y : World, y = w4.alloc (.cells #[.slice (some ⟨g, 0, none⟩) n c, .int .i64 0, .int .i64 0, .int .i64 0] 52) := ⟨_, rfl⟩
  have hb5 : Below w4.heap.size w4 w5 := hw5 ▸ below_alloc (Below.refl _ _) _
  obtain ⟨wb, hwb⟩ : ∃ y, w4.heap.size = y := ⟨_, rfl⟩
  have hk5 : w5.heap[wb]? = some (.cells #[.slice (some ⟨g, 0, none⟩) n c, .int .i64 0, .int .i64 0, .int .i64 0] 52 (0, 0)) := hwb ▸ hw5 ▸ blk_new _ _
  obtain ⟨w6, hw6⟩ : ∃ y : World, y = w5.alloc (.cells #[.int .i64 0, .int .i64 0, .int .i64 0, .int .i64 0, .int .i64 0] 47) := ⟨_, rfl⟩
  have hb6 : Below w5.heap.size w5 w6 := hw6 ▸ below_alloc (Below.refl _ _) _
  obtain ⟨rb, hrb⟩ : ∃ y, w5.heap.size = y := ⟨_, rfl⟩
  have hk6 : w6.heap[rb]? = some (.cells #[.int .i64 0, .int .i64 0, .int .i64 0, .int .i64 0, .int .i64 0] 47 (0, 0)) := hrb ▸ hw6 ▸ blk_new _ _
  have hB4 := below_then HB3.out HB3.out.size hb4
  have hB5 := below_then hB4 hB4.size hb5
  have HB6 := Lib.hid (below_then hB5 hB5.size hb6)
  have HA6 := Lib.hid (((HA3.out.below hb4).below hb5).below hb6)
  have HAo6 := Lib.hid (((HAo.out.below hb4).below hb5).below hb6)
  have HR6 := Lib.hid (RV.lower (((hR4.move hb5)).move hb6) HB3.out.size)
  have HK6 := Lib.hid (blk_below hk5 hb6)
  have HQ6 := Lib.hid hk6
  have HW5 := Lib.hid hw5
  have HW6 := Lib.hid hw6
  have HWB := Lib.hid (And.intro hwb hrb)
  have HBW := Lib.hid (show w.heap.size ≤ wb ∧ w.heap.size ≤ rb from ⟨by have := hB4.size; omega, by have := hB5.size; omega⟩)
  clear hR4 hb4 hw5 hb5 hwb hk5 hw6 hb6 hrb hk6 hB4 hB5 HA3 HAo HB3
  go_upto_region 8 with fail
  rw [← HW5.out, HWB.out.1]
  clear HW5
  go_upto_region 9 with fail
  rw [← HW6.out, HWB.out.2]
  clear HW6 HWB
  go_wp2_with fail
  refine (mkdoes_calls (.slice A l.length cap) ⟨_, _, _, rfl⟩ w6).mono ?_
  rintro e w7 ⟨rfl, hlb, hb7⟩
  obtain ⟨lb, hlbe⟩ : ∃ y, w6.heap.size = y := ⟨_, rfl⟩
  rw [hlbe] at hlb
  rw [hlbe]
  have HL7 := Lib.hid hlb
  have HB7 := Lib.hid hb7
  clear hlbe hlb hb7
  go_wp2_with fail
  refine (mnew_calls mb 38 #[.pointer (some ⟨lb, 0, none⟩)] w7).mono ?_
  rintro e w8 ⟨rfl, hp, hm, hb8⟩
  obtain ⟨xb, hxb⟩ : ∃ y, w7.heap.size + 1 = y := ⟨_, rfl⟩
  obtain ⟨pb, hpb⟩ : ∃ y, w7.heap.size = y := ⟨_, rfl⟩
  rw [hxb, hpb] at hm
  rw [hpb] at hp
  rw [hxb]
  have hB7 := below_then HB6.out HB6.out.size HB7.out
  have hB8 := below_then hB7 hB7.size hb8
  have hal : Al w mb cb mo co lb xb pb n cap A l w8 ⟨⟨M.new n, [], 0, 0, 0⟩, .nilIface, 0, false⟩ (.slice none 0 0) r0 :=
    ⟨(HA6.out.below HB7.out).below hb8, (HAo6.out.below HB7.out).below hb8, ⟨hp, OwnA.nil w8, hm, (fun a ha => by cases ha), by simp, by simp⟩, blk_below HL7.out hb8, Or.inl ⟨rfl, Leads.nil _, rfl, rfl, rfl, rfl, Int.le_refl _, by simp [r0], Int.le_refl _, Or.inr rfl⟩, hB8, rfl, ⟨HBS.out.1.1, HBS.out.1.2, HBS.out.2.1.1, HBS.out.2.1.2, by have := hB7.size; omega, by have := hB7.size; omega, fun k hk => by cases hk⟩, HBS.out.2.2⟩
  have START := Lib.hid (show LoopA w mb cb mo co lb xb pb n cap wb rb A l (.int .i64 0) w8 from ⟨_, _, _, ⟨List.replicate n z108, 0, 0, 0⟩, _, rfl, hal, Sim.start n, RV.move (RV.move HR6.out HB7.out) hb8, blk_below (blk_below HK6.out HB7.out) hb8, blk_below (blk_below HQ6.out HB7.out) hb8, fun h1 h2 => absurd (List.length_pos_iff.2 h1) (by simp only [r0] at h2; omega)⟩)
  have HP := Lib.hid hp
  have HMG := Lib.hid hm
  clear hal hp hm hxb hpb hB7 hB8 hb8 HR6 HK6 HQ6 HA6 HAo6 HB7 HB6 HL7 HBS
  go_wp2_with fail
  refine (mended_calls HMG.out).mono ?_
  rintro e w' ⟨rfl, rfl⟩
  go_wp2_with fail
  refine (msteps_calls HMG.out).mono ?_
  rintro e w' ⟨rfl, rfl⟩
  go_wp2_with fail
  refine (mnoted_calls HMG.out HP.out).mono ?_
  rintro e w' ⟨rfl, rfl⟩
  clear HMG HP
  go_wp2_with fail
  go_loopw [12] (fun i wr => LoopA w mb cb mo co lb xb pb n cap wb rb A l i wr) (fun _ wr => dmu l.length wr rb)
  case atStart => exact START.out
  case round =>
    obtain ⟨x, v, r, q, vr, rfl, hal, hS, hRV, hK, hQ, hSt⟩ := hrel
    obtain ⟨t1, t2, t3, t4⟩ := hal.T.facts
    have HAL := Lib.hid hal
    have HS := Lib.hid hS
    have HRV := Lib.hid hRV
    have HK := Lib.hid hK
    have HQ := Lib.hid hQ
    have HM := Lib.hid (dmu_eq (n := l.length) hQ)
    obtain ⟨b0, b1, b2, b3, b4⟩ := box5 hQ
    obtain ⟨q0, q1, q2, q3⟩ := box_cells hK
    clear START
    by_cases hlt : r.a < (l.length : Int)
    · have gt : decide (r.a < (l.length : Int)) = true := decide_eq_true hlt
      obtain ⟨ad, hAd, x0, x1, x2, x3, x4, x5⟩ := at_T57 HR.out r.a t3 hlt
      obtain ⟨xk, hxk⟩ : ∃ y, rd_T57 l r.a = y := ⟨_, rfl⟩
      rw [hxk] at x0 x1 x2 x3 x4 x5
      have h08 : 0 ≤ xk.f0 ∧ xk.f0 ≤ 255 := hxk ▸ HF0.out r.a t3 hlt
      obtain ⟨q2_, n2, e2, u2, ho⟩ : ∃ q2_ n2 e2 u2, oneR q xk r.t = (q2_, n2, e2, u2) := ⟨_, _, _, _, rfl⟩
      have hcall := fun W hW => one_at (w := wr) (W := W) hW hal.B hRV hS.gens xk h08 r.t ho
      have HX := Lib.hid hxk
      have HO := Lib.hid ho
      have HCALL := Lib.hid hcall
      have HT := Lib.hid (And.intro t1 (And.intro t2 (And.intro t3 t4)))
      clear hal hS hRV hK hQ hSt t1 t2 hxk ho hcall h08
      obtain ⟨gq, cq, tlq, eq, hv1, hv2, hv3, hv4, hv5⟩ := HRV.out.open
      clear hv1 hv2 hv3 hv4 hv5
      injection eq with eq
      obtain rfl : vr = .slice (some ⟨gq, 0, none⟩) q.l.length cq := by simpa using eq
      clear eq
      subst hAd
      obtain ⟨f0, f1, f2, f3, f4, f5⟩ := xk
      simp only at x0 x1 x2 x3 x4 x5
      have SOF := Lib.hid (show ∀ w', Kq wr w' → Below w.heap.size w w' → (w'.cell? ⟨wb, 0, none⟩ = some (.slice (some ⟨gq, 0, none⟩) q.l.length cq) ∧ w'.cell? ⟨wb, 1, none⟩ = some (.int .i64 q.c) ∧ w'.cell? ⟨wb, 2, none⟩ = some (.int .i64 q.lv) ∧ w'.cell? ⟨wb, 3, none⟩ = some (.int .i64 q.st) ∧ w'.cell? ⟨rb, 0, none⟩ = some (.int .i64 r.a) ∧ w'.cell? ⟨rb, 1, none⟩ = some (.int .i64 r.t) ∧ w'.cell? (ad.add (r.a.toNat * 6)) = some (.int .u8 f0) ∧ w'.cell? ⟨(ad.add (r.a.toNat * 6)).block, (ad.add (r.a.toNat * 6)).off + 1, none⟩ = some (.int .i64 f1) ∧ w'.cell? ⟨(ad.add (r.a.toNat * 6)).block, (ad.add (r.a.toNat * 6)).off + 2, none⟩ = some (.int .i64 f2) ∧ w'.cell? ⟨(ad.add (r.a.toNat * 6)).block, (ad.add (r.a.toNat * 6)).off + 3, none⟩ = some (.int .i64 f3) ∧ w'.cell? ⟨(ad.add (r.a.toNat * 6)).block, (ad.add (r.a.toNat * 6)).off + 4, none⟩ = some (.bool f4) ∧ w'.cell? ⟨(ad.add (r.a.toNat * 6)).block, (ad.add (r.a.toNat * 6)).off + 5, none⟩ = some (.bool f5) ∧ Kq wr w' ∧ Below w.heap.size w w') from by
        intro w' k1 k2
        obtain ⟨b0, b1, b2, b3, b4⟩ := box5 (k1 _ _ _ HQ.out (by decide))
        obtain ⟨q0, q1, q2, q3⟩ := box_cells (k1 _ _ _ HK.out (by decide))
        exact ⟨q0, q1, q2, q3, b0, b1, cell_at0 k2 x0, cell_at0 k2 x1, cell_at0 k2 x2, cell_at0 k2 x3, cell_at0 k2 x4, cell_at0 k2 x5, k1, k2⟩)
      have KF := Lib.hid (SOF.out (wr.drewN 1) (Kq.of_below (pw_below_drewN (Below.refl _ _) 1)) (pw_below_drewN HAL.out.B 1))
      go_upto_region 15 with fail
      clear b0 b1 b2 b3 b4 q0 q1 q2 q3 x0 x1 x2 x3 x4 x5
      go_cut [13, 14, 15, 16] (fun s13 s14 s15 s16 wx => CutA w mb cb mo co lb xb pb n cap wb rb (some ad) l x v r q2_ n2 e2 u2 #[.slice (some ⟨gq, 0, none⟩) q.l.length cq, .int .i64 q.c, .int .i64 q.lv, .int .i64 q.st] s13 s14 s15 s16 wx)
      case first =>
        refine start_ (n := 19) (S := fun w' => w'.cell? ⟨wb, 0, none⟩ = some (.slice (some ⟨gq, 0, none⟩) q.l.length cq) ∧ w'.cell? ⟨wb, 1, none⟩ = some (.int .i64 q.c) ∧ w'.cell? ⟨wb, 2, none⟩ = some (.int .i64 q.lv) ∧ w'.cell? ⟨wb, 3, none⟩ = some (.int .i64 q.st) ∧ w'.cell? ⟨rb, 0, none⟩ = some (.int .i64 r.a) ∧ w'.cell? ⟨rb, 1, none⟩ = some (.int .i64 r.t) ∧ w'.cell? (ad.add (r.a.toNat * 6)) = some (.int .u8 f0) ∧ w'.cell? ⟨(ad.add (r.a.toNat * 6)).block, (ad.add (r.a.toNat * 6)).off + 1, none⟩ = some (.int .i64 f1) ∧ w'.cell? ⟨(ad.add (r.a.toNat * 6)).block, (ad.add (r.a.toNat * 6)).off + 2, none⟩ = some (.int .i64 f2) ∧ w'.cell? ⟨(ad.add (r.a.toNat * 6)).block, (ad.add (r.a.toNat * 6)).off + 3, none⟩ = some (.int .i64 f3) ∧ w'.cell? ⟨(ad.add (r.a.toNat * 6)).block, (ad.add (r.a.toNat * 6)).off + 4, none⟩ = some (.bool f4) ∧ w'.cell? ⟨(ad.add (r.a.toNat * 6)).block, (ad.add (r.a.toNat * 6)).off + 5, none⟩ = some (.bool f5) ∧ Kq wr w' ∧ Below w.heap.size w w') (ds := [15]) #[false, false, false, false, false, false, false, false, false, false, false, false, false, false, false, false, false, false, false] rfl rfl rfl (KF.out) ?_
        intro hHeld
        refine take_ (i := 0) (N := some 77) (v := ?_) (a' := ?_) #[true, false, false, false, false, false, false, false, false, false, false, false, false, false, false, false, false, false, false] rfl rfl (by kernel_rfl) (fun _ _ _ h => h) (Or.inl ⟨by rfl, ?_⟩) hHeld ?_ ?_
        rotate_left
        · rintro w' hHeld'
          have hHeld'' := hHeld'
          (try obtain ⟨r0_, r1_⟩ := hHeld')
          (try obtain ⟨r1_, r2_⟩ := r1_)
          (try obtain ⟨r2_, r3_⟩ := r2_)
          (try obtain ⟨r3_, r4_⟩ := r3_)
          (try obtain ⟨r4_, r5_⟩ := r4_)
          (try obtain ⟨r5_, r6_⟩ := r5_)
          (try obtain ⟨r6_, r7_⟩ := r6_)
          (try obtain ⟨r7_, r8_⟩ := r7_)
          (try obtain ⟨r8_, r9_⟩ := r8_)
          (try obtain ⟨r9_, r10_⟩ := r9_)
          (try obtain ⟨r10_, r11_⟩ := r10_)
          (try obtain ⟨r11_, r12_⟩ := r11_)
          (try obtain ⟨r12_, r13_⟩ := r12_)
          go_simp
          with_reducible rfl
        rotate_left
        · simp only [Act.put, List.setIfInBounds_toArray, List.set_cons_zero, List.set_cons_succ, i64_w, i32_w]
          rfl
        refine pure_ (i := 1) (N := some 78) (v := ?_) (a' := ?_) #[true, true, false, false, false, false, false, false, false, false, false, false, false, false, false, false, false, false, false] rfl rfl (by kernel_rfl) (fun _ _ _ h => h) (Or.inl ⟨by rfl, ?_⟩) ?_ ?_
        rotate_left
        · intro w'
          go_simp
          with_reducible rfl
        rotate_left
        · simp only [Act.put, List.setIfInBounds_toArray, List.set_cons_zero, List.set_cons_succ, i64_w, i32_w]
          rfl
        refine pure_ (i := 2) (N := some 79) (v := ?_) (a' := ?_) #[true, true, true, false, false, false, false, false, false, false, false, false, false, false, false, false, false, false, false] rfl rfl (by kernel_rfl) (fun _ _ _ h => h) (Or.inl ⟨by rfl, ?_⟩) ?_ ?_
        rotate_left
        · intro w'
          go_simp
          with_reducible rfl
        rotate_left
        · simp only [Act.put, List.setIfInBounds_toArray, List.set_cons_zero, List.set_cons_succ, i64_w, i32_w]
          rfl
        refine take_ (i := 3) (N := some 80) (v := ?_) (a' := ?_) #[true, true, true, true, false, false, false, false, false, false, false, false, false, false, false, false, false, false, false] rfl rfl (by kernel_rfl) (fun _ _ _ h => h) (Or.inl ⟨by rfl, ?_⟩) hHeld ?_ ?_
        rotate_left
        · rintro w' hHeld'
          have hHeld'' := hHeld'
          (try obtain ⟨r0_, r1_⟩ := hHeld')
          (try obtain ⟨r1_, r2_⟩ := r1_)
          (try obtain ⟨r2_, r3_⟩ := r2_)
          (try obtain ⟨r3_, r4_⟩ := r3_)
          (try obtain ⟨r4_, r5_⟩ := r4_)
          (try obtain ⟨r5_, r6_⟩ := r5_)
          (try obtain ⟨r6_, r7_⟩ := r6_)
          (try obtain ⟨r7_, r8_⟩ := r7_)
          (try obtain ⟨r8_, r9_⟩ := r8_)
          (try obtain ⟨r9_, r10_⟩ := r9_)
          (try obtain ⟨r10_, r11_⟩ := r10_)
          (try obtain ⟨r11_, r12_⟩ := r11_)
          (try obtain ⟨r12_, r13_⟩ := r12_)
          go_simp
          with_reducible rfl
        rotate_left
        · simp only [Act.put, List.setIfInBounds_toArray, List.set_cons_zero, List.set_cons_succ, i64_w, i32_w]
          rfl
        refine pure_ (i := 4) (N := some 81) (v := ?_) (a' := ?_) #[true, true, true, true, true, false, false, false, false, false, false, false, false, false, false, false, false, false, false] rfl rfl (by kernel_rfl) (fun _ _ _ h => h) (Or.inl ⟨by rfl, ?_⟩) ?_ ?_
        rotate_left
        · intro w'
          go_simp
          with_reducible rfl
        rotate_left
        · simp only [Act.put, List.setIfInBounds_toArray, List.set_cons_zero, List.set_cons_succ, i64_w, i32_w]
          rfl
        refine take_ (i := 5) (N := some 82) (v := ?_) (a' := ?_) #[true, true, true, true, true, true, false, false, false, false, false, false, false, false, false, false, false, false, false] rfl rfl (by kernel_rfl) (fun _ _ _ h => h) (Or.inl ⟨by rfl, ?_⟩) hHeld ?_ ?_
        rotate_left
        · rintro w' hHeld'
          have hHeld'' := hHeld'
          (try obtain ⟨r0_, r1_⟩ := hHeld')
          (try obtain ⟨r1_, r2_⟩ := r1_)
          (try obtain ⟨r2_, r3_⟩ := r2_)
          (try obtain ⟨r3_, r4_⟩ := r3_)
          (try obtain ⟨r4_, r5_⟩ := r4_)
          (try obtain ⟨r5_, r6_⟩ := r5_)
          (try obtain ⟨r6_, r7_⟩ := r6_)
          (try obtain ⟨r7_, r8_⟩ := r7_)
          (try obtain ⟨r8_, r9_⟩ := r8_)
          (try obtain ⟨r9_, r10_⟩ := r9_)
          (try obtain ⟨r10_, r11_⟩ := r10_)
          (try obtain ⟨r11_, r12_⟩ := r11_)
          (try obtain ⟨r12_, r13_⟩ := r12_)
          go_simp
          with_reducible rfl
        rotate_left
        · simp only [Act.put, List.setIfInBounds_toArray, List.set_cons_zero, List.set_cons_succ, i64_w, i32_w]
          rfl
        refine pure_ (i := 6) (N := some 83) (v := ?_) (a' := ?_) #[true, true, true, true, true, true, true, false, false, false, false, false, false, false, false, false, false, false, false] rfl rfl (by kernel_rfl) (fun _ _ _ h => h) (Or.inl ⟨by rfl, ?_⟩) ?_ ?_
        rotate_left
        · intro w'
          go_simp
          with_reducible rfl
        rotate_left
        · simp only [Act.put, List.setIfInBounds_toArray, List.set_cons_zero, List.set_cons_succ, i64_w, i32_w]
          rfl
        refine take_ (i := 7) (N := some 84) (v := ?_) (a' := ?_) #[true, true, true, true, true, true, true, true, false, false, false, false, false, false, false, false, false, false, false] rfl rfl (by kernel_rfl) (fun _ _ _ h => h) (Or.inl ⟨by rfl, ?_⟩) hHeld ?_ ?_
        rotate_left
        · rintro w' hHeld'
          have hHeld'' := hHeld'
          (try obtain ⟨r0_, r1_⟩ := hHeld')
          (try obtain ⟨r1_, r2_⟩ := r1_)
          (try obtain ⟨r2_, r3_⟩ := r2_)
          (try obtain ⟨r3_, r4_⟩ := r3_)
          (try obtain ⟨r4_, r5_⟩ := r4_)
          (try obtain ⟨r5_, r6_⟩ := r5_)
          (try obtain ⟨r6_, r7_⟩ := r6_)
          (try obtain ⟨r7_, r8_⟩ := r7_)
          (try obtain ⟨r8_, r9_⟩ := r8_)
          (try obtain ⟨r9_, r10_⟩ := r9_)
          (try obtain ⟨r10_, r11_⟩ := r10_)
          (try obtain ⟨r11_, r12_⟩ := r11_)
          (try obtain ⟨r12_, r13_⟩ := r12_)
          go_simp
          with_reducible rfl
        rotate_left
        · simp only [Act.put, List.setIfInBounds_toArray, List.set_cons_zero, List.set_cons_succ, i64_w, i32_w]
          rfl
        refine two_ (i := 8) (j := 14) (Ni := some 85) (Nj := some 13) #[true, true, true, true, true, true, true, true, true, false, false, false, false, false, false, false, false, false, false] #[true, true, true, true, true, true, true, true, false, false, false, false, false, false, true, false, false, false, false] rfl rfl rfl rfl (by kernel_rfl) (by decide) (by decide) (fun K hSh => ?_) (fun K hSh => ?_)
        · refine goes_ Try.func20 (by kernel_rfl) rfl #[agg4 (.slice (some ⟨gq, 0, none⟩) q.l.length cq) q.c q.lv q.st, .agg (askV ⟨f0, f1, f2, f3, f4, f5⟩), .int .i64 r.t] (by rfl) rfl rfl (by (try simp only [List.map_toArray, List.map_cons, List.map_nil]); rfl) ?_
          refine (HCALL.out _ (pw_below_drewN (Below.refl _ _) 1)).mono ?_
          rintro e w5 ⟨g5, c5, rfl, hR5, hB5, hK5⟩
          have hKw : Kq wr w5 := (Kq.of_below (pw_below_drewN (Below.refl _ _) 1)).trans hK5
          refine ⟨_, rfl, hSh.out _ _ (SOF.out _ hKw hB5) ?_⟩
          clear hHeld hSh
          intro hHeld
          refine norm_ (a' := ?_) ?_ ?_
          rotate_left
          · simp only [Act.put, List.setIfInBounds_toArray, List.set_cons_zero, List.set_cons_succ, i64_w, i32_w]
            rfl
          refine pure_ (i := 9) (N := some 76) (v := ?_) (a' := ?_) #[true, true, true, true, true, true, true, true, true, true, false, false, false, false, false, false, false, false, false] rfl rfl (by kernel_rfl) (fun _ _ _ h => h) (Or.inl ⟨by rfl, ?_⟩) ?_ ?_
          rotate_left
          · intro w'
            go_simp
            with_reducible rfl
          rotate_left
          · simp only [Act.put, List.setIfInBounds_toArray, List.set_cons_zero, List.set_cons_succ, i64_w, i32_w]
            rfl
          refine pure_ (i := 10) (N := some 86) (v := ?_) (a' := ?_) #[true, true, true, true, true, true, true, true, true, true, true, false, false, false, false, false, false, false, false] rfl rfl (by kernel_rfl) (fun _ _ _ h => h) (Or.inl ⟨by rfl, ?_⟩) ?_ ?_
          rotate_left
          · intro w'
            go_simp
            with_reducible rfl
          rotate_left
          · simp only [Act.put, List.setIfInBounds_toArray, List.set_cons_zero, List.set_cons_succ, i64_w, i32_w]
            rfl
          refine pure_ (i := 11) (N := some 87) (v := ?_) (a' := ?_) #[true, true, true, true, true, true, true, true, true, true, true, true, false, false, false, false, false, false, false] rfl rfl (by kernel_rfl) (fun _ _ _ h => h) (Or.inl ⟨by rfl, ?_⟩) ?_ ?_
          rotate_left
          · intro w'
            go_simp
            with_reducible rfl
          rotate_left
          · simp only [Act.put, List.setIfInBounds_toArray, List.set_cons_zero, List.set_cons_succ, i64_w, i32_w]
            rfl
          refine pure_ (i := 12) (N := some 88) (v := ?_) (a' := ?_) #[true, true, true, true, true, true, true, true, true, true, true, true, true, false, false, false, false, false, false] rfl rfl (by kernel_rfl) (fun _ _ _ h => h) (Or.inl ⟨by rfl, ?_⟩) ?_ ?_
          rotate_left
          · intro w'
            go_simp
            with_reducible rfl
          rotate_left
          · simp only [Act.put, List.setIfInBounds_toArray, List.set_cons_zero, List.set_cons_succ, i64_w, i32_w]
            rfl
          refine pure_ (i := 13) (N := some 89) (v := ?_) (a' := ?_) #[true, true, true, true, true, true, true, true, true, true, true, true, true, true, false, false, false, false, false] rfl rfl (by kernel_rfl) (fun _ _ _ h => h) (Or.inl ⟨by rfl, ?_⟩) ?_ ?_
          rotate_left
          · intro w'
            go_simp
            with_reducible rfl
          rotate_left
          · simp only [Act.put, List.setIfInBounds_toArray, List.set_cons_zero, List.set_cons_succ, i64_w, i32_w]
            rfl
          refine one_ (i := 14) (N := some 13) #[true, true, true, true, true, true, true, true, true, true, true, true, true, true, true, false, false, false, false] rfl rfl (by kernel_rfl) (by decide) (fun K hSh => ?_)
          refine value_ (v := .pointer (some ⟨w5.heap.size, 0, none⟩)) (w1 := w5.alloc (.cells #[.slice none 0 0, .int .i64 0, .int .i64 0, .int .i64 0] 52)) (by rfl) rfl (by go_simp <;> rfl) ?_
          obtain ⟨W6, hW6⟩ : ∃ y : World, y = w5.alloc (.cells #[.slice none 0 0, .int .i64 0, .int .i64 0, .int .i64 0] 52) := ⟨_, rfl⟩
          rw [← hW6]
          have hb6 : Below w5.heap.size w5 W6 := hW6 ▸ below_alloc (Below.refl _ _) _
          have kb : W6.heap[w5.heap.size]? = some (.cells #[.slice none 0 0, .int .i64 0, .int .i64 0, .int .i64 0] 52 (0, 0)) := hW6 ▸ blk_new _ _
          refine hSh.out _ _ (SOF.out _ (hKw.trans (Kq.of_below hb6)) (below_then hB5 hB5.size hb6)) ?_
          clear hHeld hSh
          intro hHeld
          refine norm_ (a' := ?_) ?_ ?_
          rotate_left
          · simp only [Act.put, List.setIfInBounds_toArray, List.set_cons_zero, List.set_cons_succ, i64_w, i32_w]
            rfl
          obtain ⟨p0, p1, p2, p3⟩ := box_cells kb
          have t0 := blk_frozen kb 0
          have t1 := blk_frozen kb 1
          have t2 := blk_frozen kb 2
          have t3 := blk_frozen kb 3
          have FIN := Lib.hid (cutB (n2 := n2) (e2 := e2) (t2 := u2) HAL.out (pw_below_drewN (Below.refl wr.heap.size wr) 1) (hK5.trans (Kq.of_below hb6)) (below_then hB5 hB5.size hb6) (hR5.move hb6) HK.out HQ.out kb hB5.size (by have := blk_lt (hKw _ _ _ HK.out (by decide)); omega) (by have := blk_lt (hKw _ _ _ HQ.out (by decide)); omega))
          clear hHeld hW6 hb6 kb hR5 hB5 hK5 hKw
          refine last_ (i := 15) (N := none) #[true, true, true, true, true, true, true, true, true, true, true, true, true, true, true, true, false, false, false] rfl rfl (by kernel_rfl) (by decide) (fun K hSh => ?_)
          refine skip_ (w1 := set4 W6 w5.heap.size (.slice (some ⟨g5, 0, none⟩) q2_.l.length c5) (.int .i64 q2_.c) (.int .i64 q2_.lv) (.int .i64 q2_.st)) (by rfl) rfl (by go_simp <;> rfl) ?_
          refine hSh.out _ _ ?_
          refine pure_ (i := 16) (N := some 14) (v := ?_) (a' := ?_) #[true, true, true, true, true, true, true, true, true, true, true, true, true, true, true, true, true, false, false] rfl rfl (by kernel_rfl) (fun _ _ _ h => h) (Or.inl ⟨by rfl, ?_⟩) ?_ ?_
          rotate_left
          · intro w'
            go_simp
            with_reducible rfl
          rotate_left
          · simp only [Act.put, List.setIfInBounds_toArray, List.set_cons_zero, List.set_cons_succ, i64_w, i32_w]
            rfl
          refine pure_ (i := 17) (N := some 15) (v := ?_) (a' := ?_) #[true, true, true, true, true, true, true, true, true, true, true, true, true, true, true, true, true, true, false] rfl rfl (by kernel_rfl) (fun _ _ _ h => h) (Or.inl ⟨by rfl, ?_⟩) ?_ ?_
          rotate_left
          · intro w'
            go_simp
            with_reducible rfl
          rotate_left
          · simp only [Act.put, List.setIfInBounds_toArray, List.set_cons_zero, List.set_cons_succ, i64_w, i32_w]
            rfl
          refine pure_ (i := 18) (N := some 16) (v := ?_) (a' := ?_) #[true, true, true, true, true, true, true, true, true, true, true, true, true, true, true, true, true, true, true] rfl rfl (by kernel_rfl) (fun _ _ _ h => h) (Or.inl ⟨by rfl, ?_⟩) ?_ ?_
          rotate_left
          · intro w'
            go_simp
            with_reducible rfl
          rotate_left
          · simp only [Act.put, List.setIfInBounds_toArray, List.set_cons_zero, List.set_cons_succ, i64_w, i32_w]
            rfl
          refine done_ (by kernel_rfl) ?_
          go_wp2_with fail
          go_meet
          exact FIN.out
        · refine value_ (v := .pointer (some ⟨wr.heap.size, 0, none⟩)) (w1 := (wr.drewN 1).alloc (.cells #[.slice none 0 0, .int .i64 0, .int .i64 0, .int .i64 0] 52)) (by rfl) rfl (by go_simp <;> rfl) ?_
          obtain ⟨W6, hW6⟩ : ∃ y : World, y = (wr.drewN 1).alloc (.cells #[.slice none 0 0, .int .i64 0, .int .i64 0, .int .i64 0] 52) := ⟨_, rfl⟩
          rw [← hW6]
          have hb6 : Below wr.heap.size wr W6 := hW6 ▸ below_alloc (pw_below_drewN (Below.refl _ _) 1) _
          have kb : W6.heap[wr.heap.size]? = some (.cells #[.slice none 0 0, .int .i64 0, .int .i64 0, .int .i64 0] 52 (0, 0)) := hW6 ▸ blk_new (wr.drewN 1) _
          refine hSh.out _ _ (SOF.out _ (Kq.of_below hb6) (below_then HAL.out.B HAL.out.B.size hb6)) ?_
          clear hHeld hSh hW6
          intro hHeld
          refine norm_ (a' := ?_) ?_ ?_
          rotate_left
          · simp only [Act.put, List.setIfInBounds_toArray, List.set_cons_zero, List.set_cons_succ, i64_w, i32_w]
            rfl
          refine one_ (i := 8) (N := some 85) #[true, true, true, true, true, true, true, true, true, false, false, false, false, false, true, false, false, false, false] rfl rfl (by kernel_rfl) (by decide) (fun K hSh => ?_)
          refine goes_ Try.func20 (by kernel_rfl) rfl #[agg4 (.slice (some ⟨gq, 0, none⟩) q.l.length cq) q.c q.lv q.st, .agg (askV ⟨f0, f1, f2, f3, f4, f5⟩), .int .i64 r.t] (by rfl) rfl rfl (by (try simp only [List.map_toArray, List.map_cons, List.map_nil]); rfl) ?_
          refine (HCALL.out _ hb6).mono ?_
          rintro e w5 ⟨g5, c5, rfl, hR5, hB5, hK5⟩
          have hKw : Kq wr w5 := (Kq.of_below hb6).trans hK5
          refine ⟨_, rfl, hSh.out _ _ (SOF.out _ hKw hB5) ?_⟩
          clear hHeld hSh
          intro hHeld
          refine norm_ (a' := ?_) ?_ ?_
          rotate_left
          · simp only [Act.put, List.setIfInBounds_toArray, List.set_cons_zero, List.set_cons_succ, i64_w, i32_w]
            rfl
          refine pure_ (i := 9) (N := some 76) (v := ?_) (a' := ?_) #[true, true, true, true, true, true, true, true, true, true, false, false, false, false, true, false, false, false, false] rfl rfl (by kernel_rfl) (fun _ _ _ h => h) (Or.inl ⟨by rfl, ?_⟩) ?_ ?_
          rotate_left
          · intro w'
            go_simp
            with_reducible rfl
          rotate_left
          · simp only [Act.put, List.setIfInBounds_toArray, List.set_cons_zero, List.set_cons_succ, i64_w, i32_w]
            rfl
          refine pure_ (i := 10) (N := some 86) (v := ?_) (a' := ?_) #[true, true, true, true, true, true, true, true, true, true, true, false, false, false, true, false, false, false, false] rfl rfl (by kernel_rfl) (fun _ _ _ h => h) (Or.inl ⟨by rfl, ?_⟩) ?_ ?_
          rotate_left
          · intro w'
            go_simp
            with_reducible rfl
          rotate_left
          · simp only [Act.put, List.setIfInBounds_toArray, List.set_cons_zero, List.set_cons_succ, i64_w, i32_w]
            rfl
          refine pure_ (i := 11) (N := some 87) (v := ?_) (a' := ?_) #[true, true, true, true, true, true, true, true, true, true, true, true, false, false, true, false, false, false, false] rfl rfl (by kernel_rfl) (fun _ _ _ h => h) (Or.inl ⟨by rfl, ?_⟩) ?_ ?_
          rotate_left
          · intro w'
            go_simp
            with_reducible rfl
          rotate_left
          · simp only [Act.put, List.setIfInBounds_toArray, List.set_cons_zero, List.set_cons_succ, i64_w, i32_w]
            rfl
          refine pure_ (i := 12) (N := some 88) (v := ?_) (a' := ?_) #[true, true, true, true, true, true, true, true, true, true, true, true, true, false, true, false, false, false, false] rfl rfl (by kernel_rfl) (fun _ _ _ h => h) (Or.inl ⟨by rfl, ?_⟩) ?_ ?_
          rotate_left
          · intro w'
            go_simp
            with_reducible rfl
          rotate_left
          · simp only [Act.put, List.setIfInBounds_toArray, List.set_cons_zero, List.set_cons_succ, i64_w, i32_w]
            rfl
          refine pure_ (i := 13) (N := some 89) (v := ?_) (a' := ?_) #[true, true, true, true, true, true, true, true, true, true, true, true, true, true, true, false, false, false, false] rfl rfl (by kernel_rfl) (fun _ _ _ h => h) (Or.inl ⟨by rfl, ?_⟩) ?_ ?_
          rotate_left
          · intro w'
            go_simp
            with_reducible rfl
          rotate_left
          · simp only [Act.put, List.setIfInBounds_toArray, List.set_cons_zero, List.set_cons_succ, i64_w, i32_w]
            rfl
          have kb5 := hK5 _ _ _ kb (by decide)
          obtain ⟨p0, p1, p2, p3⟩ := box_cells kb5
          have t0 := blk_frozen kb5 0
          have t1 := blk_frozen kb5 1
          have t2 := blk_frozen kb5 2
          have t3 := blk_frozen kb5 3
          have FIN := Lib.hid (cutB (n2 := n2) (e2 := e2) (t2 := u2) HAL.out hb6 hK5 hB5 hR5 HK.out HQ.out kb5 HAL.out.B.size (by have := blk_lt HK.out; omega) (by have := blk_lt HQ.out; omega))
          clear hHeld hb6 kb hR5 hB5 hK5 hKw kb5
          refine last_ (i := 15) (N := none) #[true, true, true, true, true, true, true, true, true, true, true, true, true, true, true, true, false, false, false] rfl rfl (by kernel_rfl) (by decide) (fun K hSh => ?_)
          refine skip_ (w1 := set4 w5 wr.heap.size (.slice (some ⟨g5, 0, none⟩) q2_.l.length c5) (.int .i64 q2_.c) (.int .i64 q2_.lv) (.int .i64 q2_.st)) (by rfl) rfl (by go_simp <;> rfl) ?_
          refine hSh.out _ _ ?_
          refine pure_ (i := 16) (N := some 14) (v := ?_) (a' := ?_) #[true, true, true, true, true, true, true, true, true, true, true, true, true, true, true, true, true, false, false] rfl rfl (by kernel_rfl) (fun _ _ _ h => h) (Or.inl ⟨by rfl, ?_⟩) ?_ ?_
          rotate_left
          · intro w'
            go_simp
            with_reducible rfl
          rotate_left
          · simp only [Act.put, List.setIfInBounds_toArray, List.set_cons_zero, List.set_cons_succ, i64_w, i32_w]
            rfl
          refine pure_ (i := 17) (N := some 15) (v := ?_) (a' := ?_) #[true, true, true, true, true, true, true, true, true, true, true, true, true, true, true, true, true, true, false] rfl rfl (by kernel_rfl) (fun _ _ _ h => h) (Or.inl ⟨by rfl, ?_⟩) ?_ ?_
          rotate_left
          · intro w'
            go_simp
            with_reducible rfl
          rotate_left
          · simp only [Act.put, List.setIfInBounds_toArray, List.set_cons_zero, List.set_cons_succ, i64_w, i32_w]
            rfl
          refine pure_ (i := 18) (N := some 16) (v := ?_) (a' := ?_) #[true, true, true, true, true, true, true, true, true, true, true, true, true, true, true, true, true, true, true] rfl rfl (by kernel_rfl) (fun _ _ _ h => h) (Or.inl ⟨by rfl, ?_⟩) ?_ ?_
          rotate_left
          · intro w'
            go_simp
            with_reducible rfl
          rotate_left
          · simp only [Act.put, List.setIfInBounds_toArray, List.set_cons_zero, List.set_cons_succ, i64_w, i32_w]
            rfl
          refine done_ (by kernel_rfl) ?_
          go_wp2_with fail
          go_meet
          exact FIN.out
      case rest =>
        clear SOF KF HCALL
        obtain ⟨b, g7, c7, rfl, rfl, rfl, rfl, kb, hbb, hal, hR7, hK7, hQ7⟩ := hcut
        obtain ⟨q0, q1, q2, q3⟩ := box_cells kb
        obtain ⟨p0, p1, p2, p3⟩ := box_cells hK7
        have t0 := blk_frozen hK7 0
        have t1 := blk_frozen hK7 1
        have t2 := blk_frozen hK7 2
        have t3_ := blk_frozen hK7 3
        have ho := only4 wc wb (.slice (some ⟨g7, 0, none⟩) q2_.l.length c7) (.int .i64 q2_.c) (.int .i64 q2_.lv) (.int .i64 q2_.st)
        obtain ⟨wd, hwd⟩ : ∃ wd : World, wd = set4 wc wb (.slice (some ⟨g7, 0, none⟩) q2_.l.length c7) (.int .i64 q2_.c) (.int .i64 q2_.lv) (.int .i64 q2_.st) := ⟨_, rfl⟩
        have hal8 := hwd ▸ hal.only ho hK7 (by decide) HBW.out.1
        have hR8 := hwd ▸ RV.only hR7 ho hK7 (by decide)
        have hK8 : wd.heap[wb]? = some (.cells #[.slice (some ⟨g7, 0, none⟩) q2_.l.length c7, .int .i64 q2_.c, .int .i64 q2_.lv, .int .i64 q2_.st] 52 (0, 0)) := hwd ▸ blk4 hK7 (.slice (some ⟨g7, 0, none⟩) q2_.l.length c7) (.int .i64 q2_.c) (.int .i64 q2_.lv) (.int .i64 q2_.st)
        have hQ8 : wd.heap[rb]? = some (.cells (R5.v r) 47 (0, 0)) := hwd ▸ (ho.block rb (blk_ne hQ7 hK7 (by decide))).trans hQ7
        have HWD := Lib.hid hwd
        have HAL8 := Lib.hid hal8
        have HR8 := Lib.hid hR8
        have HK8 := Lib.hid hK8
        have HQ8 := Lib.hid hQ8
        clear kb hbb hal hR7 hK7 hQ7 ho hwd hal8 hR8 hK8 hQ8
        go_upto_region 17 with fail
        unfold set4 at HWD
        rw [← HWD.out]
        clear HWD q0 q1 q2 q3 p0 p1 p2 p3 t0 t1 t2 t3_
        obtain ⟨b0, b1, b2, b3, b4⟩ := box5 HQ8.out
        obtain ⟨g1', g2', g3', g4'⟩ := next_facts l r (n2, e2, u2) t3 hlt H40.out
        obtain ⟨r2, hr2⟩ : ∃ y, nextF l r (n2, e2, u2) = y := ⟨_, rfl⟩
        rw [hr2] at g1' g2' g3' g4'
        have HNEXT := Lib.hid (rundleref13_Next.calls r.a r.t r.s r.l r.n (some ad) cap l n2 e2 u2 _ _ _ _ _ wd (Kd.C_below HR.out HAL8.out.B) HC.out g1')
        have HR2 := Lib.hid hr2
        have HG := Lib.hid (And.intro g2' (And.intro g3' g4'))
        clear hr2 g1' g2' g3' g4'
        go_wp2_with fail
        refine HNEXT.out.mono ?_
        rintro e W2 ⟨rfl, hb2⟩
        have hrk3 := blk_below HQ8.out hb2
        have hK3 := blk_below HK8.out hb2
        have hal3 := HAL8.out.below hb2
        have hR3 := HR8.out.move hb2
        obtain ⟨W3, hW3⟩ : ∃ y : World, y = ((((W2.setCell ⟨rb, 0, none⟩ (.int .i64 r2.a)).setCell ⟨rb, 1, none⟩ (.int .i64 r2.t)).setCell ⟨rb, 2, none⟩ (.int .i64 r2.s)).setCell ⟨rb, 3, none⟩ (.int .i64 r2.l)).setCell ⟨rb, 4, none⟩ (.int .i64 r2.n) := ⟨_, rfl⟩
        have hO3 : Only W2 W3 rb := by rw [hW3]; exact only5 W2 rb _ _ _ _ _
        have hrk4 : W3.heap[rb]? = some (.cells r2.v 47 (0, 0)) := by rw [hW3]; exact blk5 hrk3 _ _ _ _ _
        have hal4 := hal3.only hO3 hrk3 (by decide) HBW.out.2
        have hR4 := RV.only hR3 hO3 hrk3 (by decide)
        have hK4 := (hO3.block wb (blk_ne hK3 hrk3 (by decide))).trans hK3
        clear b0 b1 b2 b3 b4 HQ8 HAL8 HR8 HK8
        obtain ⟨b0, b1, b2, b3, b4⟩ := box5 hrk3
        have z0 := blk_frozen hrk3 0
        have z1 := blk_frozen hrk3 1
        have z2 := blk_frozen hrk3 2
        have z3 := blk_frozen hrk3 3
        have z4 := blk_frozen hrk3 4
        obtain ⟨bb, hbb⟩ : ∃ bb, decide ((l.length : Int) ≤ r2.a) = bb := ⟨_, rfl⟩
        have hd1 : Below W3.heap.size W3 (W3.drewN 1) := pw_below_drewN (Below.refl _ _) 1
        have HSTEP := Lib.hid ((hal4.below hd1).step HS.out HR.out HC.out H40.out HF0.out (r2 := r2) (q2 := q2_) (bb := bb) (Or.inl ⟨hlt, by rw [HX.out, HO.out]; exact HR2.out.symm, by rw [HX.out, HO.out]⟩) hbb.symm)
        have HW3 := Lib.hid hW3
        have HQ8 := Lib.hid (blk_below hrk4 hd1)
        have HK8 := Lib.hid (blk_below hK4 hd1)
        have HR4 := Lib.hid hR4
        obtain ⟨d0, d1, d2, d3, d4⟩ := box5 hrk4
        obtain ⟨y0, y1, y2, y3⟩ := box_cells hK4
        clear hrk3 hK3 hal3 hR3 hW3 hO3 hrk4 hal4 hR4 hK4 hd1 hb2 HNEXT
        go_upto_region 18 with fail
        rw [← HW3.out]
        clear HW3 b0 b1 b2 b3 b4 z0 z1 z2 z3 z4
        have x1 : (bb != bb) = false := by simp
        have x2 : (r2.n != r2.n) = false := by simp
        have x3 : (q2_.c != q2_.c) = false := by simp
        have x4 : (q2_.lv != q2_.lv) = false := by simp
        have x5 : wrap64 (r.n + 1) = r2.n := HG.out.2.2.symm
        refine start_ (n := 46) (S := fun w' => w'.cell? ⟨rb, 0, none⟩ = some (.int .i64 r2.a) ∧ w'.cell? ⟨rb, 4, none⟩ = some (.int .i64 r2.n) ∧ w'.cell? ⟨wb, 1, none⟩ = some (.int .i64 q2_.c) ∧ w'.cell? ⟨wb, 2, none⟩ = some (.int .i64 q2_.lv)) (ds := []) #[false, false, false, false, false, false, false, false, false, false, false, false, false, false, false, false, false, false, false, false, false, false, false, false, false, false, false, false, false, false, false, false, false, false, false, false, false, false, false, false, false, false, false, false, false, false] rfl rfl rfl (⟨d0, d4, y1, y2⟩) ?_
        intro hHeld
        refine pure_ (i := 0) (N := some 97) (v := ?_) (a' := ?_) #[true, false, false, false, false, false, false, false, false, false, false, false, false, false, false, false, false, false, false, false, false, false, false, false, false, false, false, false, false, false, false, false, false, false, false, false, false, false, false, false, false, false, false, false, false, false] rfl rfl (by kernel_rfl) (fun _ _ _ h => h) (Or.inl ⟨by rfl, ?_⟩) ?_ ?_
        rotate_left
        · intro w'
          go_simp
          with_reducible rfl
        rotate_left
        · simp only [Act.put, List.setIfInBounds_toArray, List.set_cons_zero, List.set_cons_succ, i64_w, i32_w]
          rfl
        refine pure_ (i := 2) (N := some 99) (v := ?_) (a' := ?_) #[true, false, true, false, false, false, false, false, false, false, false, false, false, false, false, false, false, false, false, false, false, false, false, false, false, false, false, false, false, false, false, false, false, false, false, false, false, false, false, false, false, false, false, false, false, false] rfl rfl (by kernel_rfl) (fun _ _ _ h => h) (Or.inl ⟨by rfl, ?_⟩) ?_ ?_
        rotate_left
        · intro w'
          go_simp
          with_reducible rfl
        rotate_left
        · simp only [Act.put, List.setIfInBounds_toArray, List.set_cons_zero, List.set_cons_succ, i64_w, i32_w]
          rfl
        refine take_ (i := 3) (N := some 100) (v := ?_) (a' := ?_) #[true, false, true, true, false, false, false, false, false, false, false, false, false, false, false, false, false, false, false, false, false, false, false, false, false, false, false, false, false, false, false, false, false, false, false, false, false, false, false, false, false, false, false, false, false, false] rfl rfl (by kernel_rfl) (fun _ _ _ h => h) (Or.inl ⟨by rfl, ?_⟩) hHeld ?_ ?_
        rotate_left
        · rintro w' hHeld'
          have hHeld'' := hHeld'
          (try obtain ⟨r0_, r1_⟩ := hHeld')
          (try obtain ⟨r1_, r2_⟩ := r1_)
          (try obtain ⟨r2_, r3_⟩ := r2_)
          go_simp
          with_reducible rfl
        rotate_left
        · simp only [Act.put, List.setIfInBounds_toArray, List.set_cons_zero, List.set_cons_succ, i64_w, i32_w]
          rfl
        refine pure_ (i := 4) (N := some 101) (v := ?_) (a' := ?_) #[true, false, true, true, true, false, false, false, false, false, false, false, false, false, false, false, false, false, false, false, false, false, false, false, false, false, false, false, false, false, false, false, false, false, false, false, false, false, false, false, false, false, false, false, false, false] rfl rfl (by kernel_rfl) (fun _ _ _ h => h) (Or.inl ⟨by rfl, ?_⟩) ?_ ?_
        rotate_left
        · intro w'
          go_simp
          with_reducible rfl
        rotate_left
        · simp only [Act.put, List.setIfInBounds_toArray, List.set_cons_zero, List.set_cons_succ, i64_w, i32_w]
          rfl
        refine pure_ (i := 5) (N := some 102) (v := ?_) (a' := ?_) #[true, false, true, true, true, true, false, false, false, false, false, false, false, false, false, false, false, false, false, false, false, false, false, false, false, false, false, false, false, false, false, false, false, false, false, false, false, false, false, false, false, false, false, false, false, false] rfl rfl (by kernel_rfl) (fun _ _ _ h => h) (Or.inl ⟨by rfl, ?_⟩) ?_ ?_
        rotate_left
        · intro w'
          go_simp
          with_reducible rfl
        rotate_left
        · simp only [Act.put, List.setIfInBounds_toArray, List.set_cons_zero, List.set_cons_succ, i64_w, i32_w]
          rfl
        refine pure_ (i := 6) (N := some 103) (v := ?_) (a' := ?_) #[true, false, true, true, true, true, true, false, false, false, false, false, false, false, false, false, false, false, false, false, false, false, false, false, false, false, false, false, false, false, false, false, false, false, false, false, false, false, false, false, false, false, false, false, false, false] rfl rfl (by kernel_rfl) (fun _ _ _ h => h) (Or.inl ⟨by rfl, ?_⟩) ?_ ?_
        rotate_left
        · intro w'
          go_simp
          with_reducible rfl
        rotate_left
        · simp only [Act.put, List.setIfInBounds_toArray, List.set_cons_zero, List.set_cons_succ, i64_w, i32_w]
          rfl
        refine one_ (i := 1) (N := some 98) #[true, true, true, true, true, true, true, false, false, false, false, false, false, false, false, false, false, false, false, false, false, false, false, false, false, false, false, false, false, false, false, false, false, false, false, false, false, false, false, false, false, false, false, false, false, false] rfl rfl (by kernel_rfl) (by decide) (fun K hSh => ?_)
        refine goes_ Try.func13 (by kernel_rfl) rfl #[ptr xb] (by rfl) rfl rfl (by (try simp only [List.map_toArray, List.map_cons, List.map_nil]); rfl) ?_
        refine HSTEP.out.mono ?_
        clear HSTEP
        rintro e W9 ⟨rfl, x', v', hal9, hS9, hSh9, hE9, _, hO9⟩
        have hQ9 := hO9 _ _ _ HQ8.out (by decide)
        have HR9 := Lib.hid (RV.oq (HR4.out.move (pw_below_drewN (Below.refl _ _) 1)) hO9)
        have hK9 := hO9 _ _ _ HK8.out (by decide)
        obtain ⟨d0, d1, d2, d3, d4⟩ := box5 hQ9
        obtain ⟨y0, y1, y2, y3⟩ := box_cells hK9
        refine ⟨_, rfl, hSh.out _ _ ⟨d0, d4, y1, y2⟩ ?_⟩
        obtain ⟨t1, t2, t3', t4'⟩ := hal9.T.facts
        have HMG := Lib.hid (show MG W9 xb pb (fvD lb) x'.out r2.n bb from t1 ▸ hE9 ▸ hal9.D.M)
        have HPG := Lib.hid (show PG W9 pb mb v' x'.p.at_ x'.p.left r2.n from t2 ▸ hal9.D.P)
        have HCT := Lib.hid (show Calls Try.prog 22 #[ptr mb] W9 fun e w' => e = .returned (.int .i64 q2_.c) ∧ W9 = w' from hS9.c ▸ count_calls hal9.Am)
        have HLV := Lib.hid (show Calls Try.prog 23 #[ptr mb] W9 fun e w' => e = .returned (.int .i64 q2_.lv) ∧ W9 = w' from hS9.lv ▸ live_calls hal9.Am)
        have HAL9 := Lib.hid hal9
        have HS9 := Lib.hid hS9
        have HSH9 := Lib.hid hSh9
        have HQ9 := Lib.hid hQ9
        have HK9 := Lib.hid hK9
        clear hHeld hSh hal9 hS9 hSh9 hQ9 hK9 hO9 hE9 t1 t2 t3' t4' HQ8 HK8
        intro hHeld
        refine norm_ (a' := ?_) ?_ ?_
        rotate_left
        · simp only [Act.put, List.setIfInBounds_toArray, List.set_cons_zero, List.set_cons_succ, i64_w, i32_w]
          rfl
        refine pure_ (i := 7) (N := some 104) (v := ?_) (a' := ?_) #[true, true, true, true, true, true, true, true, false, false, false, false, false, false, false, false, false, false, false, false, false, false, false, false, false, false, false, false, false, false, false, false, false, false, false, false, false, false, false, false, false, false, false, false, false, false] rfl rfl (by kernel_rfl) (fun _ _ _ h => h) (Or.inl ⟨by rfl, ?_⟩) ?_ ?_
        rotate_left
        · intro w'
          go_simp
          with_reducible rfl
        rotate_left
        · simp only [Act.put, List.setIfInBounds_toArray, List.set_cons_zero, List.set_cons_succ, i64_w, i32_w]
          rfl
        refine pure_ (i := 8) (N := some 105) (v := ?_) (a' := ?_) #[true, true, true, true, true, true, true, true, true, false, false, false, false, false, false, false, false, false, false, false, false, false, false, false, false, false, false, false, false, false, false, false, false, false, false, false, false, false, false, false, false, false, false, false, false, false] rfl rfl (by kernel_rfl) (fun _ _ _ h => h) (Or.inl ⟨by rfl, ?_⟩) ?_ ?_
        rotate_left
        · intro w'
          go_simp
          with_reducible rfl
        rotate_left
        · simp only [Act.put, List.setIfInBounds_toArray, List.set_cons_zero, List.set_cons_succ, i64_w, i32_w]
          rfl
        refine pure_ (i := 9) (N := some 106) (v := ?_) (a' := ?_) #[true, true, true, true, true, true, true, true, true, true, false, false, false, false, false, false, false, false, false, false, false, false, false, false, false, false, false, false, false, false, false, false, false, false, false, false, false, false, false, false, false, false, false, false, false, false] rfl rfl (by kernel_rfl) (fun _ _ _ h => h) (Or.inl ⟨by rfl, ?_⟩) ?_ ?_
        rotate_left
        · intro w'
          go_simp
          with_reducible rfl
        rotate_left
        · simp only [Act.put, List.setIfInBounds_toArray, List.set_cons_zero, List.set_cons_succ, i64_w, i32_w]
          rfl
        refine pure_ (i := 11) (N := some 108) (v := ?_) (a' := ?_) #[true, true, true, true, true, true, true, true, true, true, false, true, false, false, false, false, false, false, false, false, false, false, false, false, false, false, false, false, false, false, false, false, false, false, false, false, false, false, false, false, false, false, false, false, false, false] rfl rfl (by kernel_rfl) (fun _ _ _ h => h) (Or.inl ⟨by rfl, ?_⟩) ?_ ?_
        rotate_left
        · intro w'
          go_simp
          with_reducible rfl
        rotate_left
        · simp only [Act.put, List.setIfInBounds_toArray, List.set_cons_zero, List.set_cons_succ, i64_w, i32_w]
          rfl
        refine pure_ (i := 12) (N := some 109) (v := ?_) (a' := ?_) #[true, true, true, true, true, true, true, true, true, true, false, true, true, false, false, false, false, false, false, false, false, false, false, false, false, false, false, false, false, false, false, false, false, false, false, false, false, false, false, false, false, false, false, false, false, false] rfl rfl (by kernel_rfl) (fun _ _ _ h => h) (Or.inl ⟨by rfl, ?_⟩) ?_ ?_
        rotate_left
        · intro w'
          go_simp
          with_reducible rfl
        rotate_left
        · simp only [Act.put, List.setIfInBounds_toArray, List.set_cons_zero, List.set_cons_succ, i64_w, i32_w]
          rfl
        refine one_ (i := 10) (N := some 107) #[true, true, true, true, true, true, true, true, true, true, true, true, true, false, false, false, false, false, false, false, false, false, false, false, false, false, false, false, false, false, false, false, false, false, false, false, false, false, false, false, false, false, false, false, false, false] rfl rfl (by kernel_rfl) (by decide) (fun K hSh => ?_)
        refine goes_ Try.func25 (by kernel_rfl) rfl #[ptr xb] (by rfl) rfl rfl (by (try simp only [List.map_toArray, List.map_cons, List.map_nil]); rfl) ?_
        refine (msteps_calls HMG.out).mono ?_
        rintro e W10 ⟨rfl, rfl⟩
        refine ⟨_, rfl, hSh.out _ _ hHeld ?_⟩
        clear hHeld hSh
        intro hHeld
        refine norm_ (a' := ?_) ?_ ?_
        rotate_left
        · simp only [Act.put, List.setIfInBounds_toArray, List.set_cons_zero, List.set_cons_succ, i64_w, i32_w]
          rfl
        refine pure_ (i := 13) (N := some 110) (v := ?_) (a' := ?_) #[true, true, true, true, true, true, true, true, true, true, true, true, true, true, false, false, false, false, false, false, false, false, false, false, false, false, false, false, false, false, false, false, false, false, false, false, false, false, false, false, false, false, false, false, false, false] rfl rfl (by kernel_rfl) (fun _ _ _ h => h) (Or.inl ⟨by rfl, ?_⟩) ?_ ?_
        rotate_left
        · intro w'
          go_simp
          with_reducible rfl
        rotate_left
        · simp only [Act.put, List.setIfInBounds_toArray, List.set_cons_zero, List.set_cons_succ, i64_w, i32_w]
          rfl
        refine pure_ (i := 14) (N := some 111) (v := ?_) (a' := ?_) #[true, true, true, true, true, true, true, true, true, true, true, true, true, true, true, false, false, false, false, false, false, false, false, false, false, false, false, false, false, false, false, false, false, false, false, false, false, false, false, false, false, false, false, false, false, false] rfl rfl (by kernel_rfl) (fun _ _ _ h => h) (Or.inl ⟨by rfl, ?_⟩) ?_ ?_
        rotate_left
        · intro w'
          go_simp
          with_reducible rfl
        rotate_left
        · simp only [Act.put, List.setIfInBounds_toArray, List.set_cons_zero, List.set_cons_succ, i64_w, i32_w]
          rfl
        refine pure_ (i := 15) (N := some 112) (v := ?_) (a' := ?_) #[true, true, true, true, true, true, true, true, true, true, true, true, true, true, true, true, false, false, false, false, false, false, false, false, false, false, false, false, false, false, false, false, false, false, false, false, false, false, false, false, false, false, false, false, false, false] rfl rfl (by kernel_rfl) (fun _ _ _ h => h) (Or.inl ⟨by rfl, ?_⟩) ?_ ?_
        rotate_left
        · intro w'
          go_simp
          with_reducible rfl
        rotate_left
        · simp only [Act.put, List.setIfInBounds_toArray, List.set_cons_zero, List.set_cons_succ, i64_w, i32_w]
          rfl
        refine pure_ (i := 16) (N := some 113) (v := ?_) (a' := ?_) #[true, true, true, true, true, true, true, true, true, true, true, true, true, true, true, true, true, false, false, false, false, false, false, false, false, false, false, false, false, false, false, false, false, false, false, false, false, false, false, false, false, false, false, false, false, false] rfl rfl (by kernel_rfl) (fun _ _ _ h => h) (Or.inl ⟨by rfl, ?_⟩) ?_ ?_
        rotate_left
        · intro w'
          go_simp
          with_reducible rfl
        rotate_left
        · simp only [Act.put, List.setIfInBounds_toArray, List.set_cons_zero, List.set_cons_succ, i64_w, i32_w]
          rfl
        refine pure_ (i := 18) (N := some 115) (v := ?_) (a' := ?_) #[true, true, true, true, true, true, true, true, true, true, true, true, true, true, true, true, true, false, true, false, false, false, false, false, false, false, false, false, false, false, false, false, false, false, false, false, false, false, false, false, false, false, false, false, false, false] rfl rfl (by kernel_rfl) (fun _ _ _ h => h) (Or.inl ⟨by rfl, ?_⟩) ?_ ?_
        rotate_left
        · intro w'
          go_simp
          with_reducible rfl
        rotate_left
        · simp only [Act.put, List.setIfInBounds_toArray, List.set_cons_zero, List.set_cons_succ, i64_w, i32_w]
          rfl
        refine take_ (i := 19) (N := some 116) (v := ?_) (a' := ?_) #[true, true, true, true, true, true, true, true, true, true, true, true, true, true, true, true, true, false, true, true, false, false, false, false, false, false, false, false, false, false, false, false, false, false, false, false, false, false, false, false, false, false, false, false, false, false] rfl rfl (by kernel_rfl) (fun _ _ _ h => h) (Or.inl ⟨by rfl, ?_⟩) hHeld ?_ ?_
        rotate_left
        · rintro w' hHeld'
          have hHeld'' := hHeld'
          (try obtain ⟨r0_, r1_⟩ := hHeld')
          (try obtain ⟨r1_, r2_⟩ := r1_)
          (try obtain ⟨r2_, r3_⟩ := r2_)
          go_simp
          with_reducible rfl
        rotate_left
        · simp only [Act.put, List.setIfInBounds_toArray, List.set_cons_zero, List.set_cons_succ, i64_w, i32_w]
          rfl
        refine one_ (i := 17) (N := some 114) #[true, true, true, true, true, true, true, true, true, true, true, true, true, true, true, true, true, true, true, true, false, false, false, false, false, false, false, false, false, false, false, false, false, false, false, false, false, false, false, false, false, false, false, false, false, false] rfl rfl (by kernel_rfl) (by decide) (fun K hSh => ?_)
        refine goes_ Try.func22 (by kernel_rfl) rfl #[ptr mb] (by rfl) rfl rfl (by (try simp only [List.map_toArray, List.map_cons, List.map_nil]); rfl) ?_
        refine (HCT.out).mono ?_
        rintro e W10 ⟨rfl, rfl⟩
        refine ⟨_, rfl, hSh.out _ _ hHeld ?_⟩
        clear hHeld hSh
        intro hHeld
        refine norm_ (a' := ?_) ?_ ?_
        rotate_left
        · simp only [Act.put, List.setIfInBounds_toArray, List.set_cons_zero, List.set_cons_succ, i64_w, i32_w]
          rfl
        refine pure_ (i := 20) (N := some 117) (v := ?_) (a' := ?_) #[true, true, true, true, true, true, true, true, true, true, true, true, true, true, true, true, true, true, true, true, true, false, false, false, false, false, false, false, false, false, false, false, false, false, false, false, false, false, false, false, false, false, false, false, false, false] rfl rfl (by kernel_rfl) (fun _ _ _ h => h) (Or.inl ⟨by rfl, ?_⟩) ?_ ?_
        rotate_left
        · intro w'
          go_simp
          with_reducible rfl
        rotate_left
        · simp only [Act.put, List.setIfInBounds_toArray, List.set_cons_zero, List.set_cons_succ, i64_w, i32_w]
          rfl
        refine pure_ (i := 21) (N := some 118) (v := ?_) (a' := ?_) #[true, true, true, true, true, true, true, true, true, true, true, true, true, true, true, true, true, true, true, true, true, true, false, false, false, false, false, false, false, false, false, false, false, false, false, false, false, false, false, false, false, false, false, false, false, false] rfl rfl (by kernel_rfl) (fun _ _ _ h => h) (Or.inl ⟨by rfl, ?_⟩) ?_ ?_
        rotate_left
        · intro w'
          go_simp
          with_reducible rfl
        rotate_left
        · simp only [Act.put, List.setIfInBounds_toArray, List.set_cons_zero, List.set_cons_succ, i64_w, i32_w]
          rfl
        refine pure_ (i := 22) (N := some 119) (v := ?_) (a' := ?_) #[true, true, true, true, true, true, true, true, true, true, true, true, true, true, true, true, true, true, true, true, true, true, true, false, false, false, false, false, false, false, false, false, false, false, false, false, false, false, false, false, false, false, false, false, false, false] rfl rfl (by kernel_rfl) (fun _ _ _ h => h) (Or.inl ⟨by rfl, ?_⟩) ?_ ?_
        rotate_left
        · intro w'
          go_simp
          with_reducible rfl
        rotate_left
        · simp only [Act.put, List.setIfInBounds_toArray, List.set_cons_zero, List.set_cons_succ, i64_w, i32_w]
          rfl
        refine pure_ (i := 23) (N := some 120) (v := ?_) (a' := ?_) #[true, true, true, true, true, true, true, true, true, true, true, true, true, true, true, true, true, true, true, true, true, true, true, true, false, false, false, false, false, false, false, false, false, false, false, false, false, false, false, false, false, false, false, false, false, false] rfl rfl (by kernel_rfl) (fun _ _ _ h => h) (Or.inl ⟨by rfl, ?_⟩) ?_ ?_
        rotate_left
        · intro w'
          go_simp
          with_reducible rfl
        rotate_left
        · simp only [Act.put, List.setIfInBounds_toArray, List.set_cons_zero, List.set_cons_succ, i64_w, i32_w]
          rfl
        refine pure_ (i := 25) (N := some 122) (v := ?_) (a' := ?_) #[true, true, true, true, true, true, true, true, true, true, true, true, true, true, true, true, true, true, true, true, true, true, true, true, false, true, false, false, false, false, false, false, false, false, false, false, false, false, false, false, false, false, false, false, false, false] rfl rfl (by kernel_rfl) (fun _ _ _ h => h) (Or.inl ⟨by rfl, ?_⟩) ?_ ?_
        rotate_left
        · intro w'
          go_simp
          with_reducible rfl
        rotate_left
        · simp only [Act.put, List.setIfInBounds_toArray, List.set_cons_zero, List.set_cons_succ, i64_w, i32_w]
          rfl
        refine take_ (i := 26) (N := some 123) (v := ?_) (a' := ?_) #[true, true, true, true, true, true, true, true, true, true, true, true, true, true, true, true, true, true, true, true, true, true, true, true, false, true, true, false, false, false, false, false, false, false, false, false, false, false, false, false, false, false, false, false, false, false] rfl rfl (by kernel_rfl) (fun _ _ _ h => h) (Or.inl ⟨by rfl, ?_⟩) hHeld ?_ ?_
        rotate_left
        · rintro w' hHeld'
          have hHeld'' := hHeld'
          (try obtain ⟨r0_, r1_⟩ := hHeld')
          (try obtain ⟨r1_, r2_⟩ := r1_)
          (try obtain ⟨r2_, r3_⟩ := r2_)
          go_simp
          with_reducible rfl
        rotate_left
        · simp only [Act.put, List.setIfInBounds_toArray, List.set_cons_zero, List.set_cons_succ, i64_w, i32_w]
          rfl
        refine one_ (i := 24) (N := some 121) #[true, true, true, true, true, true, true, true, true, true, true, true, true, true, true, true, true, true, true, true, true, true, true, true, true, true, true, false, false, false, false, false, false, false, false, false, false, false, false, false, false, false, false, false, false, false] rfl rfl (by kernel_rfl) (by decide) (fun K hSh => ?_)
        refine goes_ Try.func23 (by kernel_rfl) rfl #[ptr mb] (by rfl) rfl rfl (by (try simp only [List.map_toArray, List.map_cons, List.map_nil]); rfl) ?_
        refine (HLV.out).mono ?_
        rintro e W10 ⟨rfl, rfl⟩
        refine ⟨_, rfl, hSh.out _ _ hHeld ?_⟩
        clear hHeld hSh
        intro hHeld
        refine norm_ (a' := ?_) ?_ ?_
        rotate_left
        · simp only [Act.put, List.setIfInBounds_toArray, List.set_cons_zero, List.set_cons_succ, i64_w, i32_w]
          rfl
        refine pure_ (i := 27) (N := some 124) (v := ?_) (a' := ?_) #[true, true, true, true, true, true, true, true, true, true, true, true, true, true, true, true, true, true, true, true, true, true, true, true, true, true, true, true, false, false, false, false, false, false, false, false, false, false, false, false, false, false, false, false, false, false] rfl rfl (by kernel_rfl) (fun _ _ _ h => h) (Or.inl ⟨by rfl, ?_⟩) ?_ ?_
        rotate_left
        · intro w'
          go_simp
          with_reducible rfl
        rotate_left
        · simp only [Act.put, List.setIfInBounds_toArray, List.set_cons_zero, List.set_cons_succ, i64_w, i32_w]
          rfl
        refine pure_ (i := 28) (N := some 125) (v := ?_) (a' := ?_) #[true, true, true, true, true, true, true, true, true, true, true, true, true, true, true, true, true, true, true, true, true, true, true, true, true, true, true, true, true, false, false, false, false, false, false, false, false, false, false, false, false, false, false, false, false, false] rfl rfl (by kernel_rfl) (fun _ _ _ h => h) (Or.inl ⟨by rfl, ?_⟩) ?_ ?_
        rotate_left
        · intro w'
          go_simp
          with_reducible rfl
        rotate_left
        · simp only [Act.put, List.setIfInBounds_toArray, List.set_cons_zero, List.set_cons_succ, i64_w, i32_w]
          rfl
        refine pure_ (i := 29) (N := some 126) (v := ?_) (a' := ?_) #[true, true, true, true, true, true, true, true, true, true, true, true, true, true, true, true, true, true, true, true, true, true, true, true, true, true, true, true, true, true, false, false, false, false, false, false, false, false, false, false, false, false, false, false, false, false] rfl rfl (by kernel_rfl) (fun _ _ _ h => h) (Or.inl ⟨by rfl, ?_⟩) ?_ ?_
        rotate_left
        · intro w'
          go_simp
          with_reducible rfl
        rotate_left
        · simp only [Act.put, List.setIfInBounds_toArray, List.set_cons_zero, List.set_cons_succ, i64_w, i32_w]
          rfl
        refine pure_ (i := 30) (N := some 127) (v := ?_) (a' := ?_) #[true, true, true, true, true, true, true, true, true, true, true, true, true, true, true, true, true, true, true, true, true, true, true, true, true, true, true, true, true, true, true, false, false, false, false, false, false, false, false, false, false, false, false, false, false, false] rfl rfl (by kernel_rfl) (fun _ _ _ h => h) (Or.inl ⟨by rfl, ?_⟩) ?_ ?_
        rotate_left
        · intro w'
          go_simp
          with_reducible rfl
        rotate_left
        · simp only [Act.put, List.setIfInBounds_toArray, List.set_cons_zero, List.set_cons_succ, i64_w, i32_w]
          rfl
        refine pure_ (i := 32) (N := some 129) (v := ?_) (a' := ?_) #[true, true, true, true, true, true, true, true, true, true, true, true, true, true, true, true, true, true, true, true, true, true, true, true, true, true, true, true, true, true, true, false, true, false, false, false, false, false, false, false, false, false, false, false, false, false] rfl rfl (by kernel_rfl) (fun _ _ _ h => h) (Or.inl ⟨by rfl, ?_⟩) ?_ ?_
        rotate_left
        · intro w'
          go_simp
          with_reducible rfl
        rotate_left
        · simp only [Act.put, List.setIfInBounds_toArray, List.set_cons_zero, List.set_cons_succ, i64_w, i32_w]
          rfl
        refine take_ (i := 33) (N := some 130) (v := ?_) (a' := ?_) #[true, true, true, true, true, true, true, true, true, true, true, true, true, true, true, true, true, true, true, true, true, true, true, true, true, true, true, true, true, true, true, false, true, true, false, false, false, false, false, false, false, false, false, false, false, false] rfl rfl (by kernel_rfl) (fun _ _ _ h => h) (Or.inl ⟨by rfl, ?_⟩) hHeld ?_ ?_
        rotate_left
        · rintro w' hHeld'
          have hHeld'' := hHeld'
          (try obtain ⟨r0_, r1_⟩ := hHeld')
          (try obtain ⟨r1_, r2_⟩ := r1_)
          (try obtain ⟨r2_, r3_⟩ := r2_)
          go_simp
          with_reducible rfl
        rotate_left
        · simp only [Act.put, List.setIfInBounds_toArray, List.set_cons_zero, List.set_cons_succ, i64_w, i32_w]
          rfl
        refine one_ (i := 31) (N := some 128) #[true, true, true, true, true, true, true, true, true, true, true, true, true, true, true, true, true, true, true, true, true, true, true, true, true, true, true, true, true, true, true, true, true, true, false, false, false, false, false, false, false, false, false, false, false, false] rfl rfl (by kernel_rfl) (by decide) (fun K hSh => ?_)
        refine goes_ Try.func27 (by kernel_rfl) rfl #[ptr xb] (by rfl) rfl rfl (by (try simp only [List.map_toArray, List.map_cons, List.map_nil]); rfl) ?_
        refine (mnoted_calls HMG.out HPG.out).mono ?_
        rintro e W10 ⟨rfl, rfl⟩
        refine ⟨_, rfl, hSh.out _ _ hHeld ?_⟩
        clear hHeld hSh
        intro hHeld
        refine norm_ (a' := ?_) ?_ ?_
        rotate_left
        · simp only [Act.put, List.setIfInBounds_toArray, List.set_cons_zero, List.set_cons_succ, i64_w, i32_w]
          rfl
        refine pure_ (i := 34) (N := some 131) (v := ?_) (a' := ?_) #[true, true, true, true, true, true, true, true, true, true, true, true, true, true, true, true, true, true, true, true, true, true, true, true, true, true, true, true, true, true, true, true, true, true, true, false, false, false, false, false, false, false, false, false, false, false] rfl rfl (by kernel_rfl) (fun _ _ _ h => h) (Or.inl ⟨by rfl, ?_⟩) ?_ ?_
        rotate_left
        · intro w'
          go_simp
          with_reducible rfl
        rotate_left
        · simp only [Act.put, List.setIfInBounds_toArray, List.set_cons_zero, List.set_cons_succ, i64_w, i32_w]
          rfl
        refine pure_ (i := 35) (N := some 132) (v := ?_) (a' := ?_) #[true, true, true, true, true, true, true, true, true, true, true, true, true, true, true, true, true, true, true, true, true, true, true, true, true, true, true, true, true, true, true, true, true, true, true, true, false, false, false, false, false, false, false, false, false, false] rfl rfl (by kernel_rfl) (fun _ _ _ h => h) (Or.inl ⟨by rfl, ?_⟩) ?_ ?_
        rotate_left
        · intro w'
          go_simp
          with_reducible rfl
        rotate_left
        · simp only [Act.put, List.setIfInBounds_toArray, List.set_cons_zero, List.set_cons_succ, i64_w, i32_w]
          rfl
        refine pure_ (i := 36) (N := some 133) (v := ?_) (a' := ?_) #[true, true, true, true, true, true, true, true, true, true, true, true, true, true, true, true, true, true, true, true, true, true, true, true, true, true, true, true, true, true, true, true, true, true, true, true, true, false, false, false, false, false, false, false, false, false] rfl rfl (by kernel_rfl) (fun _ _ _ h => h) (Or.inl ⟨by rfl, ?_⟩) ?_ ?_
        rotate_left
        · intro w'
          go_simp
          with_reducible rfl
        rotate_left
        · simp only [Act.put, List.setIfInBounds_toArray, List.set_cons_zero, List.set_cons_succ, i64_w, i32_w]
          rfl
        refine pure_ (i := 37) (N := some 134) (v := ?_) (a' := ?_) #[true, true, true, true, true, true, true, true, true, true, true, true, true, true, true, true, true, true, true, true, true, true, true, true, true, true, true, true, true, true, true, true, true, true, true, true, true, true, false, false, false, false, false, false, false, false] rfl rfl (by kernel_rfl) (fun _ _ _ h => h) (Or.inl ⟨by rfl, ?_⟩) ?_ ?_
        rotate_left
        · intro w'
          go_simp
          with_reducible rfl
        rotate_left
        · simp only [Act.put, List.setIfInBounds_toArray, List.set_cons_zero, List.set_cons_succ, i64_w, i32_w]
          rfl
        refine pure_ (i := 39) (N := some 136) (v := ?_) (a' := ?_) #[true, true, true, true, true, true, true, true, true, true, true, true, true, true, true, true, true, true, true, true, true, true, true, true, true, true, true, true, true, true, true, true, true, true, true, true, true, true, false, true, false, false, false, false, false, false] rfl rfl (by kernel_rfl) (fun _ _ _ h => h) (Or.inl ⟨by rfl, ?_⟩) ?_ ?_
        rotate_left
        · intro w'
          go_simp
          with_reducible rfl
        rotate_left
        · simp only [Act.put, List.setIfInBounds_toArray, List.set_cons_zero, List.set_cons_succ, i64_w, i32_w]
          rfl
        refine take_ (i := 40) (N := some 137) (v := ?_) (a' := ?_) #[true, true, true, true, true, true, true, true, true, true, true, true, true, true, true, true, true, true, true, true, true, true, true, true, true, true, true, true, true, true, true, true, true, true, true, true, true, true, false, true, true, false, false, false, false, false] rfl rfl (by kernel_rfl) (fun _ _ _ h => h) (Or.inl ⟨by rfl, ?_⟩) hHeld ?_ ?_
        rotate_left
        · rintro w' hHeld'
          have hHeld'' := hHeld'
          (try obtain ⟨r0_, r1_⟩ := hHeld')
          (try obtain ⟨r1_, r2_⟩ := r1_)
          (try obtain ⟨r2_, r3_⟩ := r2_)
          go_simp
          with_reducible rfl
        rotate_left
        · simp only [Act.put, List.setIfInBounds_toArray, List.set_cons_zero, List.set_cons_succ, i64_w, i32_w]
          rfl
        refine pure_ (i := 41) (N := some 138) (v := ?_) (a' := ?_) #[true, true, true, true, true, true, true, true, true, true, true, true, true, true, true, true, true, true, true, true, true, true, true, true, true, true, true, true, true, true, true, true, true, true, true, true, true, true, false, true, true, true, false, false, false, false] rfl rfl (by kernel_rfl) (fun _ _ _ h => h) (Or.inl ⟨by rfl, ?_⟩) ?_ ?_
        rotate_left
        · intro w'
          go_simp
          with_reducible rfl
        rotate_left
        · simp only [Act.put, List.setIfInBounds_toArray, List.set_cons_zero, List.set_cons_succ, i64_w, i32_w]
          rfl
        refine pure_ (i := 42) (N := some 139) (v := ?_) (a' := ?_) #[true, true, true, true, true, true, true, true, true, true, true, true, true, true, true, true, true, true, true, true, true, true, true, true, true, true, true, true, true, true, true, true, true, true, true, true, true, true, false, true, true, true, true, false, false, false] rfl rfl (by kernel_rfl) (fun _ _ _ h => h) (Or.inl ⟨by rfl, ?_⟩) ?_ ?_
        rotate_left
        · intro w'
          go_simp
          with_reducible rfl
        rotate_left
        · simp only [Act.put, List.setIfInBounds_toArray, List.set_cons_zero, List.set_cons_succ, i64_w, i32_w]
          rfl
        refine pure_ (i := 43) (N := some 140) (v := ?_) (a' := ?_) #[true, true, true, true, true, true, true, true, true, true, true, true, true, true, true, true, true, true, true, true, true, true, true, true, true, true, true, true, true, true, true, true, true, true, true, true, true, true, false, true, true, true, true, true, false, false] rfl rfl (by kernel_rfl) (fun _ _ _ h => h) (Or.inl ⟨by rfl, ?_⟩) ?_ ?_
        rotate_left
        · intro w'
          go_simp
          with_reducible rfl
        rotate_left
        · simp only [Act.put, List.setIfInBounds_toArray, List.set_cons_zero, List.set_cons_succ, i64_w, i32_w]
          rfl
        refine one_ (i := 38) (N := some 135) #[true, true, true, true, true, true, true, true, true, true, true, true, true, true, true, true, true, true, true, true, true, true, true, true, true, true, true, true, true, true, true, true, true, true, true, true, true, true, true, true, true, true, true, true, false, false] rfl rfl (by kernel_rfl) (by decide) (fun K hSh => ?_)
        refine goes_ Try.func14 (by kernel_rfl) rfl #[ptr xb] (by rfl) rfl rfl (by (try simp only [List.map_toArray, List.map_cons, List.map_nil]); rfl) ?_
        refine (mended_calls HMG.out).mono ?_
        rintro e W10 ⟨rfl, rfl⟩
        refine ⟨_, rfl, hSh.out _ _ hHeld ?_⟩
        clear hHeld hSh
        intro hHeld
        refine norm_ (a' := ?_) ?_ ?_
        rotate_left
        · simp only [Act.put, List.setIfInBounds_toArray, List.set_cons_zero, List.set_cons_succ, i64_w, i32_w]
          rfl
        refine pure_ (i := 44) (N := some 141) (v := ?_) (a' := ?_) #[true, true, true, true, true, true, true, true, true, true, true, true, true, true, true, true, true, true, true, true, true, true, true, true, true, true, true, true, true, true, true, true, true, true, true, true, true, true, true, true, true, true, true, true, true, false] rfl rfl (by kernel_rfl) (fun _ _ _ h => h) (Or.inl ⟨by rfl, ?_⟩) ?_ ?_
        rotate_left
        · intro w'
          go_simp
          with_reducible rfl
        rotate_left
        · simp only [Act.put, List.setIfInBounds_toArray, List.set_cons_zero, List.set_cons_succ, i64_w, i32_w]
          rfl
        refine pure_ (i := 45) (N := some 142) (v := ?_) (a' := ?_) #[true, true, true, true, true, true, true, true, true, true, true, true, true, true, true, true, true, true, true, true, true, true, true, true, true, true, true, true, true, true, true, true, true, true, true, true, true, true, true, true, true, true, true, true, true, true] rfl rfl (by kernel_rfl) (fun _ _ _ h => h) (Or.inl ⟨by rfl, ?_⟩) ?_ ?_
        rotate_left
        · intro w'
          go_simp
          with_reducible rfl
        rotate_left
        · simp only [Act.put, List.setIfInBounds_toArray, List.set_cons_zero, List.set_cons_succ, i64_w, i32_w]
          rfl
        refine done_ (by kernel_rfl) ?_
        clear hHeld d0 d1 d2 d3 d4 y0 y1 y2 y3 x1 x2 x3 x4 HR4 HCT HLV HMG HPG
        have HD := Lib.hid (dmu_eq (n := l.length) HQ9.out)
        go_wp2_with fail
        go_roundw
        case rel => exact ⟨x', v', r2, q2_, _, by rw [x5], HAL9.out, HS9.out, HR9.out, HK9.out, HQ9.out, fun _ hh => HSH9.out (by rw [← hbb]; exact decide_eq_true (by omega))⟩
        case measure => rw [HD.out, HM.out]; have := HG.out; omega
    · have gt : decide (r.a < (l.length : Int)) = false := decide_eq_false hlt
      clear b1 b2 b3 b4 q0 q1 q2 q3 hK hQ
      by_cases hl0 : l.length = 0
      · have gl : ((l.length : Int) == 0) = true := by rw [hl0]; rfl
        have HSTEP := Lib.hid (hal.step hS HR.out HC.out H40.out HF0.out (r2 := r) (q2 := q) (bb := true) (Or.inr ⟨hlt, rfl, rfl⟩) (decide_eq_true (by omega)).symm)
        have HLT := Lib.hid hlt
        clear hal hS hRV hSt HAL HS HM hl0 hlt
        go_wp2_with fail
        refine HSTEP.out.mono ?_
        clear HSTEP
        rintro e W9 ⟨rfl, x', v', hal9, hS9, hSh9, hE9, _, hO9⟩
        have hQ9 := hO9 _ _ _ HQ.out (by decide)
        have hsh9 := hSh9 trivial
        clear hO9 hSh9 hE9 hS9 HQ HK HRV t1 t2 b0
        obtain ⟨b0, b1, b2, b3, b4⟩ := box5 hQ9
        have HAL9 := Lib.hid hal9
        have HSH9 := Lib.hid hsh9
        have HQ9 := Lib.hid hQ9
        clear hal9 hsh9 hQ9
        go_upto_region 22 with fail
        go_wp2_with fail
        have HMG := Lib.hid (show MG W9 xb pb (fvD lb) (.iface 47 (.agg r.v)) x'.steps true from HSH9.out.o ▸ HSH9.out.e ▸ HAL9.out.D.M)
        refine (told_calls HMG.out).mono ?_
        rintro e W10 ⟨rfl, hb10⟩
        obtain ⟨W11, hW11⟩ : ∃ y : World, y = W10.alloc (.cells r.v 47) := ⟨_, rfl⟩
        have hb11 : Below W10.heap.size W10 W11 := hW11 ▸ below_alloc (Below.refl _ _) _
        have hk11 : W11.heap[W10.heap.size]? = some (.cells r.v 47 (0, 0)) := hW11 ▸ blk_new _ _
        obtain ⟨qb, hqb⟩ : ∃ y, W10.heap.size = y := ⟨_, rfl⟩
        rw [hqb] at hk11
        have hal11 := (HAL9.out.below hb10).below hb11
        have hq11 := blk_below (blk_below HQ9.out hb10) hb11
        have hm11 := (HMG.out.below hb10).below hb11
        have HK11 := Lib.hid hk11
        have HAL11 := Lib.hid hal11
        have HQ11 := Lib.hid hq11
        have HM11 := Lib.hid hm11
        have HW11 := Lib.hid hW11
        have HQB := Lib.hid hqb
        clear hb10 hb11 hW11 hk11 hqb hal11 hq11 hm11 HAL9 HQ9 HMG b0 b1 b2 b3 b4
        simp only [R5.v] at HW11
        simp only [R5.v]
        go_upto_region 23 with fail
        rw [← HW11.out, HQB.out]
        clear HW11 HQB
        go_wp2_with fail
        refine (mkdoes_calls (.slice A l.length cap) ⟨_, _, _, rfl⟩ W11).mono ?_
        rintro e W12 ⟨rfl, hlb, hb12⟩
        obtain ⟨lc, hlc⟩ : ∃ y, W11.heap.size = y := ⟨_, rfl⟩
        rw [hlc] at hlb
        rw [hlc]
        have hal12 := HAL11.out.below hb12
        have hq12 := blk_below HQ11.out hb12
        have hm12 := HM11.out.below hb12
        have hk12 := blk_below HK11.out hb12
        have HDO := Lib.hid (do_does hal12.Ao hlb hal12.B hal12.bs.2.2.1 hal12.bs.2.2.2.1 HR.out HC.out H40.out HF0.out (hal12.fin (Int.not_lt.2 HLT.out)))
        have HAL12 := Lib.hid hal12
        have HQ12 := Lib.hid hq12
        have HM12 := Lib.hid hm12
        have HK12 := Lib.hid hk12
        clear hlb hb12 hlc hal12 hq12 hm12 hk12 HAL11 HQ11 HM11 HK11
        unfold fvD at HDO
        go_wp2_with fail
        refine HDO.out.mono ?_
        rintro e W13 ⟨rfl, hA13, hF13⟩
        clear HDO
        have hq13 := (hF13.block _ (blk_lt HQ12.out) (blk_ne HQ12.out HAL12.out.Ao.hm (by decide)) (blk_ne HQ12.out HAL12.out.Ao.hc (by decide))).trans HQ12.out
        have hm13 : MG W13 xb pb (fvD lb) (.iface 47 (.agg r.v)) x'.steps true := (hF13.block _ HM12.out.lt (blk_ne HM12.out HAL12.out.Ao.hm (by decide)) (blk_ne HM12.out HAL12.out.Ao.hc (by decide))).trans HM12.out
        have hk13 := (hF13.block _ (blk_lt HK12.out) (blk_ne HK12.out HAL12.out.Ao.hm (by decide)) (blk_ne HK12.out HAL12.out.Ao.hc (by decide))).trans HK12.out
        have hA13' : At W13 mb cb x'.p.m := HAL12.out.Am.of_blocks (hF13.block _ (mb_lt HAL12.out.Am) (Ne.symm HAL12.out.ne.1) (blk_ne HAL12.out.Am.hm HAL12.out.Ao.hc (by decide))) (hF13.block _ (cb_lt HAL12.out.Am) (blk_ne HAL12.out.Am.hc HAL12.out.Ao.hm (by decide)) (Ne.symm HAL12.out.ne.2))
        have hB13 : Below w.heap.size w W13 := hF13.over_ HAL12.out.B HAL12.out.B.size HAL12.out.bs.2.2.1 HAL12.out.bs.2.2.2.1
        obtain ⟨W14, hW14⟩ : ∃ y : World, y = W13.alloc (.cells r.v 47) := ⟨_, rfl⟩
        have hb14 : Below W13.heap.size W13 W14 := hW14 ▸ below_alloc (Below.refl _ _) _
        have hk14 : W14.heap[W13.heap.size]? = some (.cells r.v 47 (0, 0)) := hW14 ▸ blk_new _ _
        obtain ⟨sb, hsb⟩ : ∃ y, W13.heap.size = y := ⟨_, rfl⟩
        rw [hsb] at hk14
        obtain ⟨b0, b1, b2, b3, b4⟩ := box5 (blk_below hq13 hb14)
        obtain ⟨d0, d1, d2, d3, d4⟩ := box5 (blk_below hk13 hb14)
        obtain ⟨y0, y1, y2, y3, y4⟩ := box5 hk14
        have HM14 := Lib.hid (MG.below hm13 hb14)
        have HC14 := Lib.hid (count_calls (hA13'.below hb14))
        have HO14 := Lib.hid (count_calls (hA13.below hb14))
        have HB14 := Lib.hid (below_then hB13 hB13.size hb14)
        have HW14 := Lib.hid hW14
        have HSB := Lib.hid hsb
        have hta := ta_run r
        clear hA13 hF13 hq13 hm13 hk13 hA13' hB13 hW14 hb14 hk14 hsb HAL12 HQ12 HM12 HK12
        simp only [R5.v] at HW14 hta
        simp only [R5.v]
        go_upto_region 24 with fail
        rw [← HW14.out, HSB.out]
        clear HW14 HSB hta
        obtain ⟨ct, hct⟩ : ∃ y, x'.p.m.count = y := ⟨_, rfl⟩
        simp only [hct] at HC14 HO14
        have x2 : (ct == ct) = true := by simp
        go_wp2_with fail
        refine HC14.out.mono ?_
        rintro e W15 ⟨rfl, rfl⟩
        go_wp2_with fail
        refine (mstep_ended HM14.out).mono ?_
        rintro e W15 ⟨rfl, rfl⟩
        go_wp2_with fail
        refine HC14.out.mono ?_
        rintro e W15 ⟨rfl, rfl⟩
        go_wp2_with fail
        refine HO14.out.mono ?_
        rintro e W15 ⟨rfl, rfl⟩
        go_wp2_with fail
        go_ret
        exact ⟨rfl, HB14.out⟩
      · obtain ⟨x', hx'⟩ : ∃ y, y = x := ⟨_, rfl⟩
        have gl : ((l.length : Int) == 0) = false := by rw [beq_eq_false_iff_ne]; omega
        have hsh9 := hSt (by rintro rfl; simp at hl0) hlt
        rw [← hx'] at hal hsh9
        have HLT := Lib.hid hlt
        clear hSt hS hRV HS HM HRV HK t1 t2 b0 HAL hl0 hlt
        obtain ⟨b0, b1, b2, b3, b4⟩ := box5 HQ.out
        have HAL9 := Lib.hid hal
        have HSH9 := Lib.hid hsh9
        have HQ9 := Lib.hid HQ.out
        clear hal hsh9 HQ
        go_upto_region 22 with fail
        go_wp2_with fail
        have HMG := Lib.hid (show MG wr xb pb (fvD lb) (.iface 47 (.agg r.v)) x'.steps true from HSH9.out.o ▸ HSH9.out.e ▸ HAL9.out.D.M)
        refine (told_calls HMG.out).mono ?_
        rintro e W10 ⟨rfl, hb10⟩
        obtain ⟨W11, hW11⟩ : ∃ y : World, y = W10.alloc (.cells r.v 47) := ⟨_, rfl⟩
        have hb11 : Below W10.heap.size W10 W11 := hW11 ▸ below_alloc (Below.refl _ _) _
        have hk11 : W11.heap[W10.heap.size]? = some (.cells r.v 47 (0, 0)) := hW11 ▸ blk_new _ _
        obtain ⟨qb, hqb⟩ : ∃ y, W10.heap.size = y := ⟨_, rfl⟩
        rw [hqb] at hk11
        have hal11 := (HAL9.out.below hb10).below hb11
        have hq11 := blk_below (blk_below HQ9.out hb10) hb11
        have hm11 := (HMG.out.below hb10).below hb11
        have HK11 := Lib.hid hk11
        have HAL11 := Lib.hid hal11
        have HQ11 := Lib.hid hq11
        have HM11 := Lib.hid hm11
        have HW11 := Lib.hid hW11
        have HQB := Lib.hid hqb
        clear hb10 hb11 hW11 hk11 hqb hal11 hq11 hm11 HAL9 HQ9 HMG b0 b1 b2 b3 b4
        simp only [R5.v] at HW11
        simp only [R5.v]
        go_upto_region 23 with fail
        rw [← HW11.out, HQB.out]
        clear HW11 HQB
        go_wp2_with fail
        refine (mkdoes_calls (.slice A l.length cap) ⟨_, _, _, rfl⟩ W11).mono ?_
        rintro e W12 ⟨rfl, hlb, hb12⟩
        obtain ⟨lc, hlc⟩ : ∃ y, W11.heap.size = y := ⟨_, rfl⟩
        rw [hlc] at hlb
        rw [hlc]
        have hal12 := HAL11.out.below hb12
        have hq12 := blk_below HQ11.out hb12
        have hm12 := HM11.out.below hb12
        have hk12 := blk_below HK11.out hb12
        have HDO := Lib.hid (do_does hal12.Ao hlb hal12.B hal12.bs.2.2.1 hal12.bs.2.2.2.1 HR.out HC.out H40.out HF0.out (hal12.fin (Int.not_lt.2 HLT.out)))
        have HAL12 := Lib.hid hal12
        have HQ12 := Lib.hid hq12
        have HM12 := Lib.hid hm12
        have HK12 := Lib.hid hk12
        clear hlb hb12 hlc hal12 hq12 hm12 hk12 HAL11 HQ11 HM11 HK11
        unfold fvD at HDO
        go_wp2_with fail
        refine HDO.out.mono ?_
        rintro e W13 ⟨rfl, hA13, hF13⟩
        clear HDO
        have hq13 := (hF13.block _ (blk_lt HQ12.out) (blk_ne HQ12.out HAL12.out.Ao.hm (by decide)) (blk_ne HQ12.out HAL12.out.Ao.hc (by decide))).trans HQ12.out
        have hm13 : MG W13 xb pb (fvD lb) (.iface 47 (.agg r.v)) x'.steps true := (hF13.block _ HM12.out.lt (blk_ne HM12.out HAL12.out.Ao.hm (by decide)) (blk_ne HM12.out HAL12.out.Ao.hc (by decide))).trans HM12.out
        have hk13 := (hF13.block _ (blk_lt HK12.out) (blk_ne HK12.out HAL12.out.Ao.hm (by decide)) (blk_ne HK12.out HAL12.out.Ao.hc (by decide))).trans HK12.out
        have hA13' : At W13 mb cb x'.p.m := HAL12.out.Am.of_blocks (hF13.block _ (mb_lt HAL12.out.Am) (Ne.symm HAL12.out.ne.1) (blk_ne HAL12.out.Am.hm HAL12.out.Ao.hc (by decide))) (hF13.block _ (cb_lt HAL12.out.Am) (blk_ne HAL12.out.Am.hc HAL12.out.Ao.hm (by decide)) (Ne.symm HAL12.out.ne.2))
        have hB13 : Below w.heap.size w W13 := hF13.over_ HAL12.out.B HAL12.out.B.size HAL12.out.bs.2.2.1 HAL12.out.bs.2.2.2.1
        obtain ⟨W14, hW14⟩ : ∃ y : World, y = W13.alloc (.cells r.v 47) := ⟨_, rfl⟩
        have hb14 : Below W13.heap.size W13 W14 := hW14 ▸ below_alloc (Below.refl _ _) _
        have hk14 : W14.heap[W13.heap.size]? = some (.cells r.v 47 (0, 0)) := hW14 ▸ blk_new _ _
        obtain ⟨sb, hsb⟩ : ∃ y, W13.heap.size = y := ⟨_, rfl⟩
        rw [hsb] at hk14
        obtain ⟨b0, b1, b2, b3, b4⟩ := box5 (blk_below hq13 hb14)
        obtain ⟨d0, d1, d2, d3, d4⟩ := box5 (blk_below hk13 hb14)
        obtain ⟨y0, y1, y2, y3, y4⟩ := box5 hk14
        have HM14 := Lib.hid (MG.below hm13 hb14)
        have HC14 := Lib.hid (count_calls (hA13'.below hb14))
        have HO14 := Lib.hid (count_calls (hA13.below hb14))
        have HB14 := Lib.hid (below_then hB13 hB13.size hb14)
        have HW14 := Lib.hid hW14
        have HSB := Lib.hid hsb
        have hta := ta_run r
        clear hA13 hF13 hq13 hm13 hk13 hA13' hB13 hW14 hb14 hk14 hsb HAL12 HQ12 HM12 HK12
        simp only [R5.v] at HW14 hta
        simp only [R5.v]
        go_upto_region 24 with fail
        rw [← HW14.out, HSB.out]
        clear HW14 HSB hta
        obtain ⟨ct, hct⟩ : ∃ y, x'.p.m.count = y := ⟨_, rfl⟩
        simp only [hct] at HC14 HO14
        have x2 : (ct == ct) = true := by simp
        go_wp2_with fail
        refine HC14.out.mono ?_
        rintro e W15 ⟨rfl, rfl⟩
        go_wp2_with fail
        refine (mstep_ended HM14.out).mono ?_
        rintro e W15 ⟨rfl, rfl⟩
        go_wp2_with fail
        refine HC14.out.mono ?_
        rintro e W15 ⟨rfl, rfl⟩
        go_wp2_with fail
        refine HO14.out.mono ?_
        rintro e W15 ⟨rfl, rfl⟩
        go_wp2_with fail
        go_ret
        exact ⟨rfl, HB14.out⟩
theorem StepAlone_walk (a : Int) (ha : 0 ≤ a ∧ a ≤ 255) (A : Option Addr) (cap : Nat) (l : List S57) (hc : l.length ≤ cap) (w : World) (hR : Kd.C k57 w A l.length l) (hf0 : ∀ i, 0 ≤ i → i < (l.length : Int) → 0 ≤ (rd_T57 l i).f0 ∧ (rd_T57 l i).f0 ≤ 255) :
    Calls Try.prog 5 #[.int .u8 a, .slice A l.length cap] w fun e w' => e = .returned (.bool true) ∧ Below w.heap.size w w' := by
  by_cases h : 40 < l.length
  · exact StepAlone_long a A cap l h w
  · exact StepAlone_main a ha A cap l (by omega) hc w hR hf0
end
end Go.Proofs.Ythgbgflpjggpmaa.Mem
