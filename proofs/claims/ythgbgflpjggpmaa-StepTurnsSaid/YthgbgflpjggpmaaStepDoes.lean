/- A function that does asks, one behind the other: does$1 of the laws. -/
import Derived.Test.YthgbgflpjggpmaaStepOne
import Derived.Test.YthgbgflpjggpmaaPStepAlonex3
namespace Go.Proofs.Ythgbgflpjggpmaa.Mem
open Go.RowKit Go.Proofs.YthgbgflpjggpmaaW.PrintWords Go.Proofs.YthgbgflpjggpmaaW.PrintLast Go.Proofs.Ythgbgflpjggpmaa.Tags
open Go.Proofs.Ythgbgflpjggpmaa.PStepAlone (S57 k57 z57 rd_T57 at_T57 rundleref13_Next.f rundleref13_Next.calls)
set_option linter.unusedVariables false
set_option linter.unusedSimpArgs false
/-- How far a list is done. -/
structure R5 where
  a : Int
  t : Int
  s : Int
  l : Int
  n : Int
def R5.v (r : R5) : Array Value := #[.int .i64 r.a, .int .i64 r.t, .int .i64 r.s, .int .i64 r.l, .int .i64 r.n]
def r0 : R5 := ⟨0, 0, 0, 0, 0⟩
def nextF (l : List S57) (r : R5) (o : Int × Int × Int) : R5 :=
  match rundleref13_Next.f r.a r.t r.s r.l r.n l o.1 o.2.1 o.2.2 with
  | some (a, t, s, k, n) => ⟨a, t, s, k, n⟩
  | none => r
theorem next_facts (l : List S57) (r : R5) (o : Int × Int × Int) (h0 : 0 ≤ r.a) (h1 : r.a < l.length) (hl : l.length ≤ 40) :
    rundleref13_Next.f r.a r.t r.s r.l r.n l o.1 o.2.1 o.2.2 = some ((nextF l r o).a, (nextF l r o).t, (nextF l r o).s, (nextF l r o).l, (nextF l r o).n) ∧ r.a < (nextF l r o).a ∧ (nextF l r o).a ≤ l.length ∧ (nextF l r o).n = wrap64 (r.n + 1) := by
  have e1 : wrap64 (r.a + 1) = r.a + 1 := by unfold wrap64; omega
  have e2 : wrap64 (r.a + 1 + 1) = r.a + 1 + 1 := by unfold wrap64; omega
  unfold nextF rundleref13_Next.f
  rw [if_pos h0, if_pos h1, e1]
  split
  · split
    · by_cases c : r.a + 1 < l.length
      · rw [if_pos c, e2]
        exact ⟨rfl, by simp only; omega, by simp only; omega, rfl⟩
      · rw [if_neg c]
        exact ⟨rfl, by simp only; omega, by simp only; omega, rfl⟩
    · exact ⟨rfl, by simp only; omega, by simp only; omega, rfl⟩
  · exact ⟨rfl, by simp only; omega, by simp only; omega, rfl⟩
/-- What the function does, of a port. -/
def doesN (l : List S57) : Nat → R5 → PS → Res Value
  | 0, r, s => .out s
  | k + 1, r, s => if r.a < l.length then (s.ask (askOf (rd_T57 l r.a) r.t)).bind fun a s1 => doesN l k (nextF l r (outOf (rd_T57 l r.a) r.t a)) { s1 with note := (nextF l r (outOf (rd_T57 l r.a) r.t a)).n } else .ret (.iface 47 (.agg r.v)) s
def doesF (l : List S57) (s : PS) : Res Value := doesN l (l.length + 1) r0 s
theorem doesN_eq (l : List S57) (hl : l.length ≤ 40) : ∀ (n k : Nat) (r : R5) (s : PS), 0 ≤ r.a → r.a ≤ l.length → l.length - r.a < n → n ≤ k → doesN l k r s = doesN l n r s
  | 0, k, r, s, h0, h1, h2, _ => by omega
  | n + 1, 0, r, s, h0, h1, h2, hk => by omega
  | n + 1, k + 1, r, s, h0, h1, h2, hk => by
    unfold doesN
    split
    · rename_i c
      cases e : s.ask (askOf (rd_T57 l r.a) r.t) with
      | out s1 => rfl
      | ret a s1 =>
        obtain ⟨_, f1, f2, _⟩ := next_facts l r (outOf (rd_T57 l r.a) r.t a) h0 c hl
        exact doesN_eq l hl n k _ _ (by omega) f2 (by omega) (by omega)
    · rfl
section
variable {w w' w0 : World} {pb mb cb : Nat} {S : Nat → Prop} {s : PS} {v : Value}
/-- A number is noted. -/
theorem note_calls (h : Sp w0 S w pb mb cb s v) (n : Int) : Calls Try.prog 40 #[ptr pb, .int .i64 n] w fun e w' => e = .returned (.tuple #[]) ∧ Sp w0 S w' pb mb cb { s with note := n } v ∧ Only w w' pb := by
  obtain ⟨p0, p1, p2, p3, p4⟩ := h.P.cells
  have z4 := blk_frozen h.P 4
  have hO : Only w (w.setCell ⟨pb, 4, none⟩ (.int .i64 n)) pb := Only.set _ _ _
  have FIN := Lib.hid (h.port (note := n) (left := s.left) (at_ := s.at_) hO (blk_put h.P 4 _ rfl) h.le h.len)
  have HO := Lib.hid hO
  clear h hO
  go_enter Try.func40, Try.ntmps40
  go_wp2
  go_end0
  exact ⟨rfl, FIN.out, HO.out⟩
/-- How much of a list is left, in memory. -/
def dmu (n : Nat) (w : World) (rb : Nat) : Nat :=
  match w.cell? ⟨rb, 0, none⟩ with
  | some (.int _ a) => n - a.toNat
  | _ => 0
theorem box5 {g : Nat} {t : TypeId} {a b c d e : Value} {w : World} (h : w.heap[g]? = some (.cells #[a, b, c, d, e] t (0, 0))) : w.cell? ⟨g, 0, none⟩ = some a ∧ w.cell? ⟨g, 1, none⟩ = some b ∧ w.cell? ⟨g, 2, none⟩ = some c ∧ w.cell? ⟨g, 3, none⟩ = some d ∧ w.cell? ⟨g, 4, none⟩ = some e :=
  ⟨(blk_cell h 0).trans rfl, (blk_cell h 1).trans rfl, (blk_cell h 2).trans rfl, (blk_cell h 3).trans rfl, (blk_cell h 4).trans rfl⟩
abbrev set5 (w : World) (b : Nat) (v0 v1 v2 v3 v4 : Value) : World := ((((w.setCell ⟨b, 0, none⟩ v0).setCell ⟨b, 1, none⟩ v1).setCell ⟨b, 2, none⟩ v2).setCell ⟨b, 3, none⟩ v3).setCell ⟨b, 4, none⟩ v4
theorem only5 (w : World) (b : Nat) (v0 v1 v2 v3 v4 : Value) : Only w (set5 w b v0 v1 v2 v3 v4) b := (only4 w b v0 v1 v2 v3).trans (Only.set _ ⟨b, 4, none⟩ v4)
theorem blk5 {b : Nat} {t : TypeId} {a0 a1 a2 a3 a4 : Value} (h : w.heap[b]? = some (.cells #[a0, a1, a2, a3, a4] t (0, 0))) (v0 v1 v2 v3 v4 : Value) : (set5 w b v0 v1 v2 v3 v4).heap[b]? = some (.cells #[v0, v1, v2, v3, v4] t (0, 0)) :=
  blk_put (blk_put (blk_put (blk_put (blk_put h 0 v0 rfl) 1 v1 rfl) 2 v2 rfl) 3 v3 rfl) 4 v4 rfl
theorem dmu_eq {n rb : Nat} {r : R5} (h : w.heap[rb]? = some (.cells r.v 47 (0, 0))) : dmu n w rb = n - r.a.toNat := by
  unfold dmu
  rw [(box5 h).1]
theorem execC {oi : Oper} {a : Go.Act} {w : World} {os : Array Operand} {ts : Array TypeId} {f : FuncId} {fn : Func} (hf : Try.prog.funcs[f]? = some fn) (hname : (fn.name == "runtime.NumGoroutine") = false) (hb : fn.body.isSome = true) {args : Array Value} (hop : oi.op = .call { callee := .value (.func f), args := os, argTypes := ts }) (hargs : os.map a.eval = args) : (execOp a.eval oi).run Try.prog w = .ok (.enter f args) w := by
  have he := enters_ hf hname hb args w
  unfold execOp
  simp [hop, resolve, Deferred.ofValue, invoke, Act.eval, hargs, he]
theorem not_sf {g : Nat} {t : TypeId} {cs : Array Value} (h : Sp w0 S w pb mb cb s v) (hg : w.heap[g]? = some (.cells cs t (0, 0))) (ht : t ≠ 72 ∧ t ≠ 67 ∧ t ≠ 96 ∧ t ≠ 76) : ¬ Sf pb mb cb v g := by
  rintro (e | e | e | e)
  · exact blk_ne hg h.P ht.1 e
  · exact blk_ne hg h.A.hm ht.2.1 e
  · exact blk_ne hg h.A.hc ht.2.2.1 e
  · exact h.L.ne hg ht.2.2.2 e.symm
set_option maxHeartbeats 3200000 in
set_option maxRecDepth 100000 in
theorem does_calls (h : Sp w S w pb mb cb s v) (hl : Lok s.left) {wl : World} (hB : Below wl.heap.size wl w) (hS : ∀ k, S k → wl.heap.size ≤ k) {A : Option Addr} {cap : Nat} {l : List S57} (hR : Kd.C k57 wl A l.length l) (hc : l.length ≤ cap) (h40 : l.length ≤ 40)
    {lb : Nat} (hlb : w.heap[lb]? = some (.cells #[.slice A l.length cap] 41 (0, 0))) (hn : ¬ S lb) (hf0 : ∀ i, 0 ≤ i → i < (l.length : Int) → 0 ≤ (rd_T57 l i).f0 ∧ (rd_T57 l i).f0 ≤ 255) :
    Calls Try.prog 38 #[ptr pb, .pointer (some ⟨lb, 0, none⟩)] w (Pend w S pb mb cb (doesF l s)) := by
  obtain ⟨W, hW⟩ : ∃ W : World, W = w.alloc (.cells #[.int .i64 0, .int .i64 0, .int .i64 0, .int .i64 0, .int .i64 0] 47) := ⟨_, rfl⟩
  have hb : Below w.heap.size w W := hW ▸ below_alloc (Below.refl _ _) _
  obtain ⟨rb, hrb⟩ : ∃ x, w.heap.size = x := ⟨_, rfl⟩
  have hk : W.heap[rb]? = some (.cells r0.v 47 (0, 0)) := hrb ▸ hW ▸ blk_new _ _
  have h1 := h.below hb
  have HW := Lib.hid hW
  have HK := Lib.hid hk
  have H1 := Lib.hid h1
  have HB := Lib.hid hB
  have HS := Lib.hid hS
  have HR := Lib.hid hR
  have HLB := Lib.hid hlb
  have HN := Lib.hid hn
  have HF0 := Lib.hid hf0
  have HC := Lib.hid hc
  have HRB := Lib.hid hrb
  clear hW hb hk h1 hB hS hR hlb hn hf0 hc hrb h
  go_enter Try.func38, Try.ntmps38
  go_wp2_with fail
  rw [← HW.out]
  have hrb := HRB.out
  rw [hrb]
  clear HW hrb
  go_loopw [5] (fun z wr => ∃ r s1 v1, Sp w S wr pb mb cb s1 v1 ∧ Lok s1.left ∧ wr.heap[rb]? = some (.cells (R5.v r) 47 (0, 0)) ∧ 0 ≤ r.a ∧ r.a ≤ l.length ∧ doesF l s = doesN l (l.length + 1) r s1) (fun _ wr => dmu l.length wr rb)
  case atStart => exact ⟨r0, s, v, H1.out, hl, HK.out, Int.le_refl _, by simp [r0], rfl⟩
  case round =>
    obtain ⟨r, s1, v1, h1, l1, hrk, hra, hrl, he⟩ := hrel
    clear hl H1 HK
    have cl := box1 ((h1.F.block lb (blk_lt HLB.out) HN.out).trans HLB.out)
    have hBw : Below wl.heap.size wl wr := HB.out.trans (h1.F.to_below HB.out.size HS.out)
    obtain ⟨b0, b1, b2, b3, b4⟩ := box5 hrk
    have HM := Lib.hid (dmu_eq (n := l.length) hrk)
    by_cases hlt : r.a < (l.length : Int)
    · have gt : decide (r.a < (l.length : Int)) = true := decide_eq_true hlt
      obtain ⟨ad, hAd, x0, x1, x2, x3, x4, x5⟩ := at_T57 (Kd.C_below HR.out hBw) r.a hra hlt
      obtain ⟨x, hx⟩ : ∃ x, rd_T57 l r.a = x := ⟨_, rfl⟩
      rw [hx] at x0 x1 x2 x3 x4 x5
      have h08 : 0 ≤ x.f0 ∧ x.f0 ≤ 255 := hx ▸ HF0.out r.a hra hlt
      have hd1 : Below wr.heap.size wr (wr.drewN 1) := pw_below_drewN (Below.refl _ _) 1
      have h1d := h1.below hd1
      have hrkd := blk_drewN hrk 1
      have HCALL := Lib.hid (one_calls h1d.home l1 x h08 r.t)
      have hns := not_sf h1d hrkd (by decide)
      have hmu : ∀ a s2, s1.ask (askOf x r.t) = .ret a s2 → Lok s2.left := fun a s2 e => ask_lok e l1
      have hun : doesN l (l.length + 1) r s1 = (s1.ask (askOf x r.t)).bind fun a s2 => doesN l l.length (nextF l r (outOf x r.t a)) { s2 with note := (nextF l r (outOf x r.t a)).n } := by
        rw [doesN, if_pos hlt, hx]
      rw [hun] at he
      obtain ⟨q, hq⟩ : ∃ q, s1.ask (askOf x r.t) = q := ⟨_, rfl⟩
      rw [hq] at HCALL he hmu
      have HE := Lib.hid he
      have HMU := Lib.hid hmu
      have H1D := Lib.hid h1d
      have HRK := Lib.hid hrkd
      have HNS := Lib.hid hns
      have HBW := Lib.hid hBw
      have HX := Lib.hid hx
      clear he hmu h1d hrkd hns hun hq h1 hrk hBw hx hd1
      subst hAd
      obtain ⟨f0, f1, f2, f3, f4, f5⟩ := x
      simp only at x0 x1 x2 x3 x4 x5
      go_upto_region 3 with fail
      refine start_ (n := 16) (S := fun w' => w'.cell? ⟨lb, 0, none⟩ = some (.slice (some ad) l.length cap) ∧ w'.cell? ⟨rb, 0, none⟩ = some (.int .i64 r.a) ∧ w'.cell? ⟨rb, 1, none⟩ = some (.int .i64 r.t) ∧ w'.cell? (ad.add (r.a.toNat * 6)) = some (.int .u8 f0) ∧ w'.cell? ⟨(ad.add (r.a.toNat * 6)).block, (ad.add (r.a.toNat * 6)).off + 1, none⟩ = some (.int .i64 f1) ∧ w'.cell? ⟨(ad.add (r.a.toNat * 6)).block, (ad.add (r.a.toNat * 6)).off + 2, none⟩ = some (.int .i64 f2) ∧ w'.cell? ⟨(ad.add (r.a.toNat * 6)).block, (ad.add (r.a.toNat * 6)).off + 3, none⟩ = some (.int .i64 f3) ∧ w'.cell? ⟨(ad.add (r.a.toNat * 6)).block, (ad.add (r.a.toNat * 6)).off + 4, none⟩ = some (.bool f4) ∧ w'.cell? ⟨(ad.add (r.a.toNat * 6)).block, (ad.add (r.a.toNat * 6)).off + 5, none⟩ = some (.bool f5)) (ds := [8]) #[false, false, false, false, false, false, false, false, false, false, false, false, false, false, false, false] rfl rfl rfl (⟨cl, b0, b1, x0, x1, x2, x3, x4, x5⟩) ?_
      intro hHeld
      refine pure_ (i := 0) (N := some 15) (v := ?_) (a' := ?_) #[true, false, false, false, false, false, false, false, false, false, false, false, false, false, false, false] rfl rfl (by kernel_rfl) (fun _ _ _ h => h) (Or.inl ⟨by rfl, ?_⟩) ?_ ?_
      rotate_left
      · intro w'
        go_simp
        with_reducible rfl
      rotate_left
      · simp only [Act.put, List.setIfInBounds_toArray, List.set_cons_zero, List.set_cons_succ, i64_w, i32_w]
        rfl
      refine take_ (i := 1) (N := some 16) (v := ?_) (a' := ?_) #[true, true, false, false, false, false, false, false, false, false, false, false, false, false, false, false] rfl rfl (by kernel_rfl) (fun _ _ _ h => h) (Or.inl ⟨by rfl, ?_⟩) hHeld ?_ ?_
      rotate_left
      · rintro w' hHeld'
        have hHeld'' := hHeld'
        (try obtain ⟨r0_, r1_⟩ := hHeld')
        (try obtain ⟨r1_, r2_⟩ := r1_)
        (try obtain ⟨r2_, r3_⟩ := r2_)
        (try obtain ⟨r3_, r4_⟩ := r3_)
        (try obtain ⟨r4_, r5_⟩ := r4_)
        (try obtain ⟨r5_, r6_⟩ := r5_)
        (try obtain ⟨r6_, r7_⟩ := r6_)
        (try obtain ⟨r7_, r8_⟩ := r7_)
        (try obtain ⟨r8_, r9_⟩ := r8_)
        (try obtain ⟨r9_, r10_⟩ := r9_)
        (try obtain ⟨r10_, r11_⟩ := r10_)
        (try obtain ⟨r11_, r12_⟩ := r11_)
        (try obtain ⟨r12_, r13_⟩ := r12_)
        (try obtain ⟨r13_, r14_⟩ := r13_)
        (try obtain ⟨r14_, r15_⟩ := r14_)
        (try obtain ⟨r15_, r16_⟩ := r15_)
        (try obtain ⟨r16_, r17_⟩ := r16_)
        (try obtain ⟨r17_, r18_⟩ := r17_)
        (try obtain ⟨r18_, r19_⟩ := r18_)
        (try obtain ⟨r19_, r20_⟩ := r19_)
        (try obtain ⟨r20_, r21_⟩ := r20_)
        (try obtain ⟨r21_, r22_⟩ := r21_)
        (try obtain ⟨r22_, r23_⟩ := r22_)
        (try obtain ⟨r23_, r24_⟩ := r23_)
        (try obtain ⟨r24_, r25_⟩ := r24_)
        (try obtain ⟨r25_, r26_⟩ := r25_)
        (try obtain ⟨r26_, r27_⟩ := r26_)
        (try obtain ⟨r27_, r28_⟩ := r27_)
        (try obtain ⟨r28_, r29_⟩ := r28_)
        (try obtain ⟨r29_, r30_⟩ := r29_)
        (try obtain ⟨r7_, r8_⟩ := r7_)
        (try obtain ⟨r8_, r9_⟩ := r8_)
        go_simp
        with_reducible rfl
      rotate_left
      · simp only [Act.put, List.setIfInBounds_toArray, List.set_cons_zero, List.set_cons_succ, i64_w, i32_w]
        rfl
      refine pure_ (i := 2) (N := some 17) (v := ?_) (a' := ?_) #[true, true, true, false, false, false, false, false, false, false, false, false, false, false, false, false] rfl rfl (by kernel_rfl) (fun _ _ _ h => h) (Or.inl ⟨by rfl, ?_⟩) ?_ ?_
      rotate_left
      · intro w'
        go_simp
        with_reducible rfl
      rotate_left
      · simp only [Act.put, List.setIfInBounds_toArray, List.set_cons_zero, List.set_cons_succ, i64_w, i32_w]
        rfl
      refine take_ (i := 3) (N := some 18) (v := ?_) (a' := ?_) #[true, true, true, true, false, false, false, false, false, false, false, false, false, false, false, false] rfl rfl (by kernel_rfl) (fun _ _ _ h => h) (Or.inl ⟨by rfl, ?_⟩) hHeld ?_ ?_
      rotate_left
      · rintro w' hHeld'
        have hHeld'' := hHeld'
        (try obtain ⟨r0_, r1_⟩ := hHeld')
        (try obtain ⟨r1_, r2_⟩ := r1_)
        (try obtain ⟨r2_, r3_⟩ := r2_)
        (try obtain ⟨r3_, r4_⟩ := r3_)
        (try obtain ⟨r4_, r5_⟩ := r4_)
        (try obtain ⟨r5_, r6_⟩ := r5_)
        (try obtain ⟨r6_, r7_⟩ := r6_)
        (try obtain ⟨r7_, r8_⟩ := r7_)
        (try obtain ⟨r8_, r9_⟩ := r8_)
        (try obtain ⟨r9_, r10_⟩ := r9_)
        (try obtain ⟨r10_, r11_⟩ := r10_)
        (try obtain ⟨r11_, r12_⟩ := r11_)
        (try obtain ⟨r12_, r13_⟩ := r12_)
        (try obtain ⟨r13_, r14_⟩ := r13_)
        (try obtain ⟨r14_, r15_⟩ := r14_)
        (try obtain ⟨r15_, r16_⟩ := r15_)
        (try obtain ⟨r16_, r17_⟩ := r16_)
        (try obtain ⟨r17_, r18_⟩ := r17_)
        (try obtain ⟨r18_, r19_⟩ := r18_)
        (try obtain ⟨r19_, r20_⟩ := r19_)
        (try obtain ⟨r20_, r21_⟩ := r20_)
        (try obtain ⟨r21_, r22_⟩ := r21_)
        (try obtain ⟨r22_, r23_⟩ := r22_)
        (try obtain ⟨r23_, r24_⟩ := r23_)
        (try obtain ⟨r24_, r25_⟩ := r24_)
        (try obtain ⟨r25_, r26_⟩ := r25_)
        (try obtain ⟨r26_, r27_⟩ := r26_)
        (try obtain ⟨r27_, r28_⟩ := r27_)
        (try obtain ⟨r28_, r29_⟩ := r28_)
        (try obtain ⟨r29_, r30_⟩ := r29_)
        (try obtain ⟨r7_, r8_⟩ := r7_)
        (try obtain ⟨r8_, r9_⟩ := r8_)
        go_simp
        with_reducible rfl
      rotate_left
      · simp only [Act.put, List.setIfInBounds_toArray, List.set_cons_zero, List.set_cons_succ, i64_w, i32_w]
        rfl
      refine pure_ (i := 4) (N := some 19) (v := ?_) (a' := ?_) #[true, true, true, true, true, false, false, false, false, false, false, false, false, false, false, false] rfl rfl (by kernel_rfl) (fun _ _ _ h => h) (Or.inl ⟨by rfl, ?_⟩) ?_ ?_
      rotate_left
      · intro w'
        go_simp
        with_reducible rfl
      rotate_left
      · simp only [Act.put, List.setIfInBounds_toArray, List.set_cons_zero, List.set_cons_succ, i64_w, i32_w]
        rfl
      refine take_ (i := 5) (N := some 20) (v := ?_) (a' := ?_) #[true, true, true, true, true, true, false, false, false, false, false, false, false, false, false, false] rfl rfl (by kernel_rfl) (fun _ _ _ h => h) (Or.inl ⟨by rfl, ?_⟩) hHeld ?_ ?_
      rotate_left
      · rintro w' hHeld'
        have hHeld'' := hHeld'
        (try obtain ⟨r0_, r1_⟩ := hHeld')
        (try obtain ⟨r1_, r2_⟩ := r1_)
        (try obtain ⟨r2_, r3_⟩ := r2_)
        (try obtain ⟨r3_, r4_⟩ := r3_)
        (try obtain ⟨r4_, r5_⟩ := r4_)
        (try obtain ⟨r5_, r6_⟩ := r5_)
        (try obtain ⟨r6_, r7_⟩ := r6_)
        (try obtain ⟨r7_, r8_⟩ := r7_)
        (try obtain ⟨r8_, r9_⟩ := r8_)
        (try obtain ⟨r9_, r10_⟩ := r9_)
        (try obtain ⟨r10_, r11_⟩ := r10_)
        (try obtain ⟨r11_, r12_⟩ := r11_)
        (try obtain ⟨r12_, r13_⟩ := r12_)
        (try obtain ⟨r13_, r14_⟩ := r13_)
        (try obtain ⟨r14_, r15_⟩ := r14_)
        (try obtain ⟨r15_, r16_⟩ := r15_)
        (try obtain ⟨r16_, r17_⟩ := r16_)
        (try obtain ⟨r17_, r18_⟩ := r17_)
        (try obtain ⟨r18_, r19_⟩ := r18_)
        (try obtain ⟨r19_, r20_⟩ := r19_)
        (try obtain ⟨r20_, r21_⟩ := r20_)
        (try obtain ⟨r21_, r22_⟩ := r21_)
        (try obtain ⟨r22_, r23_⟩ := r22_)
        (try obtain ⟨r23_, r24_⟩ := r23_)
        (try obtain ⟨r24_, r25_⟩ := r24_)
        (try obtain ⟨r25_, r26_⟩ := r25_)
        (try obtain ⟨r26_, r27_⟩ := r26_)
        (try obtain ⟨r27_, r28_⟩ := r27_)
        (try obtain ⟨r28_, r29_⟩ := r28_)
        (try obtain ⟨r29_, r30_⟩ := r29_)
        (try obtain ⟨r7_, r8_⟩ := r7_)
        (try obtain ⟨r8_, r9_⟩ := r8_)
        go_simp
        with_reducible rfl
      rotate_left
      · simp only [Act.put, List.setIfInBounds_toArray, List.set_cons_zero, List.set_cons_succ, i64_w, i32_w]
        rfl
      refine pure_ (i := 6) (N := some 21) (v := ?_) (a' := ?_) #[true, true, true, true, true, true, true, false, false, false, false, false, false, false, false, false] rfl rfl (by kernel_rfl) (fun _ _ _ h => h) (Or.inl ⟨by rfl, ?_⟩) ?_ ?_
      rotate_left
      · intro w'
        go_simp
        with_reducible rfl
      rotate_left
      · simp only [Act.put, List.setIfInBounds_toArray, List.set_cons_zero, List.set_cons_succ, i64_w, i32_w]
        rfl
      refine take_ (i := 7) (N := some 22) (v := ?_) (a' := ?_) #[true, true, true, true, true, true, true, true, false, false, false, false, false, false, false, false] rfl rfl (by kernel_rfl) (fun _ _ _ h => h) (Or.inl ⟨by rfl, ?_⟩) hHeld ?_ ?_
      rotate_left
      · rintro w' hHeld'
        have hHeld'' := hHeld'
        (try obtain ⟨r0_, r1_⟩ := hHeld')
        (try obtain ⟨r1_, r2_⟩ := r1_)
        (try obtain ⟨r2_, r3_⟩ := r2_)
        (try obtain ⟨r3_, r4_⟩ := r3_)
        (try obtain ⟨r4_, r5_⟩ := r4_)
        (try obtain ⟨r5_, r6_⟩ := r5_)
        (try obtain ⟨r6_, r7_⟩ := r6_)
        (try obtain ⟨r7_, r8_⟩ := r7_)
        (try obtain ⟨r8_, r9_⟩ := r8_)
        (try obtain ⟨r9_, r10_⟩ := r9_)
        (try obtain ⟨r10_, r11_⟩ := r10_)
        (try obtain ⟨r11_, r12_⟩ := r11_)
        (try obtain ⟨r12_, r13_⟩ := r12_)
        (try obtain ⟨r13_, r14_⟩ := r13_)
        (try obtain ⟨r14_, r15_⟩ := r14_)
        (try obtain ⟨r15_, r16_⟩ := r15_)
        (try obtain ⟨r16_, r17_⟩ := r16_)
        (try obtain ⟨r17_, r18_⟩ := r17_)
        (try obtain ⟨r18_, r19_⟩ := r18_)
        (try obtain ⟨r19_, r20_⟩ := r19_)
        (try obtain ⟨r20_, r21_⟩ := r20_)
        (try obtain ⟨r21_, r22_⟩ := r21_)
        (try obtain ⟨r22_, r23_⟩ := r22_)
        (try obtain ⟨r23_, r24_⟩ := r23_)
        (try obtain ⟨r24_, r25_⟩ := r24_)
        (try obtain ⟨r25_, r26_⟩ := r25_)
        (try obtain ⟨r26_, r27_⟩ := r26_)
        (try obtain ⟨r27_, r28_⟩ := r27_)
        (try obtain ⟨r28_, r29_⟩ := r28_)
        (try obtain ⟨r29_, r30_⟩ := r29_)
        (try obtain ⟨r7_, r8_⟩ := r7_)
        (try obtain ⟨r8_, r9_⟩ := r8_)
        go_simp
        with_reducible rfl
      rotate_left
      · simp only [Act.put, List.setIfInBounds_toArray, List.set_cons_zero, List.set_cons_succ, i64_w, i32_w]
        rfl
      refine last_ (i := 8) (N := some 23) #[true, true, true, true, true, true, true, true, true, false, false, false, false, false, false, false] rfl rfl (by kernel_rfl) (by decide) (fun K hSh => ?_)
      refine callP_ _ _ (by rfl) rfl (execC Try.func39 (by kernel_rfl) rfl rfl (by simp only [List.map_toArray, List.map_cons, List.map_nil]; rfl)) ?_
      refine HCALL.out.mono ?_
      clear HCALL
      intro e W1 hp
      cases q with
      | out s2 =>
        obtain ⟨rfl, v2, h2⟩ := hp
        have hfin : Pend w S pb mb cb (doesF l s) (.panicked [{ v := .iface 99 (.agg #[]), recovered := false }]) W1 := by
          rw [HE.out]
          exact ⟨rfl, v2, H1D.out.back h2⟩
        refine Or.inr ⟨_, rfl, ?_⟩
        exact ⟨rfl, hfin⟩
      | ret a s2 =>
        obtain ⟨rfl, v2, h2⟩ := hp
        refine Or.inl ⟨_, rfl, ?_⟩
        refine hSh.out _ _ ?_
        clear hSh hHeld cl b0 b1 b2 b3 b4 x0 x1 x2 x3 x4 x5
        have n2 := HMU.out a s2 rfl
        obtain ⟨o1, o2, o3, ho⟩ : ∃ o1 o2 o3, outOf ⟨f0, f1, f2, f3, f4, f5⟩ r.t a = (o1, o2, o3) := ⟨_, _, _, rfl⟩
        have he2 : doesF l s = doesN l l.length (nextF l r (o1, o2, o3)) { s2 with note := (nextF l r (o1, o2, o3)).n } := by rw [← ho]; exact HE.out
        simp only [ho, out3]
        obtain ⟨g1, g2, g3, g4⟩ := next_facts l r (o1, o2, o3) hra hlt h40
        obtain ⟨r2, hr2⟩ : ∃ y, nextF l r (o1, o2, o3) = y := ⟨_, rfl⟩
        rw [hr2] at he2 g1 g2 g3
        have hfull : doesF l s = doesN l (l.length + 1) r2 { s2 with note := r2.n } := by
          rw [he2]
          exact (doesN_eq l h40 l.length (l.length + 1) r2 _ (by omega) g3 (by omega) (by omega)).symm
        have hrk2 := (h2.F.block rb (blk_lt HRK.out) HNS.out).trans HRK.out
        have hsp2 := H1D.out.back h2
        have cl := box1 ((hsp2.F.block lb (blk_lt HLB.out) HN.out).trans HLB.out)
        have hBw2 : Below wl.heap.size wl W1 := HB.out.trans (hsp2.F.to_below HB.out.size HS.out)
        have HNEXT := Lib.hid (rundleref13_Next.calls r.a r.t r.s r.l r.n (some ad) cap l o1 o2 o3 _ _ _ _ _ W1 (Kd.C_below HR.out hBw2) HC.out g1)
        obtain ⟨b0, b1, b2, b3, b4⟩ := box5 hrk2
        have HFULL := Lib.hid hfull
        have HRK2 := Lib.hid hrk2
        have HSP2 := Lib.hid hsp2
        have HG := Lib.hid (And.intro g2 g3)
        clear he2 g1 g2 g3 g4 hr2 hfull hrk2 hsp2 hBw2 h2 ho HE HMU H1D HRK HNS HBW HX
        refine norm_ (a' := ?_) ?_ ?_
        rotate_left
        · simp only [Act.put, List.setIfInBounds_toArray, List.set_cons_zero, List.set_cons_succ, i64_w, i32_w]
          rfl
        refine pure_ (i := 9) (N := some 14) (v := ?_) (a' := ?_) #[true, true, true, true, true, true, true, true, true, true, false, false, false, false, false, false] rfl rfl (by kernel_rfl) (fun _ _ _ h => h) (Or.inl ⟨by rfl, ?_⟩) ?_ ?_
        rotate_left
        · intro w'
          go_simp
          with_reducible rfl
        rotate_left
        · simp only [Act.put, List.setIfInBounds_toArray, List.set_cons_zero, List.set_cons_succ, i64_w, i32_w]
          rfl
        refine pure_ (i := 10) (N := some 24) (v := ?_) (a' := ?_) #[true, true, true, true, true, true, true, true, true, true, true, false, false, false, false, false] rfl rfl (by kernel_rfl) (fun _ _ _ h => h) (Or.inl ⟨by rfl, ?_⟩) ?_ ?_
        rotate_left
        · intro w'
          go_simp
          with_reducible rfl
        rotate_left
        · simp only [Act.put, List.setIfInBounds_toArray, List.set_cons_zero, List.set_cons_succ, i64_w, i32_w]
          rfl
        refine pure_ (i := 11) (N := some 25) (v := ?_) (a' := ?_) #[true, true, true, true, true, true, true, true, true, true, true, true, false, false, false, false] rfl rfl (by kernel_rfl) (fun _ _ _ h => h) (Or.inl ⟨by rfl, ?_⟩) ?_ ?_
        rotate_left
        · intro w'
          go_simp
          with_reducible rfl
        rotate_left
        · simp only [Act.put, List.setIfInBounds_toArray, List.set_cons_zero, List.set_cons_succ, i64_w, i32_w]
          rfl
        refine pure_ (i := 12) (N := some 26) (v := ?_) (a' := ?_) #[true, true, true, true, true, true, true, true, true, true, true, true, true, false, false, false] rfl rfl (by kernel_rfl) (fun _ _ _ h => h) (Or.inl ⟨by rfl, ?_⟩) ?_ ?_
        rotate_left
        · intro w'
          go_simp
          with_reducible rfl
        rotate_left
        · simp only [Act.put, List.setIfInBounds_toArray, List.set_cons_zero, List.set_cons_succ, i64_w, i32_w]
          rfl
        refine pure_ (i := 13) (N := some 5) (v := ?_) (a' := ?_) #[true, true, true, true, true, true, true, true, true, true, true, true, true, true, false, false] rfl rfl (by kernel_rfl) (fun _ _ _ h => h) (Or.inl ⟨by rfl, ?_⟩) ?_ ?_
        rotate_left
        · intro w'
          go_simp
          with_reducible rfl
        rotate_left
        · simp only [Act.put, List.setIfInBounds_toArray, List.set_cons_zero, List.set_cons_succ, i64_w, i32_w]
          rfl
        refine pure_ (i := 14) (N := some 6) (v := ?_) (a' := ?_) #[true, true, true, true, true, true, true, true, true, true, true, true, true, true, true, false] rfl rfl (by kernel_rfl) (fun _ _ _ h => h) (Or.inl ⟨by rfl, ?_⟩) ?_ ?_
        rotate_left
        · intro w'
          go_simp
          with_reducible rfl
        rotate_left
        · simp only [Act.put, List.setIfInBounds_toArray, List.set_cons_zero, List.set_cons_succ, i64_w, i32_w]
          rfl
        refine pure_ (i := 15) (N := some 7) (v := ?_) (a' := ?_) #[true, true, true, true, true, true, true, true, true, true, true, true, true, true, true, true] rfl rfl (by kernel_rfl) (fun _ _ _ h => h) (Or.inl ⟨by rfl, ?_⟩) ?_ ?_
        rotate_left
        · intro w'
          go_simp
          with_reducible rfl
        rotate_left
        · simp only [Act.put, List.setIfInBounds_toArray, List.set_cons_zero, List.set_cons_succ, i64_w, i32_w]
          rfl
        refine done_ (by kernel_rfl) ?_
        go_wp2_with fail
        refine HNEXT.out.mono ?_
        rintro e W2 ⟨rfl, hb2⟩
        have hrk3 := blk_below HRK2.out hb2
        have hsp3 := HSP2.out.below hb2
        obtain ⟨W3, hW3⟩ : ∃ y : World, y = ((((W2.setCell ⟨rb, 0, none⟩ (.int .i64 r2.a)).setCell ⟨rb, 1, none⟩ (.int .i64 r2.t)).setCell ⟨rb, 2, none⟩ (.int .i64 r2.s)).setCell ⟨rb, 3, none⟩ (.int .i64 r2.l)).setCell ⟨rb, 4, none⟩ (.int .i64 r2.n) := ⟨_, rfl⟩
        have hO3 : Only W2 W3 rb := by rw [hW3]; exact only5 W2 rb _ _ _ _ _
        have hrk4 : W3.heap[rb]? = some (.cells r2.v 47 (0, 0)) := by rw [hW3]; exact blk5 hrk3 _ _ _ _ _
        have hsp4 := hsp3.other hO3 (Or.inl (Nat.le_of_eq HRB.out)) (blk_ne hsp3.P hrk3 (by decide)) (blk_ne hsp3.A.hm hrk3 (by decide)) (blk_ne hsp3.A.hc hrk3 (by decide)) (hsp3.L.ne hrk3 (by decide))
        clear b0 b1 b2 b3 b4 cl
        obtain ⟨b0, b1, b2, b3, b4⟩ := box5 hrk3
        obtain ⟨d0, d1, d2, d3, d4⟩ := box5 hrk4
        have z0 := blk_frozen hrk3 0
        have z1 := blk_frozen hrk3 1
        have z2 := blk_frozen hrk3 2
        have z3 := blk_frozen hrk3 3
        have z4 := blk_frozen hrk3 4
        have HNOTE := Lib.hid (note_calls hsp4 r2.n)
        have HRK4 := Lib.hid hrk4
        have HW3 := Lib.hid hW3
        have HNE := Lib.hid (blk_ne hsp4.P hrk4 (by decide))
        clear hrk3 hsp3 hW3 hO3 hrk4 hsp4 hb2 HRK2 HSP2 HNEXT
        go_upto_region 5 with fail
        rw [← HW3.out]
        clear HW3
        go_wp2_with fail
        refine HNOTE.out.mono ?_
        rintro e W4 ⟨rfl, hsp5, hO5⟩
        clear HNOTE
        have hrk5 : W4.heap[rb]? = some (.cells r2.v 47 (0, 0)) := (hO5.block rb (Ne.symm HNE.out)).trans HRK4.out
        have HD := Lib.hid (dmu_eq (n := l.length) hrk5)
        have HRK5 := Lib.hid hrk5
        have HSP5 := Lib.hid hsp5
        clear hsp5 hO5 hrk5 b0 b1 b2 b3 b4 d0 d1 d2 d3 d4 z0 z1 z2 z3 z4
        go_wp2_with fail
        go_roundw
        case rel => exact ⟨r2, _, _, HSP5.out, n2, HRK5.out, by have := HG.out; omega, HG.out.2, HFULL.out⟩
        case measure => rw [HD.out, HM.out]; have := HG.out; omega
    · have gt : decide (r.a < (l.length : Int)) = false := decide_eq_false hlt
      have hun : doesN l (l.length + 1) r s1 = .ret (.iface 47 (.agg r.v)) s1 := by rw [doesN, if_neg hlt]
      rw [hun] at he
      have FIN := Lib.hid (show Pend w S pb mb cb (doesF l s) (.returned (.iface 47 (.agg r.v))) wr from by rw [he]; exact ⟨rfl, v1, h1⟩)
      clear he hun h1 hrk hBw
      go_wp2_with fail
      go_ret
      exact FIN.out
end
end Go.Proofs.Ythgbgflpjggpmaa.Mem
