/- rundlelaw16.lay: memory, and a node with its chain. -/
import Derived.Test.YtcfbjcadpcedhaaNodeView
namespace Go.Proofs.Ytcfbjcadpcedhaa.Mem
open Go.RowKit Go.Proofs.YtcfbjcadpcedhaaW.PrintWords Go.Proofs.YtcfbjcadpcedhaaW.PrintLast Go.Proofs.Ytcfbjcadpcedhaa.Tags
set_option linter.unusedVariables false
set_option linter.unusedSimpArgs false
section
/-- 'append([]int{y}, ys...)'. -/
theorem prepend_I {ops : Array Oper} {rest : List Oper} {o : Oper} {a : Go.Act} {Q : Exit → Go.Act → World → Prop} {W : World} (hgd : o.guard = none) (s x : Operand) (ho : o.op = .call { callee := .builtin .append, args := #[s, x], argTypes := #[32, 32] }) (y : Int) (A : Option Addr) (c : Nat) (ys : List Int) (hR : Rd W A ys)
    (hs : a.eval s = .slice (some ⟨W.heap.size, 0, none⟩) 1 1) (hx : a.eval x = .slice A ys.length c) (hl : ys.length ≤ 1000000)
    (h : ∀ v1 w1, OwnI w1 W.heap.size v1 (y :: ys) → Below W.heap.size W w1 → wpList Try.prog ops Q rest (a.put o.dst v1) w1) :
    wpList Try.prog ops Q (o :: rest) a (W.alloc (.cells #[.int .i64 y] 3)) := by
  have hb : Below W.heap.size W (W.alloc (.cells #[.int .i64 y] 3)) := below_alloc (Below.refl _ _) _
  have hO : OwnI (W.alloc (.cells #[.int .i64 y] 3)) W.heap.size (.slice (some ⟨W.heap.size, 0, none⟩) 1 1) [y] := World.ownsRow_lit W #[.int .i64 y] 1 (Nat.le_refl _) (by simp [maxLen]) rfl
  refine print_append_row (w0 := W) W.heap.size hgd s x 32 3 .i64 8 ho Try.underlying32 int_info (by decide) (.slice (some ⟨W.heap.size, 0, none⟩) 1 1) [y] ys A ys.length c hs hx hO (hR.below hb) hb (by simp) (by simp; omega) ?_
  intro v1 w1 hown hb1 _ _
  refine h v1 w1 ?_ hb1
  unfold OwnI
  exact hown
variable {w0 w w' : World} {pb mb cb : Nat} {m m' : M}
/-- A row of small whole numbers that lies in memory: the rises. -/
abbrev U8 (w : World) (A : Option Addr) (xs : List Int) : Prop := ReadsInt w .u8 A xs.length xs
abbrev yardV (mb : Nat) (H : Int) (low : ByteArray) (hd : Int) (N C G : Value) : Array Value := #[ptr mb, .int .i64 H, .string low, .int .i64 hd, N, C, G]
theorem box7 {g : Nat} {t : TypeId} {v0 v1 v2 v3 v4 v5 v6 : Value} {w : World} (h : w.heap[g]? = some (.cells #[v0, v1, v2, v3, v4, v5, v6] t (0, 0))) : w.cell? ⟨g, 0, none⟩ = some v0 ∧ w.cell? ⟨g, 1, none⟩ = some v1 ∧ w.cell? ⟨g, 2, none⟩ = some v2 ∧ w.cell? ⟨g, 3, none⟩ = some v3 ∧ w.cell? ⟨g, 4, none⟩ = some v4 ∧ w.cell? ⟨g, 5, none⟩ = some v5 ∧ w.cell? ⟨g, 6, none⟩ = some v6 :=
  ⟨(blk_cell h 0).trans rfl, (blk_cell h 1).trans rfl, (blk_cell h 2).trans rfl, (blk_cell h 3).trans rfl, (blk_cell h 4).trans rfl, (blk_cell h 5).trans rfl, (blk_cell h 6).trans rfl⟩
abbrev vers (l : List (Int × Ag)) : List Int := l.map fun x => x.2.ver
abbrev hands (l : List (Int × Ag)) : List Int := l.map fun x => x.1
/-- What holds between two rises. -/
def LayAt (w0 : World) (pb mb cb br by_ bo : Nat) (Ar : Option Addr) (cr : Nat) (B : Nat) (rs : List Int) (k : Nat) (v h : Value) (wr : World) : Prop :=
  ∃ (m : M) (z : Int) (l : List (Int × Ag)) (vs hs : List Int) (A1 A2 : Option Addr) (c1 c2 : Nat), l.length = k ∧ v = .int .i64 ((vsOf (rs.take k)).headD 0) ∧ h = .int .i64 z ∧ vs = vers l ∧ hs = hands l ∧ vs = vsOf (rs.take k) ∧ (∀ x ∈ l, x.2.dead = true) ∧ Row m z l 200 (2 * k) 0 ∧ St w0 wr pb mb cb m ∧
    wr.heap[by_]? = some (.cells (yardV mb 0 ⟨#[]⟩ 0 (.slice none 0 0) (.slice A1 vs.length c1) (.slice A2 hs.length c2)) 48 (0, 0)) ∧
    wr.heap[bo]? = some (.cells #[.bool true] 4 (0, 0)) ∧ wr.heap[br]? = some (.cells #[.slice Ar rs.length cr] 44 (0, 0)) ∧ OwnI wr B (.slice A1 vs.length c1) vs ∧ OwnI wr B (.slice A2 hs.length c2) hs ∧ B ≤ wr.heap.size
theorem Fr.over {w w1 w2 : World} {mb cb : Nat} {B : Nat} (h : Fr w1 w2 mb cb) (hb : Below B w w1) (h0 : B ≤ w1.heap.size) (h1 : B ≤ mb) (h2 : B ≤ cb) : Below B w w2 :=
  ⟨h.os.trans hb.os, h.tape.trans hb.tape, h.output.trans hb.output, Nat.le_trans hb.size h.size, fun k hk => (h.block k (by omega) (by omega) (by omega)).trans (hb.block k hk)⟩
/-- A block of another type abides what is written into one block. -/
theorem Only.blk {b : Nat} (ho : Only w w' b) {g : Nat} {t t' : TypeId} {cs cs' : Array Value} (hg : w.heap[g]? = some (.cells cs t (0, 0))) (hb : w.heap[b]? = some (.cells cs' t' (0, 0))) (ht : t ≠ t') : w'.heap[g]? = some (.cells cs t (0, 0)) :=
  (ho.block g (by rintro rfl; rw [hg] at hb; injection hb with hb; injection hb with _ hb; exact ht hb)).trans hg
theorem OwnI.only1 {base b : Nat} {v : Value} {xs : List Int} (h : OwnI w base v xs) (k : Only w w' b) {t : TypeId} {cs : Array Value} (hg : w.heap[b]? = some (.cells cs t (0, 0))) (ht : t ≠ 3) : OwnI w' base v xs := h.move fun i hi => k.block i (by rintro rfl; exact h.ne hg ht hi.symm)
/-- A node in memory, beside its chain. -/
structure NodeAt (m : M) (H z : Int) (low : ByteArray) (t0 t1 t2 : Int) (A : Option Addr) (k : Nat) (l : List (Int × Ag)) : Prop where
  H_ : m.val H = some (.iface 46 (Nd.v ⟨low, t0, A, 2, k⟩))
  w0 : m.val t0 = some (number z)
  w1 : m.val t1 = some (number 5)
  w2 : m.val t2 = some (number 6)
  n0 : t0 ∉ prevs l
  n1 : t1 ∉ prevs l
  n2 : t2 ∉ prevs l
  d : t0 ≠ t1 ∧ t0 ≠ t2
/-- What lay's function comes to. -/
def LayEnd (w0 : World) (pb mb cb by_ bo : Nat) (B : Nat) (rs : List Int) (e : Ending) (w' : World) : Prop :=
  e = .returned .nilIface ∧ ∃ (m : M) (z H t0 t1 t2 : Int) (l : List (Int × Ag)) (vs hs : List Int) (A1 A2 AN : Option Addr) (c1 c2 kN : Nat), vs = vers l ∧ hs = hands l ∧ vs = vsOf rs ∧ (∀ x ∈ l, x.2.dead = true) ∧ l.length = rs.length ∧ Row m z l 200 (2 * rs.length + 4) 0 ∧ NodeAt m H z ⟨#[107]⟩ t0 t1 t2 AN kN l ∧ St w0 w' pb mb cb m ∧
    w'.heap[by_]? = some (.cells (yardV mb H ⟨#[107]⟩ t0 (.slice AN 2 kN) (.slice A1 vs.length c1) (.slice A2 hs.length c2)) 48 (0, 0)) ∧
    w'.heap[bo]? = some (.cells #[.bool true] 4 (0, 0)) ∧ OwnI w' B (.slice A1 vs.length c1) vs ∧ OwnI w' B (.slice A2 hs.length c2) hs ∧ RdT w' AN [t1, t2]
theorem RdT.only1 {b : Nat} {A : Option Addr} {xs : List Int} (h : RdT w A xs) (k : Only w w' b) {t : TypeId} {cs : Array Value} (hg : w.heap[b]? = some (.cells cs t (0, 0))) (ht : t ≠ 3) : RdT w' A xs := by
  have hk : ∀ ad, A = some ad → w'.heap[ad.block]? = w.heap[ad.block]? := fun ad e => by
    obtain ⟨_, cs', hc⟩ := h.2 ad e
    exact k.block _ (by rintro rfl; rw [hg] at hc; injection hc with hc; injection hc with _ hc; exact ht hc)
  refine ⟨⟨h.1.1, h.1.2.1, fun hn => ?_⟩, fun ad e => ?_⟩
  · obtain ⟨ad, e, hc⟩ := h.1.2.2 hn
    exact ⟨ad, e, fun j hj => (World.cell?_of_block (a := ad.add j) (by rw [show (ad.add j).block = ad.block by unfold Addr.add; split <;> rfl]; exact hk ad e)).trans (hc j hj)⟩
  · obtain ⟨e1, cs', hc⟩ := h.2 ad e
    exact ⟨e1, cs', (hk ad e).trans hc⟩
theorem take_snoc (rs : List Int) (k : Nat) (h : k < rs.length) : rs.take (k + 1) = rs.take k ++ [rs.getD k 0] := by
  rw [List.take_succ_eq_append_getElem h, List.getD_eq_getElem?_getD, List.getElem?_eq_getElem h]
  rfl
set_option maxHeartbeats 6400000 in
set_option maxRecDepth 100000 in
theorem nlay_loop (h : St w0 w pb mb cb (M.new 200)) {W0 : World} {br by_ bo : Nat} {Ar : Option Addr} {cr : Nat} {rs : List Int} (hrl : rs.length ≤ 40) (hr8 : ∀ r ∈ rs, 0 ≤ r ∧ r ≤ 255) (hR : U8 W0 Ar rs) (hB0 : Below W0.heap.size W0 w0) (hm0 : W0.heap.size ≤ mb) (hc0 : W0.heap.size ≤ cb)
    (k1 : w.heap[br]? = some (.cells #[.slice Ar rs.length cr] 44 (0, 0))) (k2 : w.heap[bo]? = some (.cells #[.bool true] 4 (0, 0))) (k3 : w.heap[by_]? = some (.cells (yardV mb 0 ⟨#[]⟩ 0 (.slice none 0 0) (.slice none 0 0) (.slice none 0 0)) 48 (0, 0)))
    (b1 : w0.heap.size ≤ by_) (b2 : w0.heap.size ≤ bo)  (b5 : by_ < w.heap.size) :
    Calls Try.prog 51 #[ptr pb, .pointer (some ⟨br, 0, none⟩), .pointer (some ⟨bo, 0, none⟩), .pointer (some ⟨by_, 0, none⟩)] w (LayEnd w0 pb mb cb by_ bo w.heap.size rs) := by
  have hsz := hB0.size
  have HR := Lib.hid hR
  have HB0 := Lib.hid hB0
  have HR8 := Lib.hid hr8
  have START := Lib.hid (show LayAt w0 pb mb cb br by_ bo Ar cr w.heap.size rs 0 (.int .i64 0) (.int .i64 0) w from ⟨M.new 200, 0, [], [], [], none, none, 0, 0, rfl, rfl, rfl, rfl, rfl, rfl, (fun x hx => by cases hx), ⟨rfl, by simp [prevs], new_shape 200 (by omega)⟩, h, k3, k2, k1, OwnI.nil _ _, OwnI.nil _ _, Nat.le_refl _⟩)
  clear h k1 k2 k3 hR hB0 hr8
  go_enter Try.func51, Try.ntmps51
  go_wp2_with fail
  go_loopw [6, 7, 8, 9] (fun v hh e i wr => e = .int .i64 0 ∧ ∃ k : Nat, k ≤ rs.length ∧ i = .int .i64 k ∧ LayAt w0 pb mb cb br by_ bo Ar cr w.heap.size rs k v hh wr) (fun _ _ _ i _ => rs.length - (intOf i).toNat)
  case atStart => exact ⟨rfl, 0, by omega, rfl, START.out⟩
  case round =>
    clear START
    obtain ⟨rfl, k, hk, rfl, m, z, l, vs, hs, A1, A2, c1, c2, hll, rfl, rfl, hvl0, hhl0, hvs, hdd, hrow, hS, ky, ko, kr, hO1, hO2, hsB⟩ := hrel
    have HVL := Lib.hid hvl0
    have HHL := Lib.hid hhl0
    have hvl : vs.length ≤ 40 := by rw [hvl0, List.length_map, hll]; omega
    have hhl : hs.length ≤ 40 := by rw [hhl0, List.length_map, hll]; omega
    clear hvl0 hhl0
    have r0 := box1 kr
    by_cases hlt : k < rs.length
    · have g1 : decide (k < rs.length) = true := decide_eq_true hlt
      have hU := HR.out.below ((hS.F.over HB0.out hsz hm0 hc0))
      obtain ⟨ad, ea, hcell⟩ := hU.2.2 (by omega)
      have hck := hcell k hlt
      have hrb := HR8.out (rs.getD k 0) (by rw [List.getD_eq_getElem?_getD, List.getElem?_eq_getElem hlt]; exact List.getElem_mem hlt)
      have hsn := take_snoc rs k hlt
      obtain ⟨r, hr⟩ : ∃ r, rs.getD k 0 = r := ⟨_, rfl⟩
      rw [hr] at hck hrb hsn
      have hvb := vsOf_bound (rs.take k) (fun q hq => HR8.out q (List.mem_of_mem_take hq))
      have hvb2 : ((rs.take k).length : Int) ≤ 40 := by rw [List.length_take]; omega
      obtain ⟨v, hv⟩ : ∃ v, (vsOf (rs.take k)).headD 0 = v := ⟨_, rfl⟩
      have hvn : vsOf (rs.take (k + 1)) = (v + 1 + r) :: vsOf (rs.take k) := by rw [hsn, vsOf_snoc, hv]
      rw [hv] at hvb ⊢
      have e1 : wrap64 (v + 1) = v + 1 := by unfold wrap64; omega
      have e2 : wrap64 (v + 1 + r) = v + 1 + r := by unfold wrap64; omega
      have HVN := Lib.hid hvn
      have HVS := Lib.hid hvs
      have HLL := Lib.hid hll
      subst ea
      clear hU hcell hr hsn hvn hvs hv hll
      go_wp2_with fail
      refine (tomb_calls (v + 1 + r) wr).mono ?_
      rintro e W1 ⟨rfl, hB1⟩
      have h1 := hS.below hB1
      obtain ⟨M1, M2, x1, x2, a1, a2, n1, n2, nn, w1, w2, w3, s2⟩ := lay_val hrow.S (by omega) (by omega) (v + 1 + r) true z
      have hrow2 : Row M2 x2 ((x2, ⟨v + 1 + r, true, x1⟩) :: l) 200 (2 * (k + 1)) 0 := hrow.lay n1 n2 nn w1 w2 w3 s2
      have HA1 := Lib.hid a1
      have HA2 := Lib.hid a2
      have HROW2 := Lib.hid hrow2
      clear a1 a2 n1 n2 nn w1 w2 w3 s2 hrow2 hrow hck r0
      go_wp2_with fail
      refine (lay_ok h1 (v + 1 + r) true z HA1.out HA2.out).mono ?_
      rintro e W2 ⟨rfl, h2, hF2⟩
      have ky2 := hF2.blk h1.A (blk_below ky hB1) (by decide) (by decide)
      have ko2 := hF2.blk h1.A (blk_below ko hB1) (by decide) (by decide)
      have kr2 := hF2.blk h1.A (blk_below kr hB1) (by decide) (by decide)
      have hP1 := (hO1.below hB1).fr h1.A hF2
      have hP2 := (hO2.below hB1).fr h1.A hF2
      have hs2 : w.heap.size ≤ W2.heap.size := Nat.le_trans hsB (Nat.le_trans hB1.size hF2.size)
      clear h1 hS hB1 hF2 ky ko kr hO1 hO2
      have o2 := box1 ko2
      have zo := blk_frozen ko2 0
      obtain ⟨W3, hW3⟩ : ∃ W3 : World, W3 = W2.setCell ⟨bo, 0, none⟩ (.bool true) := ⟨_, rfl⟩
      have ho := Only.set W2 ⟨bo, 0, none⟩ (.bool true)
      rw [← hW3] at ho
      have ko3 : W3.heap[bo]? = some (.cells #[.bool true] 4 (0, 0)) := hW3 ▸ blk_put ko2 0 (.bool true) rfl
      have ky3 := ho.blk ky2 ko2 (by decide)
      have kr3 := ho.blk kr2 ko2 (by decide)
      have h3 := h2.only ho ko2 (by decide) (by decide) (by decide) b2
      have hQ1 := hP1.only1 ho ko2 (by decide)
      have hQ2 := hP2.only1 ho ko2 (by decide)
      have hs3 : w.heap.size ≤ W3.heap.size := by rw [ho.size]; exact hs2
      have HW3 := Lib.hid hW3
      clear hW3 ho ko2 ky2 kr2 h2 hP1 hP2 hs2
      obtain ⟨us, hus⟩ : ∃ us, us = (v + 1 + r) :: vs := ⟨_, rfl⟩
      obtain ⟨gs, hgs⟩ : ∃ gs, gs = x2 :: hs := ⟨_, rfl⟩
      have HUS := Lib.hid hus
      have HGS := Lib.hid hgs
      clear hus hgs
      go_upto_region 9 with fail
      rw [← HW3.out]
      clear HW3 o2 zo
      obtain ⟨c0, c1', c2', c3, c4, c5, c6⟩ := box7 (blk_alloc ky3 (.cells #[.int .i64 (v + 1 + r)] 3))
      have hr1 := (hQ1.rd (by omega)).1
      go_wp2_with (at_builtin; refine prepend_I rfl _ _ rfl (v + 1 + r) A1 c1 vs hr1 rfl rfl (by omega) ?_)
      intro v4 W4 hO4 hB4
      have ky4 := blk_below ky3 hB4
      have ko4 := blk_below ko3 hB4
      have kr4 := blk_below kr3 hB4
      have h4 := h3.below hB4
      have hR2 := hQ2.below hB4
      have hs4 : w.heap.size ≤ W4.heap.size := Nat.le_trans hs3 hB4.size
      have hO4' : OwnI W4 w.heap.size v4 us := by rw [HUS.out]; exact hO4.lower_ hs3
      clear hO4 ky3 ko3 kr3 h3 hQ1 hQ2 hr1 c0 c1' c2' c3 c4 c5 c6 hB4
      obtain ⟨A4, c4, rfl⟩ := hO4'.slice
      have z5 := blk_frozen ky4 5
      obtain ⟨c0, c1', c2', c3, c4', c5, c6⟩ := box7 ky4
      obtain ⟨W5, hW5⟩ : ∃ W5 : World, W5 = W4.setCell ⟨by_, 5, none⟩ (.slice A4 us.length c4) := ⟨_, rfl⟩
      have ho := Only.set W4 ⟨by_, 5, none⟩ (.slice A4 us.length c4)
      rw [← hW5] at ho
      have ky5 : W5.heap[by_]? = some (.cells (yardV mb 0 ⟨#[]⟩ 0 (.slice none 0 0) (.slice A4 us.length c4) (.slice A2 hs.length c2)) 48 (0, 0)) := hW5 ▸ blk_put ky4 5 _ rfl
      have ko5 := ho.blk ko4 ky4 (by decide)
      have kr5 := ho.blk kr4 ky4 (by decide)
      have h5 := h4.only ho ky4 (by decide) (by decide) (by decide) b1
      have hQ1 := hO4'.only1 ho ky4 (by decide)
      have hQ2 := hR2.only1 ho ky4 (by decide)
      have hs5 : w.heap.size ≤ W5.heap.size := by rw [ho.size]; exact hs4
      have HW5 := Lib.hid hW5
      clear hW5 ho ko4 ky4 kr4 h4 hO4' hR2 hs4
      go_upto_region 10 with fail
      rw [← HW5.out]
      clear HW5 z5 c0 c1' c2' c3 c4' c5 c6
      obtain ⟨c0, c1', c2', c3, c4', c5, c6⟩ := box7 (blk_alloc ky5 (.cells #[.int .i64 x2] 3))
      have hr1 := (hQ2.rd (by omega)).1
      go_wp2_with (at_builtin; refine prepend_I rfl _ _ rfl x2 A2 c2 hs hr1 rfl rfl (by omega) ?_)
      intro v6 W6 hO6 hB6
      have ky6 := blk_below ky5 hB6
      have ko6 := blk_below ko5 hB6
      have kr6 := blk_below kr5 hB6
      have h6 := h5.below hB6
      have hR1 := hQ1.below hB6
      have hs6 : w.heap.size ≤ W6.heap.size := Nat.le_trans hs5 hB6.size
      have hO6' : OwnI W6 w.heap.size v6 gs := by rw [HGS.out]; exact hO6.lower_ hs5
      clear hO6 ky5 ko5 kr5 h5 hQ1 hQ2 hr1 c0 c1' c2' c3 c4' c5 c6 hB6
      obtain ⟨A6, c6', rfl⟩ := hO6'.slice
      have z6 := blk_frozen ky6 6
      obtain ⟨c0, c1', c2', c3, c4', c5, c6⟩ := box7 ky6
      have ho := Only.set W6 ⟨by_, 6, none⟩ (.slice A6 gs.length c6')
      have ky7 := blk_put ky6 6 (.slice A6 gs.length c6') rfl
      have ko7 := ho.blk ko6 ky6 (by decide)
      have kr7 := ho.blk kr6 ky6 (by decide)
      have h7 := h6.only ho ky6 (by decide) (by decide) (by decide) b1
      have hQ1 := hR1.only1 ho ky6 (by decide)
      have hQ2 := hO6'.only1 ho ky6 (by decide)
      have hs7 := ho.size
      have FIN := Lib.hid (show LayAt w0 pb mb cb br by_ bo (some ad) cr w.heap.size rs (k + 1) (.int .i64 (v + 1 + r)) (.int .i64 x2) _ from ⟨M2, x2, (x2, ⟨v + 1 + r, true, x1⟩) :: l, us, gs, A4, A6, c4, c6', by simp [HLL.out], by rw [HVN.out]; rfl, rfl, by rw [HUS.out, HVL.out]; rfl, by rw [HGS.out, HHL.out]; rfl, by rw [HUS.out, HVN.out, HVS.out], (fun q hq => by
        rcases List.mem_cons.1 hq with e | hq
        · rw [e]
        · exact hdd q hq), HROW2.out, h7, ky7, ko7, kr7, hQ1, hQ2, by rw [hs7]; exact hs6⟩)
      clear ho ky7 ko7 kr7 h7 hQ1 hQ2 ky6 ko6 kr6 h6 hR1 hO6' hs7
      go_wp2_with fail
      go_roundw
      case rel => exact ⟨by first | rfl | trivial, k + 1, by omega, by go_num, FIN.out⟩
      case measure => simp [intOf]; omega
    · obtain rfl : k = rs.length := by omega
      have g1 : decide (rs.length < rs.length) = false := decide_eq_false (by omega)
      rw [List.take_length] at hvs ⊢
      have HVS := Lib.hid hvs
      have HLL := Lib.hid hll
      -- memory behind Make
      obtain ⟨M1, us, ea, lu, s1, du, f1, w1, r1⟩ := allocs_room (by omega) [z, 5, 6] m [] _ hrow.S (by simp; omega)
      obtain ⟨t0, t1, t2, rfl⟩ : ∃ t0 t1 t2, us = [t0, t1, t2] := by
        match us, lu with
        | [a, b, c], _ => exact ⟨a, b, c, rfl⟩
      have hkp : ∀ y u, m.val y = some u → y ∉ [t0, t1, t2] := fun y u hy hm => by have := f1 y hm; rw [hy] at this; cases this
      have hrow1 : Row M1 z l 200 (2 * rs.length + 3) 0 := ⟨hrow.C.keep fun q hq => by
        obtain ⟨a1, y, a2⟩ := hrow.C.age q hq
        exact ⟨r1 _ (hkp _ _ a1), r1 _ (hkp _ _ a2)⟩, hrow.nd, s1⟩
      have hnp : ∀ t, t ∈ [t0, t1, t2] → t ∉ prevs l := fun t ht hm => by
        obtain ⟨q, hq, e⟩ := List.mem_map.1 hm
        obtain ⟨_, y, a2⟩ := hrow.C.age q hq
        have e' : q.2.prev = t := e
        rw [e'] at a2
        exact hkp _ _ a2 ht
      have v0 : M1.val t0 = some (number z) := w1 0 (by simp)
      have v1 : M1.val t1 = some (number 5) := w1 1 (by simp)
      have v2 : M1.val t2 = some (number 6) := w1 2 (by simp)
      have n0 := hnp t0 (by simp)
      have dd01 : t0 ≠ t1 ∧ t0 ≠ t2 := by simpa using (List.nodup_cons.1 du).1
      have n1 := hnp t1 (by simp)
      have n2 := hnp t2 (by simp)
      have HEA := Lib.hid ea
      have HROW1 := Lib.hid hrow1
      clear hvs hll ea lu s1 du f1 w1 r1 hkp hrow1 hnp hrow
      obtain ⟨W1, hW1⟩ : ∃ W1 : World, W1 = wr.alloc (.cells #[.int .i64 5, .int .i64 6] 3) := ⟨_, rfl⟩
      have hb1 : Below wr.heap.size wr W1 := hW1 ▸ below_alloc (Below.refl _ _) _
      have hc : W1.heap[wr.heap.size]? = some (.cells #[.int .i64 5, .int .i64 6] 3 (0, 0)) := hW1 ▸ blk_new _ _
      have hr : RdT W1 (some ⟨wr.heap.size, 0, none⟩) [5, 6] := ⟨⟨rfl, by simp, fun _ => ⟨_, rfl, fun j hj => by
        rw [Addr.add_lit, Nat.zero_add]
        have hj' : j < 2 := hj
        rcases (show j = 0 ∨ j = 1 by omega) with rfl | rfl
        · exact (blk_cell hc 0).trans rfl
        · exact (blk_cell hc 1).trans rfl⟩⟩, fun ad e => by injection e with e; subst e; exact ⟨rfl, _, hc⟩⟩
      have h1 := hS.below hb1
      have ky1 := blk_below ky hb1
      have ko1 := blk_below ko hb1
      have hP1 := hO1.below hb1
      have hP2 := hO2.below hb1
      have hmk := make_calls (c := 2) h1 ⟨#[107]⟩ z hr (by simp)
      have HMK := Lib.hid hmk
      have HW1 := Lib.hid hW1
      clear hmk hW1 hb1 hc hr hS ky ko kr hO1 hO2
      go_wp2_with fail
      rw [← HW1.out]
      clear HW1
      refine HMK.out.mono ?_
      rw [HEA.out]
      rintro e W2 ⟨hF2, ⟨hne, _, _⟩ | ⟨_, t0', rest, AN, kN, hts, hrl2, hRN, -, M2, H, e2, hal, hcase⟩⟩
      · exact absurd rfl hne
      simp only [List.nil_append] at hts
      injection hts with ht0 hts
      subst ht0 hts
      obtain ⟨M2', H', ea2, nH, tH, sH⟩ := alloc_val HROW1.out.S (by omega) (by omega) 46 (Nd.v ⟨⟨#[107]⟩, t0, AN, 2, kN⟩)
      have hal' : M1.alloc (.iface 46 (Nd.v ⟨⟨#[107]⟩, t0, AN, 2, kN⟩)) = (M2, H, e2) := hal
      rw [ea2] at hal'
      injection hal' with q1 q2
      injection q2 with q2 q3
      subst q1 q2 q3
      rcases hcase with ⟨_, rfl, h2⟩ | ⟨hne, _, _⟩
      rotate_left
      · exact absurd rfl hne
      have hkp : ∀ y u, M1.val y = some u → M2'.val y = some u := fun y u hy => (tH.other y (by rintro rfl; rw [nH] at hy; cases hy)).trans hy
      have hrow2 : Row M2' z l 200 (2 * rs.length + 4) 0 := ⟨HROW1.out.C.keep fun q hq => by
        obtain ⟨a1, y, a2⟩ := HROW1.out.C.age q hq
        exact ⟨(hkp _ _ a1).trans a1.symm, (hkp _ _ a2).trans a2.symm⟩, HROW1.out.nd, sH⟩
      have hnode : NodeAt M2' H' z ⟨#[107]⟩ t0 t1 t2 AN kN l := ⟨tH.self, hkp _ _ v0, hkp _ _ v1, hkp _ _ v2, n0, n1, n2, dd01⟩
      have HROW2 := Lib.hid hrow2
      have HNODE := Lib.hid hnode
      clear hrow2 hnode hkp v0 v1 v2 n0 n1 n2 dd01 nH tH sH ea2 hal HROW1
      have ky2 := hF2.blk h1.A ky1 (by decide) (by decide)
      have ko2 := hF2.blk h1.A ko1 (by decide) (by decide)
      have hQ1 := hP1.fr h1.A hF2
      have hQ2 := hP2.fr h1.A hF2
      clear h1 ky1 ko1 hP1 hP2 hF2 HMK HEA
      have z1 := blk_frozen ky2 1
      obtain ⟨c0, c1', c2', c3, c4, c5, c6⟩ := box7 ky2
      obtain ⟨W3, hW3⟩ : ∃ W3 : World, W3 = W2.setCell ⟨by_, 1, none⟩ (.int .i64 H') := ⟨_, rfl⟩
      have ho := Only.set W2 ⟨by_, 1, none⟩ (.int .i64 H')
      rw [← hW3] at ho
      have ky3 : W3.heap[by_]? = some (.cells (yardV mb H' ⟨#[]⟩ 0 (.slice none 0 0) (.slice A1 vs.length c1) (.slice A2 hs.length c2)) 48 (0, 0)) := hW3 ▸ blk_put ky2 1 _ rfl
      have ko3 := ho.blk ko2 ky2 (by decide)
      have h3 := h2.only ho ky2 (by decide) (by decide) (by decide) b1
      have hR1 := hQ1.only1 ho ky2 (by decide)
      have hR2 := hQ2.only1 ho ky2 (by decide)
      have hRN3 := hRN.only1 ho ky2 (by decide)
      have HW3 := Lib.hid hW3
      clear hW3 ho ky2 ko2 h2 hQ1 hQ2 hRN
      go_upto_region 12 with fail
      rw [← HW3.out]
      clear HW3 z1 c0 c1' c2' c3 c4 c5 c6
      obtain ⟨c0, c1', c2', c3, c4, c5, c6⟩ := box7 ky3
      have HL := Lib.hid (nload_ok h3 HNODE.out.H_)
      go_wp2_with fail
      refine HL.out.mono ?_
      rintro e W4 ⟨rfl, h4, hF4⟩
      have ky4 := hF4.blk h3.A ky3 (by decide) (by decide)
      have ko4 := hF4.blk h3.A ko3 (by decide) (by decide)
      have hQ1 := hR1.fr h3.A hF4
      have hQ2 := hR2.fr h3.A hF4
      have hQN := hRN3.fr h3.A hF4
      clear h3 ky3 ko3 hR1 hR2 hRN3 hF4 HL c0 c1' c2' c3 c4 c5 c6
      obtain ⟨W5, hW5⟩ : ∃ W5 : World, W5 = W4.alloc (nodC ⟨⟨#[107]⟩, t0, AN, 2, kN⟩) := ⟨_, rfl⟩
      have hb5 : Below W4.heap.size W4 W5 := hW5 ▸ below_alloc (Below.refl _ _) _
      obtain ⟨d0, d1, d2⟩ := box3 (show W5.heap[W4.heap.size]? = some (.cells #[.string ⟨#[107]⟩, .int .i64 t0, .slice AN 2 kN] 46 (0, 0)) from hW5 ▸ blk_new _ _)
      have h5 := h4.below hb5
      have ky5 := blk_below ky4 hb5
      have ko5 := blk_below ko4 hb5
      have hR1 := hQ1.below hb5
      have hR2 := hQ2.below hb5
      have hRN := hQN.below hb5
      have HW5 := Lib.hid hW5
      clear hW5 hb5 h4 ky4 ko4 hQ1 hQ2 hQN
      go_upto_region 13 with fail
      rw [← HW5.out]
      clear HW5
      have z2 := blk_frozen ky5 2
      have z3 := blk_frozen ky5 3
      have z4 := blk_frozen ky5 4
      obtain ⟨c0, c1', c2', c3, c4, c5, c6⟩ := box7 ky5
      obtain ⟨W6, hW6⟩ : ∃ W6 : World, W6 = ((W5.setCell ⟨by_, 2, none⟩ (.string ⟨#[107]⟩)).setCell ⟨by_, 3, none⟩ (.int .i64 t0)).setCell ⟨by_, 4, none⟩ (.slice AN 2 kN) := ⟨_, rfl⟩
      have ho := ((Only.set W5 ⟨by_, 2, none⟩ (.string ⟨#[107]⟩)).trans (Only.set _ ⟨by_, 3, none⟩ (.int .i64 t0))).trans (Only.set _ ⟨by_, 4, none⟩ (.slice AN 2 kN))
      rw [← hW6] at ho
      have ky6 : W6.heap[by_]? = some (.cells (yardV mb H' ⟨#[107]⟩ t0 (.slice AN 2 kN) (.slice A1 vs.length c1) (.slice A2 hs.length c2)) 48 (0, 0)) := by
        have e1 : (W5.setCell ⟨by_, 2, none⟩ (.string ⟨#[107]⟩)).heap[by_]? = some (.cells (yardV mb H' ⟨#[107]⟩ 0 (.slice none 0 0) (.slice A1 vs.length c1) (.slice A2 hs.length c2)) 48 (0, 0)) := blk_put ky5 2 _ rfl
        have e2 : ((W5.setCell ⟨by_, 2, none⟩ (.string ⟨#[107]⟩)).setCell ⟨by_, 3, none⟩ (.int .i64 t0)).heap[by_]? = some (.cells (yardV mb H' ⟨#[107]⟩ t0 (.slice none 0 0) (.slice A1 vs.length c1) (.slice A2 hs.length c2)) 48 (0, 0)) := blk_put e1 3 _ rfl
        rw [hW6]
        exact blk_put e2 4 _ rfl
      have ko6 := ho.blk ko5 ky5 (by decide)
      have h6 := h5.only ho ky5 (by decide) (by decide) (by decide) b1
      have hQ1 := hR1.only1 ho ky5 (by decide)
      have hQ2 := hR2.only1 ho ky5 (by decide)
      have hQN := hRN.only1 ho ky5 (by decide)
      have HW6 := Lib.hid hW6
      clear hW6 ho ky5 ko5 h5 hR1 hR2 hRN
      go_upto_region 14 with fail
      rw [← HW6.out]
      clear HW6 d0 d1 d2 z2 z3 z4 c0 c1' c2' c3 c4 c5 c6
      have o2 := box1 ko6
      have zo := blk_frozen ko6 0
      have ho := Only.set W6 ⟨bo, 0, none⟩ (.bool true)
      have ko7 := blk_put ko6 0 (.bool true) rfl
      have ky7 := ho.blk ky6 ko6 (by decide)
      have h7 := h6.only ho ko6 (by decide) (by decide) (by decide) b2
      have hR1 := hQ1.only1 ho ko6 (by decide)
      have hR2 := hQ2.only1 ho ko6 (by decide)
      have hRN := hQN.only1 ho ko6 (by decide)
      have hrowt : Row M2'.tick z l 200 (2 * rs.length + 4) 0 := ⟨HROW2.out.C.cells rfl, HROW2.out.nd, HROW2.out.S.tick⟩
      have hnt : NodeAt M2'.tick H' z ⟨#[107]⟩ t0 t1 t2 AN kN l := ⟨(tick_val _ _).trans HNODE.out.H_, (tick_val _ _).trans HNODE.out.w0, (tick_val _ _).trans HNODE.out.w1, (tick_val _ _).trans HNODE.out.w2, HNODE.out.n0, HNODE.out.n1, HNODE.out.n2, HNODE.out.d⟩
      have FIN := Lib.hid (show LayEnd w0 pb mb cb by_ bo w.heap.size rs (.returned .nilIface) _ from ⟨rfl, M2'.tick, z, H', t0, t1, t2, l, vs, hs, A1, A2, AN, c1, c2, kN, HVL.out, HHL.out, HVS.out, hdd, HLL.out, hrowt, hnt, h7, ky7, ko7, hR1, hR2, hRN⟩)
      clear ho ko7 ky7 h7 hR1 hR2 hRN ko6 ky6 h6 hQ1 hQ2 hQN hrowt hnt
      go_wp2_with fail
      go_ret
      exact FIN.out
end
end Go.Proofs.Ytcfbjcadpcedhaa.Mem
