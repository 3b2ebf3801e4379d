/- Chains of ages in memory: what Fell takes. -/
import Derived.Test.YtcfbjcadpcedhaaNode5
namespace Go.Proofs.Ytcfbjcadpcedhaa.Mem
open Go.RowKit Go.Proofs.YtcfbjcadpcedhaaW.PrintWords Go.Proofs.YtcfbjcadpcedhaaW.PrintLast Go.Proofs.Ytcfbjcadpcedhaa.Tags
set_option linter.unusedVariables false
set_option linter.unusedSimpArgs false
section
variable {w0 w w' : World} {pb mb cb : Nat} {m m' : M}
theorem val_ne {x y : Int} {u v : Value} (h1 : m.val x = some u) (h2 : m.val y = some v) (hne : u ≠ v) : x ≠ y := by
  rintro rfl
  rw [h1] at h2
  injection h2 with h2
  exact hne h2
theorem number_ne {z : Int} {T : TypeId} {u : Value} (hT : T ≠ 117) : number z ≠ .iface T u := by
  intro e
  injection e with e
  exact hT e.symm
/-- A chain of ages, from a handle on. -/
def Chain (m : M) : Int → List (Int × Ag) → Prop
  | h, [] => h = 0
  | h, x :: l => h = x.1 ∧ h ≠ 0 ∧ m.val h = some (.iface 52 x.2.v) ∧ ∃ z, m.val x.2.prev = some (number z) ∧ Chain m z l
def prevs (l : List (Int × Ag)) : List Int := l.map fun x => x.2.prev
/-- What is told of a chain: handles, and the cells of their words. -/
def cellsOf : List (Int × Ag) → List Int
  | [] => []
  | x :: l => x.1 :: x.2.prev :: cellsOf l
theorem cellsOf_len : ∀ l : List (Int × Ag), (cellsOf l).length = 2 * l.length
  | [] => rfl
  | x :: l => by
    show (cellsOf l).length + 1 + 1 = 2 * (l.length + 1)
    rw [cellsOf_len l]
    omega
theorem cellsOf_app : ∀ (a b : List (Int × Ag)), cellsOf (a ++ b) = cellsOf a ++ cellsOf b
  | [], b => rfl
  | x :: a, b => by
    show x.1 :: x.2.prev :: cellsOf (a ++ b) = x.1 :: x.2.prev :: (cellsOf a ++ cellsOf b)
    rw [cellsOf_app a b]
/-- Some words have become 0, all else is as it was. -/
structure Zeroed (m m' : M) (ps : List Int) : Prop where
  zero : ∀ y, y ∈ ps → m'.val y = some (number 0)
  other : ∀ y, y ∉ ps → m'.val y = m.val y
theorem Chain.keep : ∀ {h : Int} {l : List (Int × Ag)}, Chain m h l → (∀ x ∈ l, m'.val x.1 = m.val x.1 ∧ m'.val x.2.prev = m.val x.2.prev) → Chain m' h l
  | h, [], hc, _ => hc
  | h, x :: l, hc, hk => by
    obtain ⟨e, h1, h2, z, h3, h4⟩ := hc
    have hx := hk x List.mem_cons_self
    refine ⟨e, h1, ?_, z, hx.2.trans h3, h4.keep fun y hy => hk y (List.mem_cons_of_mem _ hy)⟩
    rw [e] at h2 ⊢
    exact hx.1.trans h2
theorem Chain.cells {h : Int} {l : List (Int × Ag)} (hc : Chain m h l) (e : m'.cells = m.cells) : Chain m' h l := hc.keep fun x _ => ⟨val_cells e _, val_cells e _⟩
theorem Chain.age : ∀ {h : Int} {l : List (Int × Ag)}, Chain m h l → ∀ x ∈ l, m.val x.1 = some (.iface 52 x.2.v) ∧ ∃ z, m.val x.2.prev = some (number z)
  | h, [], _, x, hx => by cases hx
  | h, y :: l, hc, x, hx => by
    obtain ⟨e, h1, h2, z, h3, h4⟩ := hc
    rcases List.mem_cons.1 hx with rfl | hx
    · exact ⟨e ▸ h2, z, h3⟩
    · exact h4.age x hx
/-- Two values appended to a list of whole numbers of one's own. -/
theorem append_I2 {ops : Array Oper} {rest : List Oper} {o : Oper} {a : Go.Act} {Q : Exit → Go.Act → World → Prop} {W : World} (hgd : o.guard = none) (s x : Operand) (ho : o.op = .call { callee := .builtin .append, args := #[s, x], argTypes := #[32, 32] }) (base : Nat) (v : Value) (xs : List Int) (y z : Int) (hO : OwnI W base v xs)
    (hs : a.eval s = v) (hx : a.eval x = .slice (some ⟨W.heap.size, 0, none⟩) 2 2) (hbase : base ≤ W.heap.size) (hl : xs.length ≤ 1000000)
    (h : ∀ v1 w1, OwnI w1 base v1 (xs ++ [y, z]) → W.grownBy w1 v.ownBlock → wpList Try.prog ops Q rest (a.put o.dst v1) w1) :
    wpList Try.prog ops Q (o :: rest) a (W.alloc (.cells #[.int .i64 y, .int .i64 z] 3)) := by
  have hO1 := hO.alloc (.cells #[.int .i64 y, .int .i64 z] 3)
  have hk := blk_new W (.cells #[.int .i64 y, .int .i64 z] 3)
  have hR : Rd (W.alloc (.cells #[.int .i64 y, .int .i64 z] 3)) (some ⟨W.heap.size, 0, none⟩) [y, z] := ⟨rfl, by simp, fun _ => ⟨_, rfl, fun j hj => by
    rw [Addr.add_lit, Nat.zero_add]
    have hj' : j < 2 := hj
    rcases (show j = 0 ∨ j = 1 by omega) with rfl | rfl
    · exact (blk_cell hk 0).trans rfl
    · exact (blk_cell hk 1).trans rfl⟩⟩
  refine print_append_row (w0 := W.alloc (.cells #[.int .i64 y, .int .i64 z] 3)) base hgd s x 32 3 .i64 8 ho Try.underlying32 int_info (by decide) v xs [y, z] (some ⟨W.heap.size, 0, none⟩) 2 2 hs hx hO1 hR (Below.refl _ _) (by simp; omega) (by omega) ?_
  intro v1 w1 hown _ hg _
  refine h v1 w1 ?_ (World.grownBy.trans (World.grownBy_alloc W _ _) hg)
  unfold OwnI
  exact hown
def lenV : Value → Nat
  | .slice _ n _ => n
  | _ => 0
/-- What Fell comes to. -/
def FellIn (w0 w : World) (pb mb cb : Nat) (m : M) (n k : Nat) (g : Int) (l : List (Int × Ag)) (e : Ending) (w' : World) : Prop :=
  ∃ A c m', e = .returned (.tuple #[.slice A (2 * l.length) c, .int .i64 0]) ∧ OwnI w' w.heap.size (.slice A (cellsOf l).length c) (cellsOf l) ∧ Zeroed m m' (prevs l) ∧ Shape m' n k g ∧ St w0 w' pb mb cb m' ∧ Fr w w' mb cb
set_option maxHeartbeats 6400000 in
set_option maxRecDepth 100000 in
theorem fell_calls (h : St w0 w pb mb cb m) {n k : Nat} {g : Int} (hs : Shape m n k g) {at_ : Int} {l : List (Int × Ag)} (hc : Chain m at_ l) (hnd : (prevs l).Nodup) (hl : l.length ≤ 1000) :
    Calls Try.prog 30 #[ptr pb, .int .i64 at_] w (FellIn w0 w pb mb cb m n k g l) := by
  have hw0 : w0.heap.size ≤ w.heap.size := h.F.size
  have HND := Lib.hid hnd
  have START := Lib.hid (show ∃ (l1 l2 : List (Int × Ag)) (m1 : M) (z : Int), l = l1 ++ l2 ∧ Value.int .i64 at_ = .int .i64 z ∧ Chain m1 z l2 ∧ Zeroed m m1 (prevs l1) ∧ Shape m1 n k g ∧ OwnI w w.heap.size (.slice none 0 0) (cellsOf l1) ∧ St w0 w pb mb cb m1 ∧ Fr w w mb cb from ⟨[], l, m, at_, rfl, rfl, hc, ⟨fun y hy => by simp [prevs] at hy, fun _ _ => rfl⟩, hs, OwnI.nil _ _, h, Fr.refl _ _ _⟩)
  clear hc hnd hs h
  go_enter Try.func30, Try.ntmps30
  go_wp2_with fail
  go_loopw [1, 6] (fun hh v wr => ∃ (l1 l2 : List (Int × Ag)) (m1 : M) (z : Int), l = l1 ++ l2 ∧ hh = .int .i64 z ∧ Chain m1 z l2 ∧ Zeroed m m1 (prevs l1) ∧ Shape m1 n k g ∧ OwnI wr w.heap.size v (cellsOf l1) ∧ St w0 wr pb mb cb m1 ∧ Fr w wr mb cb) (fun _ v _ => 2 * l.length - lenV v)
  case atStart => exact START.out
  case round =>
    clear START
    obtain ⟨l1, l2, m1, z, hll, rfl, hc, hz, hs, hO, hS, hF⟩ := hrel
    obtain ⟨A, c, rfl⟩ := hO.slice
    have hcl := cellsOf_len l1
    have HLL := Lib.hid hll
    have HCL := Lib.hid hcl
    have hlen : l.length = l1.length + l2.length := by rw [hll, List.length_append]
    have HLEN := Lib.hid hlen
    clear hll hcl hlen
    cases l2 with
    | nil =>
      obtain rfl : z = 0 := hc
      have hL1 : l1 = l := by rw [HLL.out, List.append_nil]
      subst hL1
      have FIN := Lib.hid (show FellIn w0 w pb mb cb m n k g l1 (.returned (.tuple #[.slice A (cellsOf l1).length c, .int .i64 0])) wr from ⟨A, c, m1, by rw [HCL.out], hO, hz, hs, hS, hF⟩)
      clear hz hs hO hS hF
      go_wp2_with fail
      go_ret2
      exact FIN.out
    | cons x l2 =>
      obtain ⟨he, hz0, hv, y, hy, hc2⟩ := hc
      obtain ⟨xh, xa⟩ := x
      simp only at he hv hy
      subst he
      have g1 : (z == 0) = false := by simpa using hz0
      have HZ0 := Lib.hid hz0
      have HT := Lib.hid (take_ok hS hv)
      have hs1 := hF.size
      have hnp : xa.prev ∉ prevs l1 ∧ xa.prev ∉ prevs l2 ∧ (∀ q ∈ prevs l2, q ≠ xa.prev) := by
        have := HND.out
        rw [HLL.out] at this
        unfold prevs at this ⊢
        rw [List.map_append, List.map_cons, List.nodup_append] at this
        obtain ⟨_, h2, h3⟩ := this
        have h2' := List.nodup_cons.1 h2
        exact ⟨fun hm => h3 _ hm _ List.mem_cons_self rfl, h2'.1, fun q hq e => h2'.1 (e ▸ hq)⟩
      go_wp2_with fail
      refine HT.out.mono ?_
      rintro e W1 ⟨rfl, h1, hF1⟩
      have hO1 := hO.fr hS.A hF1
      obtain ⟨W2, hW2⟩ : ∃ W2 : World, W2 = W1.alloc (ageC xa) := ⟨_, rfl⟩
      have hb2 : Below W1.heap.size W1 W2 := hW2 ▸ below_alloc (Below.refl _ _) _
      have hk2 : W2.heap[W1.heap.size]? = some (.cells #[.int .i64 xa.ver, .int .i64 0, .string ⟨#[]⟩, .string ⟨#[]⟩, .bool false, .bool xa.dead, .slice none 0 0, .slice none 0 0, .slice none 0 0, .slice none 0 0, .int .i64 xa.prev] 52 (0, 0)) := hW2 ▸ blk_new _ _
      obtain ⟨k0, k1, k2, k3, k4, k5, k6, k7, k8, k9, k10⟩ := box11 hk2
      have h2 := h1.below hb2
      have hO2 := hO1.below hb2
      have HF2 := Lib.hid ((hF.trans hF1).trans (Fr.of_below hb2 mb cb))
      have hs2 : w.heap.size ≤ W2.heap.size := HF2.out.size
      have HW2 := Lib.hid hW2
      have HS := Lib.hid hs
      have HHZ := Lib.hid hz
      have HK2 := Lib.hid hk2
      clear hW2 hb2 h1 hF hF1 hS hO hO1 HT hs hz hk2
      go_upto_region 4 with fail
      rw [← HW2.out]
      clear HW2
      go_wp2_with (at_builtin; refine append_I2 rfl _ _ rfl w.heap.size _ (cellsOf l1) z xa.prev hO2 rfl rfl hs2 (by have := HCL.out; have := HLEN.out; simp only [List.length_cons] at this; omega) ?_)
      intro v1 w6 hO6 hg6
      have hk6 := blk_grown HK2.out hg6 (hO2.ne HK2.out (by decide))
      obtain ⟨k0, k1, k2, k3, k4, k5, k6, k7, k8, k9, k10⟩ := box11 hk6
      have h6 := h2.grown hO2 hw0 hg6
      have HF6 := Lib.hid (HF2.out.grown hO2 (Nat.le_refl _) hg6)
      clear hg6 h2 hO2
      have hy6 : m1.tick.val xa.prev = some (number y) := (tick_val m1 _).trans hy
      by_cases hy0 : y = 0
      · subst hy0
        obtain rfl : l2 = [] := by
          cases l2 with
          | nil => rfl
          | cons q l2 => exact absurd rfl hc2.2.1
        have hz' : Zeroed m m1.tick.tick (prevs (l1 ++ [(z, xa)])) := by
          refine ⟨fun q hq => ?_, fun q hq => ?_⟩
          · unfold prevs at hq
            rw [List.map_append] at hq
            rcases List.mem_append.1 hq with hq | hq
            · exact ((tick_val m1.tick q).trans (tick_val m1 q)).trans (HHZ.out.zero q hq)
            · obtain rfl := List.mem_singleton.1 hq
              exact (tick_val m1.tick _).trans hy6
          · have hq' : q ∉ prevs l1 := fun hm => hq (by unfold prevs; rw [List.map_append]; exact List.mem_append_left _ hm)
            exact ((tick_val m1.tick q).trans (tick_val m1 q)).trans (HHZ.out.other q hq')
        have HZ' := Lib.hid hz'
        clear hz'
        go_wp2_with fail
        refine (taken_zero h6 hy6).mono ?_
        rintro e W7 ⟨rfl, h7, hF7⟩
        have hO7 := hO6.fr h6.A hF7
        have HF7 := Lib.hid (HF6.out.trans hF7)
        obtain ⟨A7, c7, rfl⟩ := hO7.slice
        have hmeas : 2 * l.length - ((cellsOf l1).length + 2) < 2 * l.length - (cellsOf l1).length := by have := HCL.out; have := HLEN.out; simp only [List.length_cons] at this; omega
        clear hF7 h6 hO6
        go_wp2_with fail
        go_roundw
        case rel => exact ⟨l1 ++ [(z, xa)], [], m1.tick.tick, 0, by rw [HLL.out]; simp, rfl, rfl, HZ'.out, HS.out.tick.tick, by rw [cellsOf_app]; have h9 := hO7; rw [List.length_append] at h9; exact h9, h7, HF7.out⟩
        case measure => simpa [lenV] using hmeas
      · obtain ⟨M2, e2, t2, s2⟩ := swap_val HS.out.tick.tick ((tick_val m1.tick _).trans hy6) 0
        have hz' : Zeroed m M2 (prevs (l1 ++ [(z, xa)])) := by
          refine ⟨fun q hq => ?_, fun q hq => ?_⟩
          · unfold prevs at hq
            rw [List.map_append] at hq
            rcases List.mem_append.1 hq with hq | hq
            · rw [t2.other q (fun e => hnp.1 (e ▸ hq))]
              exact ((tick_val m1.tick q).trans (tick_val m1 q)).trans (HHZ.out.zero q hq)
            · obtain rfl := List.mem_singleton.1 hq
              exact t2.self
          · have hq' : q ∉ prevs l1 := fun hm => hq (by unfold prevs; rw [List.map_append]; exact List.mem_append_left _ hm)
            have hq2 : q ≠ xa.prev := fun e => hq (by unfold prevs; rw [List.map_append]; exact List.mem_append_right _ (by rw [e]; simp))
            rw [t2.other q hq2]
            exact ((tick_val m1.tick q).trans (tick_val m1 q)).trans (HHZ.out.other q hq')
        have hc3 : Chain M2 y l2 := hc2.keep fun q hq => by
          obtain ⟨a1, a2⟩ := hc2.age q hq
          have n1 : q.1 ≠ xa.prev := Ne.symm (val_ne hy a1 (number_ne (by decide)))
          have n2 : q.2.prev ≠ xa.prev := hnp.2.2 _ (List.mem_map_of_mem hq)
          exact ⟨(t2.other _ n1).trans ((tick_val m1.tick _).trans (tick_val m1 _)), (t2.other _ n2).trans ((tick_val m1.tick _).trans (tick_val m1 _))⟩
        have HZ' := Lib.hid hz'
        have HC3 := Lib.hid hc3
        have HE2 := Lib.hid e2
        clear hz' hc3 e2 hc2
        go_wp2_with fail
        refine (taken_some h6 hy6 hy0 HE2.out).mono ?_
        rintro e W7 ⟨rfl, h7, hF7⟩
        have hO7 := hO6.fr h6.A hF7
        have HF7 := Lib.hid (HF6.out.trans hF7)
        obtain ⟨A7, c7, rfl⟩ := hO7.slice
        have hmeas : 2 * l.length - ((cellsOf l1).length + 2) < 2 * l.length - (cellsOf l1).length := by have := HCL.out; have := HLEN.out; simp only [List.length_cons] at this; omega
        clear hF7 h6 hO6
        go_wp2_with fail
        go_roundw
        case rel => exact ⟨l1 ++ [(z, xa)], l2, M2, y, by rw [HLL.out]; simp, rfl, HC3.out, HZ'.out, s2, by rw [cellsOf_app]; have h9 := hO7; rw [List.length_append] at h9; exact h9, h7, HF7.out⟩
        case measure => simpa [lenV] using hmeas
set_option maxHeartbeats 3200000 in
set_option maxRecDepth 100000 in
/-- What is no age is not felled. -/
theorem fell_no (h : St w0 w pb mb cb m) {x : Int} (hx : x ≠ 0) {e1 : Int} {M1 : M} (he : e1 ≠ 0) (hc : Calls Try.prog 27 #[ptr pb, .int .i64 x] w (Endp w0 w pb mb cb (.tuple #[Ag.z.v, .int .i64 e1]) M1)) :
    Calls Try.prog 30 #[ptr pb, .int .i64 x] w (Endp w0 w pb mb cb (.tuple #[.slice none 0 0, .int .i64 e1]) M1) := by
  have HC := Lib.hid hc
  have g0 : (x == 0) = false := by simpa using hx
  have g1 : (e1 != 0) = true := by simpa using he
  clear hc
  go_enter Try.func30, Try.ntmps30
  go_wp2_with fail
  go_loopw [1, 6] (fun hh v wr => hh = .int .i64 x ∧ w = wr) (fun _ _ _ => 0)
  case atStart => exact ⟨rfl, rfl⟩
  case round =>
    obtain ⟨rfl, rfl⟩ := hrel
    go_wp2_with fail
    refine HC.out.mono ?_
    rintro e W1 ⟨rfl, h1, hF⟩
    have h2 := h1.alloc (ageC Ag.z)
    have HF2 := Lib.hid (hF.alloc (ageC Ag.z))
    clear h1 hF
    go_wp2_with fail
    go_ret2
    exact ⟨rfl, h2, HF2.out⟩
end
end Go.Proofs.Ytcfbjcadpcedhaa.Mem
