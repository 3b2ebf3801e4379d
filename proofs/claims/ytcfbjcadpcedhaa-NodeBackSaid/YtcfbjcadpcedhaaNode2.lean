/- Ages and nodes, by a port that asks memory at once: Lay, Lift, Own, Undo, Newest, Make. -/
import Derived.Test.YtcfbjcadpcedhaaNode1
namespace Go.Proofs.Ytcfbjcadpcedhaa.Mem
open Go.RowKit Go.Proofs.YtcfbjcadpcedhaaW.PrintWords Go.Proofs.YtcfbjcadpcedhaaW.PrintLast Go.Proofs.Ytcfbjcadpcedhaa.Tags
set_option linter.unusedVariables false
set_option linter.unusedSimpArgs false
section
variable {w0 w w' : World} {pb mb cb : Nat} {m m' : M}
/-- A revision that has nothing but a version. -/
abbrev revV (ver : Int) (dead : Bool) : Value := .agg #[.int .i64 ver, .int .i64 0, .string ⟨#[]⟩, .string ⟨#[]⟩, .bool false, .bool dead, .slice none 0 0, .slice none 0 0, .slice none 0 0, .slice none 0 0]
abbrev revC (ver : Int) (dead : Bool) : Obj := .cells #[.int .i64 ver, .int .i64 0, .string ⟨#[]⟩, .string ⟨#[]⟩, .bool false, .bool dead, .slice none 0 0, .slice none 0 0, .slice none 0 0, .slice none 0 0] 40
theorem okv_age (a : Ag) : OkV (.iface 52 a.v) := Or.inr (Or.inr ⟨_, _, rfl, by decide⟩)
theorem okv_node (a : Nd) : OkV (.iface 46 a.v) := Or.inr (Or.inr ⟨_, _, rfl, by decide⟩)
theorem box10 {g : Nat} {t : TypeId} {v0 v1 v2 v3 v4 v5 v6 v7 v8 v9 : Value} {w : World} (h : w.heap[g]? = some (.cells #[v0, v1, v2, v3, v4, v5, v6, v7, v8, v9] t (0, 0))) : w.cell? ⟨g, 0, none⟩ = some v0 ∧ w.cell? ⟨g, 1, none⟩ = some v1 ∧ w.cell? ⟨g, 2, none⟩ = some v2 ∧ w.cell? ⟨g, 3, none⟩ = some v3 ∧ w.cell? ⟨g, 4, none⟩ = some v4 ∧ w.cell? ⟨g, 5, none⟩ = some v5 ∧ w.cell? ⟨g, 6, none⟩ = some v6 ∧ w.cell? ⟨g, 7, none⟩ = some v7 ∧ w.cell? ⟨g, 8, none⟩ = some v8 ∧ w.cell? ⟨g, 9, none⟩ = some v9 :=
  ⟨(blk_cell h 0).trans rfl, (blk_cell h 1).trans rfl, (blk_cell h 2).trans rfl, (blk_cell h 3).trans rfl, (blk_cell h 4).trans rfl, (blk_cell h 5).trans rfl, (blk_cell h 6).trans rfl, (blk_cell h 7).trans rfl, (blk_cell h 8).trans rfl, (blk_cell h 9).trans rfl⟩
set_option maxHeartbeats 1600000 in
set_option maxRecDepth 100000 in
/-- No room for the word. -/
theorem lay_full (h : St w0 w pb mb cb m) (ver : Int) (dead : Bool) (bef : Int) {M1 : M} {x1 e1 : Int} (he : e1 ≠ 0) (a1 : m.alloc (number bef) = (M1, x1, e1)) : Calls Try.prog 17 #[ptr pb, revV ver dead, .int .i64 bef] w (Endp w0 w pb mb cb (.tuple #[.int .i64 0, .int .i64 e1]) M1) := by
  obtain ⟨W, hW⟩ : ∃ W : World, W = w.alloc (revC ver dead) := ⟨_, rfl⟩
  have hb : Below w.heap.size w W := hW ▸ below_alloc (Below.refl _ _) _
  have h1 := h.below hb
  have HW := Lib.hid hW
  have HB := Lib.hid (Fr.of_below hb mb cb)
  have HA := Lib.hid a1
  have g1 : (e1 != 0) = true := by simpa using he
  clear hW hb h a1
  go_enter Try.func17, Try.ntmps17
  go_upto_region 1 with fail
  rw [← HW.out]
  clear HW
  go_wp2_with fail
  refine (qAllocWord h1 bef).mono ?_
  rw [HA.out]
  rintro e W2 ⟨rfl, h2, hF⟩
  have HF := Lib.hid (HB.out.trans hF)
  clear hF h1
  go_wp2_with fail
  go_ret2
  exact ⟨rfl, h2, HF.out⟩
set_option maxHeartbeats 1600000 in
set_option maxRecDepth 100000 in
theorem lay_ok (h : St w0 w pb mb cb m) (ver : Int) (dead : Bool) (bef : Int) {M1 M2 : M} {x1 x2 : Int} (a1 : m.alloc (number bef) = (M1, x1, 0)) (a2 : M1.alloc (.iface 52 (Ag.v ⟨ver, dead, x1⟩)) = (M2, x2, 0)) : Calls Try.prog 17 #[ptr pb, revV ver dead, .int .i64 bef] w (Endp w0 w pb mb cb (.tuple #[.int .i64 x2, .int .i64 0]) M2) := by
  obtain ⟨W, hW⟩ : ∃ W : World, W = w.alloc (revC ver dead) := ⟨_, rfl⟩
  have hb : Below w.heap.size w W := hW ▸ below_alloc (Below.refl _ _) _
  have hk : W.heap[w.heap.size]? = some (.cells #[.int .i64 ver, .int .i64 0, .string ⟨#[]⟩, .string ⟨#[]⟩, .bool false, .bool dead, .slice none 0 0, .slice none 0 0, .slice none 0 0, .slice none 0 0] 40 (0, 0)) := hW ▸ blk_new w _
  have h1 := h.below hb
  have HW := Lib.hid hW
  have HB := Lib.hid (Fr.of_below hb mb cb)
  have HA := Lib.hid a1
  have HA2 := Lib.hid a2
  clear hW hb h a1 a2
  go_enter Try.func17, Try.ntmps17
  go_upto_region 1 with fail
  rw [← HW.out]
  clear HW
  go_wp2_with fail
  refine (qAllocWord h1 bef).mono ?_
  rw [HA.out]
  rintro e W2 ⟨rfl, h2, hF⟩
  obtain ⟨k0, k1, k2, k3, k4, k5, k6, k7, k8, k9⟩ := box10 (hF.blk h1.A hk (by decide) (by decide))
  have HF := Lib.hid (HB.out.trans hF)
  clear hF h1 hk
  go_wp2_with fail
  refine (qAlloc h2 52 (Ag.v ⟨ver, dead, x1⟩) (okv_age _)).mono ?_
  rw [HA2.out]
  rintro e W3 ⟨rfl, h3, hF⟩
  have HF3 := Lib.hid (HF.out.trans hF)
  clear hF h2
  go_wp2_with fail
  go_ret2
  exact ⟨rfl, h3, HF3.out⟩
set_option maxHeartbeats 1600000 in
set_option maxRecDepth 100000 in
/-- No room for the age: its word is freed. -/
theorem lay_undone (h : St w0 w pb mb cb m) (ver : Int) (dead : Bool) (bef : Int) {M1 M2 M3 : M} {x1 x2 e2 e3 : Int} (he : e2 ≠ 0) (a1 : m.alloc (number bef) = (M1, x1, 0)) (a2 : M1.alloc (.iface 52 (Ag.v ⟨ver, dead, x1⟩)) = (M2, x2, e2)) (a3 : M2.free x1 = (M3, e3)) : Calls Try.prog 17 #[ptr pb, revV ver dead, .int .i64 bef] w (Endp w0 w pb mb cb (.tuple #[.int .i64 0, .int .i64 e2]) M3) := by
  obtain ⟨W, hW⟩ : ∃ W : World, W = w.alloc (revC ver dead) := ⟨_, rfl⟩
  have hb : Below w.heap.size w W := hW ▸ below_alloc (Below.refl _ _) _
  have hk : W.heap[w.heap.size]? = some (.cells #[.int .i64 ver, .int .i64 0, .string ⟨#[]⟩, .string ⟨#[]⟩, .bool false, .bool dead, .slice none 0 0, .slice none 0 0, .slice none 0 0, .slice none 0 0] 40 (0, 0)) := hW ▸ blk_new w _
  have h1 := h.below hb
  have HW := Lib.hid hW
  have HB := Lib.hid (Fr.of_below hb mb cb)
  have HA := Lib.hid a1
  have HA2 := Lib.hid a2
  have HA3 := Lib.hid a3
  have g1 : (e2 != 0) = true := by simpa using he
  clear hW hb h a1 a2 a3
  go_enter Try.func17, Try.ntmps17
  go_upto_region 1 with fail
  rw [← HW.out]
  clear HW
  go_wp2_with fail
  refine (qAllocWord h1 bef).mono ?_
  rw [HA.out]
  rintro e W2 ⟨rfl, h2, hF⟩
  obtain ⟨k0, k1, k2, k3, k4, k5, k6, k7, k8, k9⟩ := box10 (hF.blk h1.A hk (by decide) (by decide))
  have HF := Lib.hid (HB.out.trans hF)
  clear hF h1 hk
  go_wp2_with fail
  refine (qAlloc h2 52 (Ag.v ⟨ver, dead, x1⟩) (okv_age _)).mono ?_
  rw [HA2.out]
  rintro e W3 ⟨rfl, h3, hF⟩
  have HF3 := Lib.hid (HF.out.trans hF)
  clear hF h2
  go_wp2_with fail
  refine (qFree h3 x1).mono ?_
  rw [HA3.out]
  rintro e W4 ⟨rfl, h4, hF⟩
  have HF4 := Lib.hid (HF3.out.trans hF)
  clear hF h3
  go_wp2_with fail
  go_ret2
  exact ⟨rfl, h4, HF4.out⟩
set_option maxHeartbeats 1600000 in
set_option maxRecDepth 100000 in
theorem tomb_calls (ver : Int) (w : World) : Calls Try.prog 18 #[.int .i64 ver] w fun e w' => e = .returned (revV ver true) ∧ Below w.heap.size w w' := by
  have hk := blk_new w (revC ver true)
  have hb : Below w.heap.size w (w.alloc (revC ver true)) := below_alloc (Below.refl _ _) _
  obtain ⟨k0, k1, k2, k3, k4, k5, k6, k7, k8, k9⟩ := box10 hk
  go_enter Try.func18, Try.ntmps18
  go_wp2_with fail
  exact bodyPost_ret (v := revV ver true) (by simp [results, Try.results18, go_sem, k0, k1, k2, k3, k4, k5, k6, k7, k8, k9]) rfl ⟨rfl, hb⟩
theorem OwnI.lower_ {base base' : Nat} {v : Value} {xs : List Int} (h : OwnI w base v xs) (hb : base' ≤ base) : OwnI w base' v xs := own_weaken h hb
abbrev nodC (a : Nd) : Obj := .cells #[.string a.low, .int .i64 a.head, .slice a.A a.n a.k] 46
set_option maxHeartbeats 1600000 in
set_option maxRecDepth 100000 in
theorem own_calls {A : Option Addr} {xs : List Int} {k : Nat} (low : ByteArray) (x head : Int) (hR : RdT w A xs) (hl : xs.length ≤ 1000) :
    Calls Try.prog 33 #[.int .i64 x, Nd.v ⟨low, head, A, xs.length, k⟩] w fun e w' => ∃ v, e = .returned v ∧ OwnI w' w.heap.size v (x :: head :: xs) ∧ Below w.heap.size w w' := by
  obtain ⟨W1, hW1⟩ : ∃ W1 : World, W1 = w.alloc (nodC ⟨low, head, A, xs.length, k⟩) := ⟨_, rfl⟩
  obtain ⟨W2, hW2⟩ : ∃ W2 : World, W2 = W1.alloc (.cells #[.int .i64 x, .int .i64 head] 3) := ⟨_, rfl⟩
  obtain ⟨W3, hW3⟩ : ∃ W3 : World, W3 = W2.alloc (.cells #[.slice (some ⟨W1.heap.size, 0, none⟩) 2 2, .slice A xs.length k] 32) := ⟨_, rfl⟩
  have hb1 : Below w.heap.size w W1 := hW1 ▸ below_alloc (Below.refl _ _) _
  have hb2 : Below W1.heap.size W1 W2 := hW2 ▸ below_alloc (Below.refl _ _) _
  have hb3 : Below W2.heap.size W2 W3 := hW3 ▸ below_alloc (Below.refl _ _) _
  obtain ⟨k0, k1, k2⟩ := box3 (show W1.heap[w.heap.size]? = some (.cells #[.string low, .int .i64 head, .slice A xs.length k] 46 (0, 0)) from hW1 ▸ blk_new _ _)
  obtain ⟨l0, l1, l2⟩ := box3 (blk_below (show W1.heap[w.heap.size]? = some (.cells #[.string low, .int .i64 head, .slice A xs.length k] 46 (0, 0)) from hW1 ▸ blk_new _ _) hb2)
  have hc : W3.heap[W1.heap.size]? = some (.cells #[.int .i64 x, .int .i64 head] 3 (0, 0)) := blk_below (hW2 ▸ blk_new _ _) hb3
  have hg : W3.heap[W2.heap.size]? = some (.cells #[.slice (some ⟨W1.heap.size, 0, none⟩) [x, head].length 2, .slice A xs.length k] 32 (0, 0)) := hW3 ▸ blk_new _ _
  have hr1 : Rd W3 (some ⟨W1.heap.size, 0, none⟩) [x, head] := ⟨rfl, by simp, fun _ => ⟨_, rfl, fun j hj => by
    rw [Addr.add_lit, Nat.zero_add]
    have hj' : j < 2 := hj
    rcases (show j = 0 ∨ j = 1 by omega) with rfl | rfl
    · exact (blk_cell hc 0).trans rfl
    · exact (blk_cell hc 1).trans rfl⟩⟩
  have hr2 : Rd W3 A xs := (((hR.below hb1).below hb2).below hb3).1
  have hcc := concat_calls (w := W3) hg hr1 hr2 (by simp; omega) (by simp; omega)
  rw [show W2.heap.size = W1.heap.size + 1 by rw [hW2]; simp] at hcc
  have HC := Lib.hid hcc
  have s1 := hb1.size
  have s2 := hb2.size
  have s3 := hb3.size
  have HB := Lib.hid (below_then (below_then hb1 s1 hb2) (by omega) hb3)
  have HW1 := Lib.hid hW1
  have HW2 := Lib.hid hW2
  have HW3 := Lib.hid hW3
  clear hcc hc hg hr1 hr2 hb1 hb2 hb3 hW1 hW2 hW3 hR
  go_enter Try.func33, Try.ntmps33
  go_upto_region 1 with fail
  rw [← HW1.out]
  rw [HW2.out] at l0 l1 l2
  go_wp2_with fail
  rw [← HW2.out, ← HW3.out]
  refine HC.out.mono ?_
  rintro e W4 ⟨v, rfl, hO, hB4⟩
  have HO := Lib.hid hO
  have HB4 := Lib.hid (below_then HB.out (by omega) hB4)
  clear hO hB4
  go_wp2_with fail
  go_ret
  exact ⟨v, rfl, HO.out.lower_ (by omega), HB4.out⟩
end
end Go.Proofs.Ytcfbjcadpcedhaa.Mem
