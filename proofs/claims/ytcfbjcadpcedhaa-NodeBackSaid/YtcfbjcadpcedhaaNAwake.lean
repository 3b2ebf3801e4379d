/- rundlelaw16.awake: the document's example. -/
import Derived.Test.YtcfbjcadpcedhaaNLay2
namespace Go.Proofs.Ytcfbjcadpcedhaa.Mem
open Go.RowKit Go.Proofs.YtcfbjcadpcedhaaW.PrintWords Go.Proofs.YtcfbjcadpcedhaaW.PrintLast Go.Proofs.Ytcfbjcadpcedhaa.Tags
set_option linter.unusedVariables false
set_option linter.unusedSimpArgs false
section
variable {w0 w w' : World} {pb mb cb : Nat} {m m' : M}
theorem ta_bool (b : Bool) (w : World) : (Instr.typeAssert (.iface 4 (.bool b)) 20 4 true).run Try.prog w = .ok (.tuple #[.bool b, .bool true]) w := by
  cases b <;> kernel_rfl
theorem OwnI.cell_at {base g c : Nat} {xs : List Int} (h : OwnI w base (.slice (some ⟨g, 0, none⟩) xs.length c) xs) {j : Nat} (hj : j < xs.length) : w.cell? ⟨g, j, none⟩ = some (.int .i64 (xs.getD j 0)) := by
  obtain ⟨_, e, hc⟩ := h.cell j hj
  injection e with e
  injection e with e
  subst e
  exact hc
set_option maxHeartbeats 6400000 in
set_option maxRecDepth 100000 in
theorem nawake_fn (h : St w0 w pb mb cb m) {z H t0 t1 t2 : Int} {l : List (Int × Ag)} {vs hs : List Int} {A1 A2 AN : Option Addr} {c1 c2 kN by_ : Nat} (hy : Yd16 m [1, 2, 1] z H t0 t1 t2 l vs hs AN kN) (ky : w.heap[by_]? = some (.cells (yardV mb H ⟨#[107]⟩ t0 (.slice AN 2 kN) (.slice A1 vs.length c1) (.slice A2 hs.length c2)) 48 (0, 0)))
    {B : Nat} (hO2 : OwnI w B (.slice A2 hs.length c2) hs) :
    Calls Try.prog 45 #[ptr pb, .pointer (some ⟨by_, 0, none⟩)] w fun e w' => e = .returned (.iface 4 (.bool true)) ∧ Fr w w' mb cb := by
  have hC := hy.row.C
  have hS := hy.row.S
  have hnd := hy.row.nd
  have hw := hy.nd.w0
  have hvr : vers l = [7, 5, 2] := hy.vl.symm.trans (hy.vr.trans (by decide))
  have hhl := hy.hl
  obtain ⟨⟨h3, a3⟩, ⟨h2, a2⟩, ⟨h1, a1⟩, rfl⟩ : ∃ x y q, l = [x, y, q] := by
    have hl := hy.len
    match l, hl with
    | [x, y, q], _ => exact ⟨x, y, q, rfl⟩
  simp only [vers, List.map_cons, List.map_nil, List.cons.injEq, and_true] at hvr
  obtain ⟨v3, v2, v1⟩ := hvr
  have HV1 := Lib.hid v1
  have HV2 := Lib.hid v2
  have HV3 := Lib.hid v3
  clear v1 v2 v3
  have hhs : hs = [h3, h2, h1] := hhl
  subst hhs
  clear hy hhl
  obtain ⟨y0, y1, y2, y3, y4, y5, y6⟩ := box7 ky
  go_enter Try.func45, Try.ntmps45
  go_wp2_with fail
  refine (at_ok h ⟨⟨#[107]⟩, t0, AN, 2, kN⟩ 6 hw hC).mono ?_
  rintro e W1 ⟨m1, hlk, h1', hF1, ⟨hall, _⟩ | ⟨l1, ⟨xh, xa⟩, l2, hll, hno, hle, rfl⟩⟩
  · exact absurd (show a2.ver ≤ 6 by have := HV2.out; omega) (hall (h2, a2) (by simp))
  obtain ⟨rfl, hx, rfl⟩ : l1 = [(h3, a3)] ∧ (xh, xa) = (h2, a2) ∧ l2 = [(h1, a1)] := by
    cases l1 with
    | nil =>
      injection hll with e1 e2
      injection e1 with e3 e4
      rw [← e4] at hle
      simp only at hle
      have := HV3.out
      omega
    | cons q l1 =>
      injection hll with e1 e2
      subst e1
      cases l1 with
      | nil =>
        injection e2 with e3 e4
        exact ⟨rfl, e3.symm, e4.symm⟩
      | cons q2 l1 =>
        injection e2 with e3 e4
        subst e3
        exact absurd (show a2.ver ≤ 6 by have := HV2.out; omega) (hno (h2, a2) (by simp))
  injection hx with hx1 hx2
  subst hx1 hx2
  have ky1 := hF1.blk h.A ky (by decide) (by decide)
  have hO21 := hO2.fr h.A hF1
  obtain ⟨W2, hW2⟩ : ∃ W2 : World, W2 = W1.alloc (ageC xa) := ⟨_, rfl⟩
  have hb2 : Below W1.heap.size W1 W2 := hW2 ▸ below_alloc (Below.refl _ _) _
  have kx := (show W2.heap[W1.heap.size]? = some (.cells #[.int .i64 xa.ver, .int .i64 0, .string ⟨#[]⟩, .string ⟨#[]⟩, .bool false, .bool xa.dead, .slice none 0 0, .slice none 0 0, .slice none 0 0, .slice none 0 0, .int .i64 xa.prev] 52 (0, 0)) from hW2 ▸ blk_new _ _)
  have h2' := h1'.below hb2
  have ky2 := blk_below ky1 hb2
  have hO22 := hO21.below hb2
  have HF2 := Lib.hid (hF1.trans (Fr.of_below hb2 mb cb))
  have HW2 := Lib.hid hW2
  have hS1 := Like.shape hS hlk
  have hC1 := hC.cells hlk.1
  have hw1 : m1.val t0 = some (number z) := (val_cells hlk.1 _).trans hw
  clear hW2 hb2 h1' ky1 hO21 hF1 hno hle hll ky h hO2 hlk hw hC hS y0 y1 y2 y3 y4 y5 y6
  go_upto_region 2 with fail
  rw [← HW2.out]
  clear HW2
  obtain ⟨y0, y1, y2, y3, y4, y5, y6⟩ := box7 ky2
  go_wp2_with fail
  refine (cut_ok h2' hS1 ⟨⟨#[107]⟩, t0, AN, 2, kN⟩ 6 hw1 hC1 hnd (by simp)).mono ?_
  rintro e W3 ⟨m3, hS3, h3', hF3, ⟨hall, _⟩ | ⟨l1, ⟨yh, ya⟩, l2, A, c, hll, hno, hle, rfl, hO, _⟩⟩
  · exact absurd (show xa.ver ≤ 6 by have := HV2.out; omega) (hall (xh, xa) (by simp))
  obtain rfl : l2 = [(h1, a1)] := by
    cases l1 with
    | nil =>
      injection hll with e1 e2
      injection e1 with e3 e4
      rw [← e4] at hle
      simp only at hle
      have := HV3.out
      omega
    | cons q l1 =>
      injection hll with e1 e2
      subst e1
      cases l1 with
      | nil =>
        injection e2 with e3 e4
        exact e4.symm
      | cons q2 l1 =>
        injection e2 with e3 e4
        subst e3
        exact absurd (show xa.ver ≤ 6 by have := HV2.out; omega) (hno (xh, xa) (by simp))
  have ky3 := hF3.blk h2'.A ky2 (by decide) (by decide)
  have kx3 := hF3.blk h2'.A kx (by decide) (by decide)
  have hO3 := hO22.fr h2'.A hF3
  have HF3 := Lib.hid (HF2.out.trans hF3)
  obtain ⟨gl, egl, hcl⟩ := hO.cell 0 (by simp [cellsOf])
  obtain ⟨gh, egh, hch⟩ := hO3.cell 2 (by simp)
  have hcl' : W3.cell? ⟨gl, 0, none⟩ = some (.int .i64 h1) := hcl
  have hch' : W3.cell? ⟨gh, 2, none⟩ = some (.int .i64 h1) := hch
  subst egl egh
  have hv5 : xa.ver = 5 := HV2.out
  rw [hv5] at kx3
  obtain ⟨x0, x1, x2, x3, x4, x5, x6, x7, x8, x9, x10⟩ := box11 kx3
  clear y0 y1 y2 y3 y4 y5 y6
  obtain ⟨y0, y1, y2, y3, y4, y5, y6⟩ := box7 ky3
  clear ky3 kx3 ky2 kx hO3 hO22 hO hF3 hll hno hle h3' h2' hS3 hS1 hC1 hw1 hcl hch hv5
  simp only [cellsOf, List.length_cons, List.length_nil, Nat.zero_add, Nat.reduceAdd, Nat.mul_one] at y6 ⊢
  go_upto_region 3 with fail
  refine start_ (n := 32) (S := fun w' => w'.cell? ⟨W1.heap.size, 0, none⟩ = some (.int .i64 5) ∧ w'.cell? ⟨by_, 6, none⟩ = some (.slice (some ⟨gh, 0, none⟩) 3 c2) ∧ w'.cell? ⟨gl, 0, none⟩ = some (.int .i64 h1) ∧ w'.cell? ⟨gh, 2, none⟩ = some (.int .i64 h1)) (ds := []) #[false, false, false, false, false, false, false, false, false, false, false, false, false, false, false, false, false, false, false, false, false, false, false, false, false, false, false, false, false, false, false, false] rfl rfl rfl (⟨x0, y6, hcl', hch'⟩) ?_
  intro hHeld
  refine pure_ (i := 0) (N := some 24) (v := ?_) (a' := ?_) #[true, false, false, false, false, false, false, false, false, false, false, false, false, false, false, false, false, false, false, false, false, false, false, false, false, false, false, false, false, false, false, false] rfl rfl (by kernel_rfl) (fun _ _ _ h => h) (Or.inl ⟨by rfl, ?_⟩) ?_ ?_
  rotate_left
  · intro w'
    go_simp
    with_reducible rfl
  rotate_left
  · simp only [Act.put, List.setIfInBounds_toArray, List.set_cons_zero, List.set_cons_succ, i64_w, i32_w]
    rfl
  refine pure_ (i := 1) (N := some 25) (v := ?_) (a' := ?_) #[true, true, false, false, false, false, false, false, false, false, false, false, false, false, false, false, false, false, false, false, false, false, false, false, false, false, false, false, false, false, false, false] rfl rfl (by kernel_rfl) (fun _ _ _ h => h) (Or.inl ⟨by rfl, ?_⟩) ?_ ?_
  rotate_left
  · intro w'
    go_simp
    with_reducible rfl
  rotate_left
  · simp only [Act.put, List.setIfInBounds_toArray, List.set_cons_zero, List.set_cons_succ, i64_w, i32_w]
    rfl
  refine pure_ (i := 2) (N := some 26) (v := ?_) (a' := ?_) #[true, true, true, false, false, false, false, false, false, false, false, false, false, false, false, false, false, false, false, false, false, false, false, false, false, false, false, false, false, false, false, false] rfl rfl (by kernel_rfl) (fun _ _ _ h => h) (Or.inl ⟨by rfl, ?_⟩) ?_ ?_
  rotate_left
  · intro w'
    go_simp
    with_reducible rfl
  rotate_left
  · simp only [Act.put, List.setIfInBounds_toArray, List.set_cons_zero, List.set_cons_succ, i64_w, i32_w]
    rfl
  refine pure_ (i := 3) (N := some 27) (v := ?_) (a' := ?_) #[true, true, true, true, false, false, false, false, false, false, false, false, false, false, false, false, false, false, false, false, false, false, false, false, false, false, false, false, false, false, false, false] rfl rfl (by kernel_rfl) (fun _ _ _ h => h) (Or.inl ⟨by rfl, ?_⟩) ?_ ?_
  rotate_left
  · intro w'
    go_simp
    with_reducible rfl
  rotate_left
  · simp only [Act.put, List.setIfInBounds_toArray, List.set_cons_zero, List.set_cons_succ, i64_w, i32_w]
    rfl
  refine pure_ (i := 4) (N := some 28) (v := ?_) (a' := ?_) #[true, true, true, true, true, false, false, false, false, false, false, false, false, false, false, false, false, false, false, false, false, false, false, false, false, false, false, false, false, false, false, false] rfl rfl (by kernel_rfl) (fun _ _ _ h => h) (Or.inl ⟨by rfl, ?_⟩) ?_ ?_
  rotate_left
  · intro w'
    go_simp
    with_reducible rfl
  rotate_left
  · simp only [Act.put, List.setIfInBounds_toArray, List.set_cons_zero, List.set_cons_succ, i64_w, i32_w]
    rfl
  refine pure_ (i := 5) (N := some 29) (v := ?_) (a' := ?_) #[true, true, true, true, true, true, false, false, false, false, false, false, false, false, false, false, false, false, false, false, false, false, false, false, false, false, false, false, false, false, false, false] rfl rfl (by kernel_rfl) (fun _ _ _ h => h) (Or.inl ⟨by rfl, ?_⟩) ?_ ?_
  rotate_left
  · intro w'
    go_simp
    with_reducible rfl
  rotate_left
  · simp only [Act.put, List.setIfInBounds_toArray, List.set_cons_zero, List.set_cons_succ, i64_w, i32_w]
    rfl
  refine pure_ (i := 6) (N := some 30) (v := ?_) (a' := ?_) #[true, true, true, true, true, true, true, false, false, false, false, false, false, false, false, false, false, false, false, false, false, false, false, false, false, false, false, false, false, false, false, false] rfl rfl (by kernel_rfl) (fun _ _ _ h => h) (Or.inl ⟨by rfl, ?_⟩) ?_ ?_
  rotate_left
  · intro w'
    go_simp
    with_reducible rfl
  rotate_left
  · simp only [Act.put, List.setIfInBounds_toArray, List.set_cons_zero, List.set_cons_succ, i64_w, i32_w]
    rfl
  refine pure_ (i := 7) (N := some 31) (v := ?_) (a' := ?_) #[true, true, true, true, true, true, true, true, false, false, false, false, false, false, false, false, false, false, false, false, false, false, false, false, false, false, false, false, false, false, false, false] rfl rfl (by kernel_rfl) (fun _ _ _ h => h) (Or.inl ⟨by rfl, ?_⟩) ?_ ?_
  rotate_left
  · intro w'
    go_simp
    with_reducible rfl
  rotate_left
  · simp only [Act.put, List.setIfInBounds_toArray, List.set_cons_zero, List.set_cons_succ, i64_w, i32_w]
    rfl
  refine take_ (i := 8) (N := some 32) (v := ?_) (a' := ?_) #[true, true, true, true, true, true, true, true, true, false, false, false, false, false, false, false, false, false, false, false, false, false, false, false, false, false, false, false, false, false, false, false] rfl rfl (by kernel_rfl) (fun _ _ _ h => h) (Or.inl ⟨by rfl, ?_⟩) hHeld ?_ ?_
  rotate_left
  · rintro w' hHeld'
    have hHeld'' := hHeld'
    (try obtain ⟨r0_, r1_⟩ := hHeld')
    (try obtain ⟨r1_, r2_⟩ := r1_)
    (try obtain ⟨r2_, r3_⟩ := r2_)
    (try obtain ⟨r3_, r4_⟩ := r3_)
    (try obtain ⟨r4_, r5_⟩ := r4_)
    (try obtain ⟨r5_, r6_⟩ := r5_)
    (try obtain ⟨r6_, r7_⟩ := r6_)
    (try obtain ⟨r7_, r8_⟩ := r7_)
    (try obtain ⟨r8_, r9_⟩ := r8_)
    go_simp
    with_reducible rfl
  rotate_left
  · simp only [Act.put, List.setIfInBounds_toArray, List.set_cons_zero, List.set_cons_succ, i64_w, i32_w]
    rfl
  refine pure_ (i := 9) (N := some 33) (v := ?_) (a' := ?_) #[true, true, true, true, true, true, true, true, true, true, false, false, false, false, false, false, false, false, false, false, false, false, false, false, false, false, false, false, false, false, false, false] rfl rfl (by kernel_rfl) (fun _ _ _ h => h) (Or.inl ⟨by rfl, ?_⟩) ?_ ?_
  rotate_left
  · intro w'
    go_simp
    with_reducible rfl
  rotate_left
  · simp only [Act.put, List.setIfInBounds_toArray, List.set_cons_zero, List.set_cons_succ, i64_w, i32_w]
    rfl
  refine pure_ (i := 10) (N := some 34) (v := ?_) (a' := ?_) #[true, true, true, true, true, true, true, true, true, true, true, false, false, false, false, false, false, false, false, false, false, false, false, false, false, false, false, false, false, false, false, false] rfl rfl (by kernel_rfl) (fun _ _ _ h => h) (Or.inl ⟨by rfl, ?_⟩) ?_ ?_
  rotate_left
  · intro w'
    go_simp
    with_reducible rfl
  rotate_left
  · simp only [Act.put, List.setIfInBounds_toArray, List.set_cons_zero, List.set_cons_succ, i64_w, i32_w]
    rfl
  refine pure_ (i := 11) (N := some 35) (v := ?_) (a' := ?_) #[true, true, true, true, true, true, true, true, true, true, true, true, false, false, false, false, false, false, false, false, false, false, false, false, false, false, false, false, false, false, false, false] rfl rfl (by kernel_rfl) (fun _ _ _ h => h) (Or.inl ⟨by rfl, ?_⟩) ?_ ?_
  rotate_left
  · intro w'
    go_simp
    with_reducible rfl
  rotate_left
  · simp only [Act.put, List.setIfInBounds_toArray, List.set_cons_zero, List.set_cons_succ, i64_w, i32_w]
    rfl
  refine pure_ (i := 12) (N := some 36) (v := ?_) (a' := ?_) #[true, true, true, true, true, true, true, true, true, true, true, true, true, false, false, false, false, false, false, false, false, false, false, false, false, false, false, false, false, false, false, false] rfl rfl (by kernel_rfl) (fun _ _ _ h => h) (Or.inl ⟨by rfl, ?_⟩) ?_ ?_
  rotate_left
  · intro w'
    go_simp
    with_reducible rfl
  rotate_left
  · simp only [Act.put, List.setIfInBounds_toArray, List.set_cons_zero, List.set_cons_succ, i64_w, i32_w]
    rfl
  refine pure_ (i := 13) (N := some 37) (v := ?_) (a' := ?_) #[true, true, true, true, true, true, true, true, true, true, true, true, true, true, false, false, false, false, false, false, false, false, false, false, false, false, false, false, false, false, false, false] rfl rfl (by kernel_rfl) (fun _ _ _ h => h) (Or.inl ⟨by rfl, ?_⟩) ?_ ?_
  rotate_left
  · intro w'
    go_simp
    with_reducible rfl
  rotate_left
  · simp only [Act.put, List.setIfInBounds_toArray, List.set_cons_zero, List.set_cons_succ, i64_w, i32_w]
    rfl
  refine pure_ (i := 14) (N := some 38) (v := ?_) (a' := ?_) #[true, true, true, true, true, true, true, true, true, true, true, true, true, true, true, false, false, false, false, false, false, false, false, false, false, false, false, false, false, false, false, false] rfl rfl (by kernel_rfl) (fun _ _ _ h => h) (Or.inl ⟨by rfl, ?_⟩) ?_ ?_
  rotate_left
  · intro w'
    go_simp
    with_reducible rfl
  rotate_left
  · simp only [Act.put, List.setIfInBounds_toArray, List.set_cons_zero, List.set_cons_succ, i64_w, i32_w]
    rfl
  refine pure_ (i := 15) (N := some 39) (v := ?_) (a' := ?_) #[true, true, true, true, true, true, true, true, true, true, true, true, true, true, true, true, false, false, false, false, false, false, false, false, false, false, false, false, false, false, false, false] rfl rfl (by kernel_rfl) (fun _ _ _ h => h) (Or.inl ⟨by rfl, ?_⟩) ?_ ?_
  rotate_left
  · intro w'
    go_simp
    with_reducible rfl
  rotate_left
  · simp only [Act.put, List.setIfInBounds_toArray, List.set_cons_zero, List.set_cons_succ, i64_w, i32_w]
    rfl
  refine pure_ (i := 16) (N := some 40) (v := ?_) (a' := ?_) #[true, true, true, true, true, true, true, true, true, true, true, true, true, true, true, true, true, false, false, false, false, false, false, false, false, false, false, false, false, false, false, false] rfl rfl (by kernel_rfl) (fun _ _ _ h => h) (Or.inl ⟨by rfl, ?_⟩) ?_ ?_
  rotate_left
  · intro w'
    go_simp
    with_reducible rfl
  rotate_left
  · simp only [Act.put, List.setIfInBounds_toArray, List.set_cons_zero, List.set_cons_succ, i64_w, i32_w]
    rfl
  refine pure_ (i := 17) (N := some 41) (v := ?_) (a' := ?_) #[true, true, true, true, true, true, true, true, true, true, true, true, true, true, true, true, true, true, false, false, false, false, false, false, false, false, false, false, false, false, false, false] rfl rfl (by kernel_rfl) (fun _ _ _ h => h) (Or.inl ⟨by rfl, ?_⟩) ?_ ?_
  rotate_left
  · intro w'
    go_simp
    with_reducible rfl
  rotate_left
  · simp only [Act.put, List.setIfInBounds_toArray, List.set_cons_zero, List.set_cons_succ, i64_w, i32_w]
    rfl
  refine pure_ (i := 18) (N := some 42) (v := ?_) (a' := ?_) #[true, true, true, true, true, true, true, true, true, true, true, true, true, true, true, true, true, true, true, false, false, false, false, false, false, false, false, false, false, false, false, false] rfl rfl (by kernel_rfl) (fun _ _ _ h => h) (Or.inl ⟨by rfl, ?_⟩) ?_ ?_
  rotate_left
  · intro w'
    go_simp
    with_reducible rfl
  rotate_left
  · simp only [Act.put, List.setIfInBounds_toArray, List.set_cons_zero, List.set_cons_succ, i64_w, i32_w]
    rfl
  refine pure_ (i := 19) (N := some 43) (v := ?_) (a' := ?_) #[true, true, true, true, true, true, true, true, true, true, true, true, true, true, true, true, true, true, true, true, false, false, false, false, false, false, false, false, false, false, false, false] rfl rfl (by kernel_rfl) (fun _ _ _ h => h) (Or.inl ⟨by rfl, ?_⟩) ?_ ?_
  rotate_left
  · intro w'
    go_simp
    with_reducible rfl
  rotate_left
  · simp only [Act.put, List.setIfInBounds_toArray, List.set_cons_zero, List.set_cons_succ, i64_w, i32_w]
    rfl
  refine pure_ (i := 20) (N := some 44) (v := ?_) (a' := ?_) #[true, true, true, true, true, true, true, true, true, true, true, true, true, true, true, true, true, true, true, true, true, false, false, false, false, false, false, false, false, false, false, false] rfl rfl (by kernel_rfl) (fun _ _ _ h => h) (Or.inl ⟨by rfl, ?_⟩) ?_ ?_
  rotate_left
  · intro w'
    go_simp
    with_reducible rfl
  rotate_left
  · simp only [Act.put, List.setIfInBounds_toArray, List.set_cons_zero, List.set_cons_succ, i64_w, i32_w]
    rfl
  refine pure_ (i := 21) (N := some 45) (v := ?_) (a' := ?_) #[true, true, true, true, true, true, true, true, true, true, true, true, true, true, true, true, true, true, true, true, true, true, false, false, false, false, false, false, false, false, false, false] rfl rfl (by kernel_rfl) (fun _ _ _ h => h) (Or.inl ⟨by rfl, ?_⟩) ?_ ?_
  rotate_left
  · intro w'
    go_simp
    with_reducible rfl
  rotate_left
  · simp only [Act.put, List.setIfInBounds_toArray, List.set_cons_zero, List.set_cons_succ, i64_w, i32_w]
    rfl
  refine pure_ (i := 22) (N := some 46) (v := ?_) (a' := ?_) #[true, true, true, true, true, true, true, true, true, true, true, true, true, true, true, true, true, true, true, true, true, true, true, false, false, false, false, false, false, false, false, false] rfl rfl (by kernel_rfl) (fun _ _ _ h => h) (Or.inl ⟨by rfl, ?_⟩) ?_ ?_
  rotate_left
  · intro w'
    go_simp
    with_reducible rfl
  rotate_left
  · simp only [Act.put, List.setIfInBounds_toArray, List.set_cons_zero, List.set_cons_succ, i64_w, i32_w]
    rfl
  refine take_ (i := 23) (N := some 47) (v := ?_) (a' := ?_) #[true, true, true, true, true, true, true, true, true, true, true, true, true, true, true, true, true, true, true, true, true, true, true, true, false, false, false, false, false, false, false, false] rfl rfl (by kernel_rfl) (fun _ _ _ h => h) (Or.inl ⟨by rfl, ?_⟩) hHeld ?_ ?_
  rotate_left
  · rintro w' hHeld'
    have hHeld'' := hHeld'
    (try obtain ⟨r0_, r1_⟩ := hHeld')
    (try obtain ⟨r1_, r2_⟩ := r1_)
    (try obtain ⟨r2_, r3_⟩ := r2_)
    (try obtain ⟨r3_, r4_⟩ := r3_)
    (try obtain ⟨r4_, r5_⟩ := r4_)
    (try obtain ⟨r5_, r6_⟩ := r5_)
    (try obtain ⟨r6_, r7_⟩ := r6_)
    (try obtain ⟨r7_, r8_⟩ := r7_)
    (try obtain ⟨r8_, r9_⟩ := r8_)
    go_simp
    with_reducible rfl
  rotate_left
  · simp only [Act.put, List.setIfInBounds_toArray, List.set_cons_zero, List.set_cons_succ, i64_w, i32_w]
    rfl
  refine pure_ (i := 24) (N := some 48) (v := ?_) (a' := ?_) #[true, true, true, true, true, true, true, true, true, true, true, true, true, true, true, true, true, true, true, true, true, true, true, true, true, false, false, false, false, false, false, false] rfl rfl (by kernel_rfl) (fun _ _ _ h => h) (Or.inl ⟨by rfl, ?_⟩) ?_ ?_
  rotate_left
  · intro w'
    go_simp
    with_reducible rfl
  rotate_left
  · simp only [Act.put, List.setIfInBounds_toArray, List.set_cons_zero, List.set_cons_succ, i64_w, i32_w]
    rfl
  refine take_ (i := 25) (N := some 49) (v := ?_) (a' := ?_) #[true, true, true, true, true, true, true, true, true, true, true, true, true, true, true, true, true, true, true, true, true, true, true, true, true, true, false, false, false, false, false, false] rfl rfl (by kernel_rfl) (fun _ _ _ h => h) (Or.inl ⟨by rfl, ?_⟩) hHeld ?_ ?_
  rotate_left
  · rintro w' hHeld'
    have hHeld'' := hHeld'
    (try obtain ⟨r0_, r1_⟩ := hHeld')
    (try obtain ⟨r1_, r2_⟩ := r1_)
    (try obtain ⟨r2_, r3_⟩ := r2_)
    (try obtain ⟨r3_, r4_⟩ := r3_)
    (try obtain ⟨r4_, r5_⟩ := r4_)
    (try obtain ⟨r5_, r6_⟩ := r5_)
    (try obtain ⟨r6_, r7_⟩ := r6_)
    (try obtain ⟨r7_, r8_⟩ := r7_)
    (try obtain ⟨r8_, r9_⟩ := r8_)
    go_simp
    with_reducible rfl
  rotate_left
  · simp only [Act.put, List.setIfInBounds_toArray, List.set_cons_zero, List.set_cons_succ, i64_w, i32_w]
    rfl
  refine pure_ (i := 26) (N := some 50) (v := ?_) (a' := ?_) #[true, true, true, true, true, true, true, true, true, true, true, true, true, true, true, true, true, true, true, true, true, true, true, true, true, true, true, false, false, false, false, false] rfl rfl (by kernel_rfl) (fun _ _ _ h => h) (Or.inl ⟨by rfl, ?_⟩) ?_ ?_
  rotate_left
  · intro w'
    go_simp
    with_reducible rfl
  rotate_left
  · simp only [Act.put, List.setIfInBounds_toArray, List.set_cons_zero, List.set_cons_succ, i64_w, i32_w]
    rfl
  refine take_ (i := 27) (N := some 51) (v := ?_) (a' := ?_) #[true, true, true, true, true, true, true, true, true, true, true, true, true, true, true, true, true, true, true, true, true, true, true, true, true, true, true, true, false, false, false, false] rfl rfl (by kernel_rfl) (fun _ _ _ h => h) (Or.inl ⟨by rfl, ?_⟩) hHeld ?_ ?_
  rotate_left
  · rintro w' hHeld'
    have hHeld'' := hHeld'
    (try obtain ⟨r0_, r1_⟩ := hHeld')
    (try obtain ⟨r1_, r2_⟩ := r1_)
    (try obtain ⟨r2_, r3_⟩ := r2_)
    (try obtain ⟨r3_, r4_⟩ := r3_)
    (try obtain ⟨r4_, r5_⟩ := r4_)
    (try obtain ⟨r5_, r6_⟩ := r5_)
    (try obtain ⟨r6_, r7_⟩ := r6_)
    (try obtain ⟨r7_, r8_⟩ := r7_)
    (try obtain ⟨r8_, r9_⟩ := r8_)
    go_simp
    with_reducible rfl
  rotate_left
  · simp only [Act.put, List.setIfInBounds_toArray, List.set_cons_zero, List.set_cons_succ, i64_w, i32_w]
    rfl
  refine pure_ (i := 28) (N := some 52) (v := ?_) (a' := ?_) #[true, true, true, true, true, true, true, true, true, true, true, true, true, true, true, true, true, true, true, true, true, true, true, true, true, true, true, true, true, false, false, false] rfl rfl (by kernel_rfl) (fun _ _ _ h => h) (Or.inl ⟨by rfl, ?_⟩) ?_ ?_
  rotate_left
  · intro w'
    go_simp
    with_reducible rfl
  rotate_left
  · simp only [Act.put, List.setIfInBounds_toArray, List.set_cons_zero, List.set_cons_succ, i64_w, i32_w]
    rfl
  refine pure_ (i := 29) (N := some 53) (v := ?_) (a' := ?_) #[true, true, true, true, true, true, true, true, true, true, true, true, true, true, true, true, true, true, true, true, true, true, true, true, true, true, true, true, true, true, false, false] rfl rfl (by kernel_rfl) (fun _ _ _ h => h) (Or.inl ⟨by rfl, ?_⟩) ?_ ?_
  rotate_left
  · intro w'
    go_simp
    with_reducible rfl
  rotate_left
  · simp only [Act.put, List.setIfInBounds_toArray, List.set_cons_zero, List.set_cons_succ, i64_w, i32_w]
    rfl
  refine pure_ (i := 30) (N := some 54) (v := ?_) (a' := ?_) #[true, true, true, true, true, true, true, true, true, true, true, true, true, true, true, true, true, true, true, true, true, true, true, true, true, true, true, true, true, true, true, false] rfl rfl (by kernel_rfl) (fun _ _ _ h => h) (Or.inl ⟨by rfl, ?_⟩) ?_ ?_
  rotate_left
  · intro w'
    go_simp
    with_reducible rfl
  rotate_left
  · simp only [Act.put, List.setIfInBounds_toArray, List.set_cons_zero, List.set_cons_succ, i64_w, i32_w]
    rfl
  refine pure_ (i := 31) (N := some 3) (v := ?_) (a' := ?_) #[true, true, true, true, true, true, true, true, true, true, true, true, true, true, true, true, true, true, true, true, true, true, true, true, true, true, true, true, true, true, true, true] rfl rfl (by kernel_rfl) (fun _ _ _ h => h) (Or.inl ⟨by rfl, ?_⟩) ?_ ?_
  rotate_left
  · intro w'
    go_simp
    with_reducible rfl
  rotate_left
  · simp only [Act.put, List.setIfInBounds_toArray, List.set_cons_zero, List.set_cons_succ, i64_w, i32_w]
    rfl
  refine done_ (by kernel_rfl) ?_
  clear hHeld
  go_wp2_with fail
  go_ret
  exact ⟨rfl, HF3.out.drewN 1⟩
set_option maxHeartbeats 6400000 in
set_option maxRecDepth 100000 in
theorem nawake_calls (w : World) : Calls Try.prog 11 #[] w fun e w' => e = .returned (.bool true) ∧ Below w.heap.size w w' := by
  obtain ⟨W1, hW1⟩ : ∃ W1 : World, W1 = w.alloc (.cells #[.int .u8 1, .int .u8 2, .int .u8 1] 5) := ⟨_, rfl⟩
  have hB1 : Below w.heap.size w W1 := hW1 ▸ below_alloc (Below.refl _ _) _
  have k1 : W1.heap[w.heap.size]? = some (.cells #[.int .u8 1, .int .u8 2, .int .u8 1] 5 (0, 0)) := hW1 ▸ blk_new _ _
  have hU : U8 W1 (some ⟨w.heap.size, 0, none⟩) [1, 2, 1] := ⟨rfl, by simp, fun _ => ⟨_, rfl, fun j hj => by
    rw [Addr.add_lit, Nat.zero_add]
    have hj' : j < 3 := hj
    rcases (show j = 0 ∨ j = 1 ∨ j = 2 by omega) with rfl | rfl | rfl
    · exact (blk_cell k1 0).trans rfl
    · exact (blk_cell k1 1).trans rfl
    · exact (blk_cell k1 2).trans rfl⟩⟩
  have HL := Lib.hid (nlay_calls (cr := 3) (by simp) (by intro r hr; simp at hr; omega) hU)
  have HW1 := Lib.hid hW1
  clear hW1 hU k1
  go_enter Try.func11, Try.ntmps11
  go_wp2_with fail
  rw [← HW1.out]
  clear HW1
  refine HL.out.mono ?_
  rintro e W2 ⟨mb, cb, m, z, H, t0, t1, t2, l, vs, hs, A1, A2, AN, c1, c2, kN, rfl, hy, hA, hO1, hO2, hRN, hB2, hmb, hcb⟩
  obtain ⟨W3, hW3⟩ : ∃ W3 : World, W3 = W2.alloc (.cells (yardV mb H ⟨#[107]⟩ t0 (.slice AN 2 kN) (.slice A1 vs.length c1) (.slice A2 hs.length c2)) 48) := ⟨_, rfl⟩
  have hb3 : Below W2.heap.size W2 W3 := hW3 ▸ below_alloc (Below.refl _ _) _
  have ky : W3.heap[W2.heap.size]? = some (.cells (yardV mb H ⟨#[107]⟩ t0 (.slice AN 2 kN) (.slice A1 vs.length c1) (.slice A2 hs.length c2)) 48 (0, 0)) := hW3 ▸ blk_new _ _
  have hA3 := hA.below hb3
  have hP1 := hO1.below hb3
  have hP2 := hO2.below hb3
  have HB3 := Lib.hid (below_then (below_then hB1 hB1.size hB2) (by have := hB1.size; have := hB2.size; omega) hb3)
  have hsz := hB1.size
  have HW3 := Lib.hid hW3
  have hvl : vs = [7, 5, 2] := hy.vr.trans (by decide)
  clear hW3 hb3 hB2 hB1 hA hO1 hO2 hRN HL
  have hA4 := hA3.alloc (port0 mb)
  have hP4 : PD (W3.alloc (port0 mb)) W3.heap.size mb := blk_new _ _
  have hbp : Below W3.heap.size W3 (W3.alloc (port0 mb)) := below_alloc (Below.refl _ _) _
  have HD := Lib.hid (do1_calls (mb := mb) (fun args W => enters_ Try.func45 (by kernel_rfl) rfl args W) (nawake_fn (St.refl hA4 hP4) hy (blk_below ky hbp) (hP2.below hbp)))
  have hmf := makeFunc_run
  have hta := ta_bool true
  clear hA4 hP4 hbp hy
  subst hvl
  obtain ⟨g1, eg1, hc0⟩ := hP1.cell 0 (by simp)
  have hc2 := (show OwnI W3 W1.heap.size (.slice (some ⟨g1, 0, none⟩) [(7 : Int), 5, 2].length c1) [7, 5, 2] by rw [← eg1]; exact hP1).cell_at (j := 2) (by simp)
  subst eg1
  have d0 : W3.cell? ⟨g1, 0, none⟩ = some (.int .i64 7) := hc0
  have d2 : W3.cell? ⟨g1, 2, none⟩ = some (.int .i64 2) := hc2
  obtain ⟨y0, y1, y2, y3, y4, y5, y6⟩ := box7 ky
  simp only [List.length_cons, List.length_nil, Nat.zero_add, Nat.reduceAdd] at y5 HW3 ⊢
  clear hc0 hc2 hP1 hP2 hA3 ky
  go_upto_region 2 with fail
  rw [← HW3.out]
  clear HW3
  go_wp2_with fail
  refine HD.out.mono ?_
  rintro e W5 ⟨rfl, hF⟩
  have hF5 := (Fr.of_below (below_alloc (Below.refl W3.heap.size W3) (port0 mb)) mb cb).trans hF
  have HBF := Lib.hid (hF5.over HB3.out HB3.out.size (by omega) (by omega))
  clear hF5 hF y0 y1 y2 y3 y4 y5 y6 d0 d2 HD
  go_wp2_with fail
  go_ret
  exact ⟨rfl, HBF.out⟩
end
end Go.Proofs.Ytcfbjcadpcedhaa.Mem
