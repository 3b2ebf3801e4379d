/- Nodes, by a port that asks memory at once: Make. -/
import Derived.Test.YtcfbjcadpcedhaaNode4
namespace Go.Proofs.Ytcfbjcadpcedhaa.Mem
open Go.RowKit Go.Proofs.YtcfbjcadpcedhaaW.PrintWords Go.Proofs.YtcfbjcadpcedhaaW.PrintLast Go.Proofs.Ytcfbjcadpcedhaa.Tags
set_option linter.unusedVariables false
set_option linter.unusedSimpArgs false
section
variable {w0 w w' : World} {pb mb cb : Nat} {m m' : M}
theorem Fr.grown {base : Nat} {v : Value} {xs : List Int} (hF : Fr w0 w mb cb) (h : OwnI w base v xs) (hb : w0.heap.size ≤ base) (hg : w.grownBy w' v.ownBlock) : Fr w0 w' mb cb :=
  ⟨hg.os.trans hF.os, hg.tape.trans hF.tape, hg.output.trans hF.output, Nat.le_trans hF.size hg.size, fun k hk h1 h2 => (hg.block k (Nat.lt_of_lt_of_le hk hF.size) (by intro e; have := h.base_ hb k e.symm; omega)).trans (hF.block k hk h1 h2)⟩
theorem St.grown {base : Nat} {v : Value} {xs : List Int} (h : St w0 w pb mb cb m) (hU : OwnI w base v xs) (hb : w0.heap.size ≤ base) (hg : w.grownBy w' v.ownBlock) : St w0 w' pb mb cb m :=
  ⟨h.A.grown hU hg, (hg.block pb h.lt_pb (hU.ne h.P (by decide))).trans h.P, h.F.grown hU hb hg⟩
theorem RdT.lt {A : Option Addr} {xs : List Int} (h : RdT w A xs) : ∀ ad, A = some ad → ad.block < w.heap.size := fun ad e => by
  obtain ⟨_, cs, hc⟩ := h.2 ad e
  exact blk_lt hc
theorem RdT.grown {A : Option Addr} {xs ys : List Int} {base : Nat} {v : Value} (h : RdT w A xs) (hO : OwnI w base v ys) (hlt : ∀ ad, A = some ad → ad.block < base) (hg : w.grownBy w' v.ownBlock) : RdT w' A xs := by
  have hk : ∀ ad, A = some ad → w'.heap[ad.block]? = w.heap[ad.block]? := fun ad e => hg.block _ (h.lt ad e) (fun e2 => by
    have := hO.base_ (Nat.le_refl _) _ e2.symm
    have := hlt ad e
    omega)
  refine ⟨⟨h.1.1, h.1.2.1, fun hn => ?_⟩, fun ad e => ?_⟩
  · obtain ⟨ad, e, hc⟩ := h.1.2.2 hn
    exact ⟨ad, e, fun j hj => (World.cell?_of_block (a := ad.add j) (by rw [show (ad.add j).block = ad.block by unfold Addr.add; split <;> rfl]; exact hk ad e)).trans (hc j hj)⟩
  · obtain ⟨e1, cs, hc⟩ := h.2 ad e
    exact ⟨e1, cs, (hk ad e).trans hc⟩
/-- So many words are allocated; where there is no room those that were are freed again. -/
def M.allocs : M → List Int → List Int → M × List Int × Int
  | m, [], ts => (m, ts, 0)
  | m, v :: vs, ts => if (m.alloc (number v)).2.2 ≠ 0 then ((m.alloc (number v)).1.frees ts, [], (m.alloc (number v)).2.2) else M.allocs (m.alloc (number v)).1 vs (ts ++ [(m.alloc (number v)).2.1])
/-- What Make comes to. -/
def MakeIn (w0 w : World) (pb mb cb : Nat) (low : ByteArray) (n : Nat) (r : M × List Int × Int) (e : Ending) (w' : World) : Prop :=
  Fr w w' mb cb ∧ ((r.2.2 ≠ 0 ∧ e = .returned (.tuple #[.int .i64 0, .int .i64 r.2.2]) ∧ St w0 w' pb mb cb r.1) ∨
    (r.2.2 = 0 ∧ ∃ t0 rest A k, r.2.1 = t0 :: rest ∧ rest.length = n ∧ RdT w' A rest ∧ (∀ ad, A = some ad → w.heap.size ≤ ad.block) ∧ ∃ M2 x2 e2, r.1.alloc (.iface 46 (Nd.v ⟨low, t0, A, n, k⟩)) = (M2, x2, e2) ∧
      ((e2 = 0 ∧ e = .returned (.tuple #[.int .i64 x2, .int .i64 0]) ∧ St w0 w' pb mb cb M2) ∨ (e2 ≠ 0 ∧ e = .returned (.tuple #[.int .i64 0, .int .i64 e2]) ∧ St w0 w' pb mb cb (M2.frees (t0 :: rest))))))
set_option maxHeartbeats 6400000 in
set_option maxRecDepth 100000 in
theorem make_calls (h : St w0 w pb mb cb m) (low : ByteArray) (head : Int) {A : Option Addr} {c : Nat} {xs : List Int} (hR : RdT w A xs) (hl : xs.length ≤ 900) :
    Calls Try.prog 15 #[ptr pb, .string low, .int .i64 head, .slice A xs.length c] w (MakeIn w0 w pb mb cb low xs.length (m.allocs (head :: xs) [])) := by
  obtain ⟨R, hRR⟩ : ∃ R, m.allocs (head :: xs) [] = R := ⟨_, rfl⟩
  rw [hRR]
  have hw0 : w0.heap.size ≤ w.heap.size := h.F.size
  obtain ⟨W1, hW1⟩ : ∃ W1 : World, W1 = w.alloc (.cells #[.int .i64 head] 3) := ⟨_, rfl⟩
  obtain ⟨W2, hW2⟩ : ∃ W2 : World, W2 = W1.alloc (.cells #[.slice (some ⟨w.heap.size, 0, none⟩) 1 1, .slice A xs.length c] 32) := ⟨_, rfl⟩
  have hb1 : Below w.heap.size w W1 := hW1 ▸ below_alloc (Below.refl _ _) _
  have hb2 : Below W1.heap.size W1 W2 := hW2 ▸ below_alloc (Below.refl _ _) _
  have s1 := hb1.size
  have s2 := hb2.size
  have hc : W2.heap[w.heap.size]? = some (.cells #[.int .i64 head] 3 (0, 0)) := blk_below (hW1 ▸ blk_new _ _) hb2
  have hg : W2.heap[W1.heap.size]? = some (.cells #[.slice (some ⟨w.heap.size, 0, none⟩) [head].length 1, .slice A xs.length c] 32 (0, 0)) := hW2 ▸ blk_new _ _
  have hr1 : Rd W2 (some ⟨w.heap.size, 0, none⟩) [head] := ⟨rfl, by simp, fun _ => ⟨_, rfl, fun j hj => by
    have hj' : j < 1 := hj
    obtain rfl : j = 0 := by omega
    rw [Addr.add_lit, Nat.zero_add]
    exact (blk_cell hc 0).trans rfl⟩⟩
  have hcc := concat_calls (w := W2) hg hr1 (((hR.below hb1).below hb2).1) (by simp; omega) (by simp; omega)
  rw [show W1.heap.size = w.heap.size + 1 by rw [hW1]; simp] at hcc
  have HC := Lib.hid hcc
  have hB2 := below_then hb1 s1 hb2
  have h2 := h.below hB2
  have HB2 := Lib.hid hB2
  have HW1 := Lib.hid hW1
  have HW2 := Lib.hid hW2
  have HRR := Lib.hid hRR
  clear hcc hc hg hr1 hb1 hb2 hW1 hW2 hR hB2 hRR h
  go_enter Try.func15, Try.ntmps15
  go_wp2_with fail
  rw [← HW1.out, ← HW2.out]
  refine HC.out.mono ?_
  rintro e W3 ⟨v, rfl, hO, hB3⟩
  rw [show [head] ++ xs = head :: xs from rfl] at hO
  obtain ⟨ys, hys⟩ : ∃ ys, head :: xs = ys := ⟨_, rfl⟩
  rw [hys] at hO
  have hyl : ys.length = xs.length + 1 := by rw [← hys]; simp
  obtain ⟨A3, c3, rfl⟩ := hO.slice
  have hL := hO.rd (by omega)
  have h3 := h2.below hB3
  have HF3 := Lib.hid ((Fr.of_below HB2.out mb cb).trans (Fr.of_below hB3 mb cb))
  have hs3 := HF3.out.size
  have START := Lib.hid (show ∃ (k : Nat) (m : M) (ts : List Int), k ≤ ys.length ∧ Value.int .i64 0 = .int .i64 k ∧ ts.length = k ∧ m.allocs (ys.drop k) ts = R ∧ RdT W3 A3 ys ∧ OwnI W3 W3.heap.size (.slice none 0 0) ts ∧ St w0 W3 pb mb cb m ∧ Fr w W3 mb cb ∧ W3.heap.size ≤ W3.heap.size from ⟨0, m, [], by omega, rfl, rfl, by rw [← hys]; exact HRR.out, hL, OwnI.nil _ _, h3, HF3.out, Nat.le_refl _⟩)
  have HLT := Lib.hid hL.lt
  have HYL := Lib.hid hyl
  have HYS := Lib.hid hys
  clear hO hB3 h2 hL h3 hyl hys HC HW1 HW2
  go_wp2_with fail
  go_loopw [10, 23] (fun v i wr => ∃ (k : Nat) (m : M) (ts : List Int), k ≤ ys.length ∧ i = .int .i64 k ∧ ts.length = k ∧ m.allocs (ys.drop k) ts = R ∧ RdT wr A3 ys ∧ OwnI wr W3.heap.size v ts ∧ St w0 wr pb mb cb m ∧ Fr w wr mb cb ∧ W3.heap.size ≤ wr.heap.size) (fun _ i _ => ys.length - (intOf i).toNat)
  case atStart => exact START.out
  case round =>
    clear START
    obtain ⟨k, m, ts, hk, rfl, htl, hal, hL, hT, hS, hF, hsz⟩ := hrel
    have hty : ts.length ≤ 901 := by have := HYL.out; omega
    have hyl2 : ys.length ≤ 901 := by have := HYL.out; omega
    obtain ⟨bt, ct, rfl⟩ := hT.slice
    have HTL := Lib.hid htl
    clear htl
    by_cases hlt : k < ys.length
    · have g1 : decide (k < ys.length) = true := decide_eq_true hlt
      obtain ⟨g, o, eg, hcl⟩ := hL.at_ k hlt
      have hdr : ys.drop k = ys.getD k 0 :: ys.drop (k + 1) := by
        rw [List.getD_eq_getElem?_getD, List.getElem?_eq_getElem hlt]
        exact List.drop_eq_getElem_cons hlt
      rw [hdr] at hal
      unfold M.allocs at hal
      obtain ⟨y, hy⟩ : ∃ y, ys.getD k 0 = y := ⟨_, rfl⟩
      rw [hy] at hcl hal
      obtain ⟨M1, x1, e1, ha⟩ : ∃ M1 x1 e1, m.alloc (number y) = (M1, x1, e1) := ⟨_, _, _, rfl⟩
      rw [ha] at hal
      simp only at hal
      have HA := Lib.hid ha
      have HAL := Lib.hid hal
      have HHL := Lib.hid hL
      subst eg
      clear ha hal hy hdr hL
      go_wp2_with fail
      refine (qAllocWord hS y).mono ?_
      rw [HA.out]
      rintro e W4 ⟨rfl, h4, hF4⟩
      have hL4 := HHL.out.fr hS.A hF4
      have hT4 := hT.fr hS.A hF4
      have HF4 := Lib.hid (hF.trans hF4)
      have hs4 := HF4.out.size
      have hs34 : W3.heap.size ≤ W4.heap.size := Nat.le_trans hsz hF4.size
      clear hF4 hF hT hcl HHL hS
      by_cases he : e1 = 0
      · subst he
        have hal' := HAL.out
        rw [if_neg (by decide)] at hal'
        have HAL2 := Lib.hid hal'
        clear hal'
        go_wp2_with (at_builtin; refine append_I (w0 := _) rfl _ _ rfl W3.heap.size _ ts x1 hT4 rfl rfl (Below.refl _ _) hs34 (by omega) ?_)
        intro v1 w6 hO1 _ hg6 hat
        have h6 := h4.grown hT4 (by omega) hg6
        have hL6 := hL4.grown hT4 HLT.out hg6
        have HF6 := Lib.hid (HF4.out.grown hT4 (by omega) hg6)
        have hs36 : W3.heap.size ≤ w6.heap.size := Nat.le_trans hs34 hg6.size
        clear hg6 hat h4 hT4 hL4
        go_wp2_with fail
        go_roundw
        case rel => exact ⟨k + 1, M1, ts ++ [x1], by omega, by go_num, by rw [List.length_append, HTL.out]; rfl, HAL2.out, hL6, hO1, h6, HF6.out, hs36⟩
        case measure => simp [intOf]; omega
      · have g2 : (e1 != 0) = true := by simpa using he
        have hal' := HAL.out
        rw [if_pos he] at hal'
        have HAL2 := Lib.hid hal'
        clear hal'
        go_wp2_with fail
        refine (nfree_calls h4 (hT4.rd (by omega)) (by omega)).mono ?_
        rintro e W5 ⟨rfl, h5, hF5⟩
        have HF5 := Lib.hid (HF4.out.trans hF5)
        clear hF5 h4
        go_wp2_with fail
        go_ret2
        exact ⟨HF5.out, Or.inl (by rw [← HAL2.out]; exact ⟨he, rfl, h5⟩)⟩
    · obtain rfl : k = ys.length := by omega
      have g1 : decide (ys.length < ys.length) = false := decide_eq_false (by omega)
      rw [List.drop_length] at hal
      unfold M.allocs at hal
      have htl2 : ts.length = xs.length + 1 := HTL.out.trans HYL.out
      obtain ⟨t0, rest, rfl⟩ : ∃ t0 rest, ts = t0 :: rest := by
        cases ts with
        | nil => simp at htl2
        | cons t0 rest => exact ⟨t0, rest, rfl⟩
      have hrl : rest.length = xs.length := by simpa using htl2
      obtain ⟨g, eg, hcl⟩ := hT.cell 0 (by simp)
      have hcl' : wr.cell? ⟨g, 0, none⟩ = some (.int .i64 t0) := hcl
      subst eg
      have hcp : rest.length + 1 ≤ ct := own_cap hT
      have hgb : w.heap.size ≤ g := Nat.le_trans hs3 (hT.base_ (Nat.le_refl _) g rfl)
      have hRd := RdT.tail (c := 0) (hT.rd (by simp; omega))
      have hRd0 := hT.rd (by simp; omega)
      have e1 : (t0 :: rest).length = rest.length + 1 := rfl
      rw [e1]
      have HAL := Lib.hid hal
      have HRL := Lib.hid hrl
      have hS1 := hS.drewN 1
      have hRd1 := hRd.below (pw_below_drewN (Below.refl _ _) 1)
      have hRd2 := hRd0.below (pw_below_drewN (Below.refl _ _) 1)
      have HF1 := Lib.hid (hF.drewN 1)
      have hi1 : (1 : Int) ≤ (rest.length : Int) + 1 := by omega
      have hrl9 : rest.length ≤ 900 := by have := HRL.out; omega
      clear hal hrl htl2 hcl hL hT hS hF hRd hRd0 e1
      by_cases hct : ct = 1
      · subst hct
        obtain rfl : rest = [] := List.eq_nil_of_length_eq_zero (by omega)
        have hRd1 : RdT (wr.drewN 1) (some ⟨g, 0, none⟩) [] := ⟨⟨rfl, by simp, fun hn => by simp at hn⟩, hRd2.2⟩
        clear hcp
        simp only [List.length_nil, Nat.zero_add]
        go_upto_region 11 with fail
        refine start_ (n := 15) (S := fun w' => w'.cell? ⟨g, 0, none⟩ = some (.int .i64 t0) ∧ True) (ds := []) #[false, false, false, false, false, false, false, false, false, false, false, false, false, false, false] rfl rfl rfl (⟨hcl', trivial⟩) ?_
        intro hHeld
        refine pure_ (i := 0) (N := some 45) (v := ?_) (a' := ?_) #[true, false, false, false, false, false, false, false, false, false, false, false, false, false, false] rfl rfl (by kernel_rfl) (fun _ _ _ h => h) (Or.inl ⟨by rfl, ?_⟩) ?_ ?_
        rotate_left
        · intro w'
          go_simp
          with_reducible rfl
        rotate_left
        · simp only [Act.put, List.setIfInBounds_toArray, List.set_cons_zero, List.set_cons_succ, i64_w, i32_w]
          rfl
        refine pure_ (i := 1) (N := some 46) (v := ?_) (a' := ?_) #[true, true, false, false, false, false, false, false, false, false, false, false, false, false, false] rfl rfl (by kernel_rfl) (fun _ _ _ h => h) (Or.inl ⟨by rfl, ?_⟩) ?_ ?_
        rotate_left
        · intro w'
          go_simp
          with_reducible rfl
        rotate_left
        · simp only [Act.put, List.setIfInBounds_toArray, List.set_cons_zero, List.set_cons_succ, i64_w, i32_w]
          rfl
        refine pure_ (i := 2) (N := some 47) (v := ?_) (a' := ?_) #[true, true, true, false, false, false, false, false, false, false, false, false, false, false, false] rfl rfl (by kernel_rfl) (fun _ _ _ h => h) (Or.inl ⟨by rfl, ?_⟩) ?_ ?_
        rotate_left
        · intro w'
          go_simp
          with_reducible rfl
        rotate_left
        · simp only [Act.put, List.setIfInBounds_toArray, List.set_cons_zero, List.set_cons_succ, i64_w, i32_w]
          rfl
        refine pure_ (i := 3) (N := some 48) (v := ?_) (a' := ?_) #[true, true, true, true, false, false, false, false, false, false, false, false, false, false, false] rfl rfl (by kernel_rfl) (fun _ _ _ h => h) (Or.inl ⟨by rfl, ?_⟩) ?_ ?_
        rotate_left
        · intro w'
          go_simp
          with_reducible rfl
        rotate_left
        · simp only [Act.put, List.setIfInBounds_toArray, List.set_cons_zero, List.set_cons_succ, i64_w, i32_w]
          rfl
        refine take_ (i := 4) (N := some 49) (v := ?_) (a' := ?_) #[true, true, true, true, true, false, false, false, false, false, false, false, false, false, false] rfl rfl (by kernel_rfl) (fun _ _ _ h => h) (Or.inl ⟨by rfl, ?_⟩) hHeld ?_ ?_
        rotate_left
        · rintro w' hHeld'
          have hHeld'' := hHeld'
          (try obtain ⟨r0_, r1_⟩ := hHeld')
          (try obtain ⟨r1_, r2_⟩ := r1_)
          (try obtain ⟨r2_, r3_⟩ := r2_)
          (try obtain ⟨r3_, r4_⟩ := r3_)
          (try obtain ⟨r4_, r5_⟩ := r4_)
          (try obtain ⟨r5_, r6_⟩ := r5_)
          (try obtain ⟨r6_, r7_⟩ := r6_)
          (try obtain ⟨r7_, r8_⟩ := r7_)
          (try obtain ⟨r8_, r9_⟩ := r8_)
          go_simp
          with_reducible rfl
        rotate_left
        · simp only [Act.put, List.setIfInBounds_toArray, List.set_cons_zero, List.set_cons_succ, i64_w, i32_w]
          rfl
        refine pure_ (i := 5) (N := some 50) (v := ?_) (a' := ?_) #[true, true, true, true, true, true, false, false, false, false, false, false, false, false, false] rfl rfl (by kernel_rfl) (fun _ _ _ h => h) (Or.inl ⟨by rfl, ?_⟩) ?_ ?_
        rotate_left
        · intro w'
          go_simp
          with_reducible rfl
        rotate_left
        · simp only [Act.put, List.setIfInBounds_toArray, List.set_cons_zero, List.set_cons_succ, i64_w, i32_w]
          rfl
        refine pure_ (i := 6) (N := some 51) (v := ?_) (a' := ?_) #[true, true, true, true, true, true, true, false, false, false, false, false, false, false, false] rfl rfl (by kernel_rfl) (fun _ _ _ h => h) (Or.inl ⟨by rfl, ?_⟩) ?_ ?_
        rotate_left
        · intro w'
          go_simp
          with_reducible rfl
        rotate_left
        · simp only [Act.put, List.setIfInBounds_toArray, List.set_cons_zero, List.set_cons_succ, i64_w, i32_w]
          rfl
        refine pure_ (i := 7) (N := some 52) (v := ?_) (a' := ?_) #[true, true, true, true, true, true, true, true, false, false, false, false, false, false, false] rfl rfl (by kernel_rfl) (fun _ _ _ h => h) (Or.inl ⟨by rfl, ?_⟩) ?_ ?_
        rotate_left
        · intro w'
          go_simp
          with_reducible rfl
        rotate_left
        · simp only [Act.put, List.setIfInBounds_toArray, List.set_cons_zero, List.set_cons_succ, i64_w, i32_w]
          rfl
        refine pure_ (i := 8) (N := some 53) (v := ?_) (a' := ?_) #[true, true, true, true, true, true, true, true, true, false, false, false, false, false, false] rfl rfl (by kernel_rfl) (fun _ _ _ h => h) (Or.inl ⟨by rfl, ?_⟩) ?_ ?_
        rotate_left
        · intro w'
          go_simp
          with_reducible rfl
        rotate_left
        · simp only [Act.put, List.setIfInBounds_toArray, List.set_cons_zero, List.set_cons_succ, i64_w, i32_w]
          rfl
        refine one_ (i := 9) (N := some 54) #[true, true, true, true, true, true, true, true, true, true, false, false, false, false, false] rfl rfl (by kernel_rfl) (by decide) (fun K hSh => ?_)
        refine goes_ Try.func49 (by kernel_rfl) rfl #[ptr pb, .iface 46 (Nd.v ⟨low, t0, some ⟨g, 0, none⟩, 0, 0⟩)] (by rfl) rfl rfl (by (try simp only [List.map_toArray, List.map_cons, List.map_nil]); rfl) ?_
        refine (qAlloc hS1 46 (Nd.v ⟨low, t0, some ⟨g, 0, none⟩, 0, 0⟩) (okv_node _)).mono ?_
        obtain ⟨M2, x2, e2, hal2⟩ : ∃ M2 x2 e2, R.1.alloc (.iface 46 (Nd.v ⟨low, t0, some ⟨g, 0, none⟩, 0, 0⟩)) = (M2, x2, e2) := ⟨_, _, _, rfl⟩
        have hal3 := hal2
        rw [← HAL.out] at hal3
        simp only at hal3
        rw [hal3]
        have HAL2 := Lib.hid hal2
        clear hal2 hal3
        rintro e W4 ⟨rfl, h4, hF4⟩
        have hRd4 := hRd1.fr hS1.A hF4
        have hRd5 := hRd2.fr hS1.A hF4
        have hc4 : W4.cell? ⟨g, 0, none⟩ = some (.int .i64 t0) := by
          obtain ⟨g', o', e', hh⟩ := hRd5.at_ 0 (by simp)
          injection e' with e'
          injection e' with e1 e2 e3
          subst e1 e2
          exact hh
        have HF4 := Lib.hid (HF1.out.trans hF4)
        refine ⟨_, rfl, ?_⟩
        refine hSh.out _ _ ⟨hc4, trivial⟩ ?_
        clear hHeld hcl' hF4 hRd1 hRd2 hS1 hc4
        intro hHeld
        refine norm_ (a' := ?_) ?_ ?_
        rotate_left
        · simp only [Act.put, List.setIfInBounds_toArray, List.set_cons_zero, List.set_cons_succ, i64_w, i32_w]
          rfl
        refine pure_ (i := 10) (N := some 44) (v := ?_) (a' := ?_) #[true, true, true, true, true, true, true, true, true, true, true, false, false, false, false] rfl rfl (by kernel_rfl) (fun _ _ _ h => h) (Or.inl ⟨by rfl, ?_⟩) ?_ ?_
        rotate_left
        · intro w'
          go_simp
          with_reducible rfl
        rotate_left
        · simp only [Act.put, List.setIfInBounds_toArray, List.set_cons_zero, List.set_cons_succ, i64_w, i32_w]
          rfl
        refine pure_ (i := 11) (N := some 55) (v := ?_) (a' := ?_) #[true, true, true, true, true, true, true, true, true, true, true, true, false, false, false] rfl rfl (by kernel_rfl) (fun _ _ _ h => h) (Or.inl ⟨by rfl, ?_⟩) ?_ ?_
        rotate_left
        · intro w'
          go_simp
          with_reducible rfl
        rotate_left
        · simp only [Act.put, List.setIfInBounds_toArray, List.set_cons_zero, List.set_cons_succ, i64_w, i32_w]
          rfl
        refine pure_ (i := 12) (N := some 56) (v := ?_) (a' := ?_) #[true, true, true, true, true, true, true, true, true, true, true, true, true, false, false] rfl rfl (by kernel_rfl) (fun _ _ _ h => h) (Or.inl ⟨by rfl, ?_⟩) ?_ ?_
        rotate_left
        · intro w'
          go_simp
          with_reducible rfl
        rotate_left
        · simp only [Act.put, List.setIfInBounds_toArray, List.set_cons_zero, List.set_cons_succ, i64_w, i32_w]
          rfl
        refine pure_ (i := 13) (N := some 15) (v := ?_) (a' := ?_) #[true, true, true, true, true, true, true, true, true, true, true, true, true, true, false] rfl rfl (by kernel_rfl) (fun _ _ _ h => h) (Or.inl ⟨by rfl, ?_⟩) ?_ ?_
        rotate_left
        · intro w'
          go_simp
          with_reducible rfl
        rotate_left
        · simp only [Act.put, List.setIfInBounds_toArray, List.set_cons_zero, List.set_cons_succ, i64_w, i32_w]
          rfl
        refine pure_ (i := 14) (N := some 16) (v := ?_) (a' := ?_) #[true, true, true, true, true, true, true, true, true, true, true, true, true, true, true] rfl rfl (by kernel_rfl) (fun _ _ _ h => h) (Or.inl ⟨by rfl, ?_⟩) ?_ ?_
        rotate_left
        · intro w'
          go_simp
          with_reducible rfl
        rotate_left
        · simp only [Act.put, List.setIfInBounds_toArray, List.set_cons_zero, List.set_cons_succ, i64_w, i32_w]
          rfl
        refine done_ (by kernel_rfl) ?_
        clear hHeld
        by_cases he2 : e2 = 0
        · subst he2
          have FIN := Lib.hid (show MakeIn w0 w pb mb cb low xs.length R (.returned (.tuple #[.int .i64 x2, .int .i64 0])) W4 from ⟨HF4.out, Or.inr ⟨by rw [← HAL.out], t0, [], _, _, by rw [← HAL.out], HRL.out, hRd4, (fun ad e => by injection e with e; rw [← e]; exact hgb), M2, x2, 0, by rw [← HRL.out]; exact HAL2.out, Or.inl ⟨rfl, rfl, h4⟩⟩⟩)
          clear h4 hRd4 hRd5
          go_wp2_with fail
          go_ret2
          exact FIN.out
        · have g2 : (e2 != 0) = true := by simpa using he2
          go_wp2_with fail
          refine (nfree_calls h4 hRd5 (by simp <;> omega)).mono ?_
          rintro e W5 ⟨rfl, h5, hF5⟩
          have FIN := Lib.hid (show MakeIn w0 w pb mb cb low xs.length R (.returned (.tuple #[.int .i64 0, .int .i64 e2])) W5 from ⟨HF4.out.trans hF5, Or.inr ⟨by rw [← HAL.out], t0, [], _, _, by rw [← HAL.out], HRL.out, hRd4.fr h4.A hF5, (fun ad e => by injection e with e; rw [← e]; exact hgb), M2, x2, e2, by rw [← HRL.out]; exact HAL2.out, Or.inr ⟨he2, rfl, h5⟩⟩⟩)
          clear h5 hF5 h4 hRd4 hRd5
          go_wp2_with fail
          go_ret2
          exact FIN.out
      · have hct' := hct
        go_upto_region 11 with fail
        refine start_ (n := 15) (S := fun w' => w'.cell? ⟨g, 0, none⟩ = some (.int .i64 t0) ∧ True) (ds := []) #[false, false, false, false, false, false, false, false, false, false, false, false, false, false, false] rfl rfl rfl (⟨hcl', trivial⟩) ?_
        intro hHeld
        refine pure_ (i := 0) (N := some 45) (v := ?_) (a' := ?_) #[true, false, false, false, false, false, false, false, false, false, false, false, false, false, false] rfl rfl (by kernel_rfl) (fun _ _ _ h => h) (Or.inl ⟨by rfl, ?_⟩) ?_ ?_
        rotate_left
        · intro w'
          go_simp
          with_reducible rfl
        rotate_left
        · simp only [Act.put, List.setIfInBounds_toArray, List.set_cons_zero, List.set_cons_succ, i64_w, i32_w]
          rfl
        refine pure_ (i := 1) (N := some 46) (v := ?_) (a' := ?_) #[true, true, false, false, false, false, false, false, false, false, false, false, false, false, false] rfl rfl (by kernel_rfl) (fun _ _ _ h => h) (Or.inl ⟨by rfl, ?_⟩) ?_ ?_
        rotate_left
        · intro w'
          go_simp
          with_reducible rfl
        rotate_left
        · simp only [Act.put, List.setIfInBounds_toArray, List.set_cons_zero, List.set_cons_succ, i64_w, i32_w]
          rfl
        refine pure_ (i := 2) (N := some 47) (v := ?_) (a' := ?_) #[true, true, true, false, false, false, false, false, false, false, false, false, false, false, false] rfl rfl (by kernel_rfl) (fun _ _ _ h => h) (Or.inl ⟨by rfl, ?_⟩) ?_ ?_
        rotate_left
        · intro w'
          go_simp
          with_reducible rfl
        rotate_left
        · simp only [Act.put, List.setIfInBounds_toArray, List.set_cons_zero, List.set_cons_succ, i64_w, i32_w]
          rfl
        refine pure_ (i := 3) (N := some 48) (v := ?_) (a' := ?_) #[true, true, true, true, false, false, false, false, false, false, false, false, false, false, false] rfl rfl (by kernel_rfl) (fun _ _ _ h => h) (Or.inl ⟨by rfl, ?_⟩) ?_ ?_
        rotate_left
        · intro w'
          go_simp
          with_reducible rfl
        rotate_left
        · simp only [Act.put, List.setIfInBounds_toArray, List.set_cons_zero, List.set_cons_succ, i64_w, i32_w]
          rfl
        refine take_ (i := 4) (N := some 49) (v := ?_) (a' := ?_) #[true, true, true, true, true, false, false, false, false, false, false, false, false, false, false] rfl rfl (by kernel_rfl) (fun _ _ _ h => h) (Or.inl ⟨by rfl, ?_⟩) hHeld ?_ ?_
        rotate_left
        · rintro w' hHeld'
          have hHeld'' := hHeld'
          (try obtain ⟨r0_, r1_⟩ := hHeld')
          (try obtain ⟨r1_, r2_⟩ := r1_)
          (try obtain ⟨r2_, r3_⟩ := r2_)
          (try obtain ⟨r3_, r4_⟩ := r3_)
          (try obtain ⟨r4_, r5_⟩ := r4_)
          (try obtain ⟨r5_, r6_⟩ := r5_)
          (try obtain ⟨r6_, r7_⟩ := r6_)
          (try obtain ⟨r7_, r8_⟩ := r7_)
          (try obtain ⟨r8_, r9_⟩ := r8_)
          go_simp
          with_reducible rfl
        rotate_left
        · simp only [Act.put, List.setIfInBounds_toArray, List.set_cons_zero, List.set_cons_succ, i64_w, i32_w]
          rfl
        refine pure_ (i := 5) (N := some 50) (v := ?_) (a' := ?_) #[true, true, true, true, true, true, false, false, false, false, false, false, false, false, false] rfl rfl (by kernel_rfl) (fun _ _ _ h => h) (Or.inl ⟨by rfl, ?_⟩) ?_ ?_
        rotate_left
        · intro w'
          go_simp
          with_reducible rfl
        rotate_left
        · simp only [Act.put, List.setIfInBounds_toArray, List.set_cons_zero, List.set_cons_succ, i64_w, i32_w]
          rfl
        refine pure_ (i := 6) (N := some 51) (v := ?_) (a' := ?_) #[true, true, true, true, true, true, true, false, false, false, false, false, false, false, false] rfl rfl (by kernel_rfl) (fun _ _ _ h => h) (Or.inl ⟨by rfl, ?_⟩) ?_ ?_
        rotate_left
        · intro w'
          go_simp
          with_reducible rfl
        rotate_left
        · simp only [Act.put, List.setIfInBounds_toArray, List.set_cons_zero, List.set_cons_succ, i64_w, i32_w]
          rfl
        refine pure_ (i := 7) (N := some 52) (v := ?_) (a' := ?_) #[true, true, true, true, true, true, true, true, false, false, false, false, false, false, false] rfl rfl (by kernel_rfl) (fun _ _ _ h => h) (Or.inl ⟨by rfl, ?_⟩) ?_ ?_
        rotate_left
        · intro w'
          go_simp
          with_reducible rfl
        rotate_left
        · simp only [Act.put, List.setIfInBounds_toArray, List.set_cons_zero, List.set_cons_succ, i64_w, i32_w]
          rfl
        refine pure_ (i := 8) (N := some 53) (v := ?_) (a' := ?_) #[true, true, true, true, true, true, true, true, true, false, false, false, false, false, false] rfl rfl (by kernel_rfl) (fun _ _ _ h => h) (Or.inl ⟨by rfl, ?_⟩) ?_ ?_
        rotate_left
        · intro w'
          go_simp
          with_reducible rfl
        rotate_left
        · simp only [Act.put, List.setIfInBounds_toArray, List.set_cons_zero, List.set_cons_succ, i64_w, i32_w]
          rfl
        refine one_ (i := 9) (N := some 54) #[true, true, true, true, true, true, true, true, true, true, false, false, false, false, false] rfl rfl (by kernel_rfl) (by decide) (fun K hSh => ?_)
        refine goes_ Try.func49 (by kernel_rfl) rfl #[ptr pb, .iface 46 (Nd.v ⟨low, t0, some ⟨g, 1, none⟩, rest.length, ct - 1⟩)] (by rfl) rfl rfl (by (try simp only [List.map_toArray, List.map_cons, List.map_nil]); rfl) ?_
        refine (qAlloc hS1 46 (Nd.v ⟨low, t0, some ⟨g, 1, none⟩, rest.length, ct - 1⟩) (okv_node _)).mono ?_
        obtain ⟨M2, x2, e2, hal2⟩ : ∃ M2 x2 e2, R.1.alloc (.iface 46 (Nd.v ⟨low, t0, some ⟨g, 1, none⟩, rest.length, ct - 1⟩)) = (M2, x2, e2) := ⟨_, _, _, rfl⟩
        have hal3 := hal2
        rw [← HAL.out] at hal3
        simp only at hal3
        rw [hal3]
        have HAL2 := Lib.hid hal2
        clear hal2 hal3
        rintro e W4 ⟨rfl, h4, hF4⟩
        have hRd4 := hRd1.fr hS1.A hF4
        have hRd5 := hRd2.fr hS1.A hF4
        have hc4 : W4.cell? ⟨g, 0, none⟩ = some (.int .i64 t0) := by
          obtain ⟨g', o', e', hh⟩ := hRd5.at_ 0 (by simp)
          injection e' with e'
          injection e' with e1 e2 e3
          subst e1 e2
          exact hh
        have HF4 := Lib.hid (HF1.out.trans hF4)
        refine ⟨_, rfl, ?_⟩
        refine hSh.out _ _ ⟨hc4, trivial⟩ ?_
        clear hHeld hcl' hF4 hRd1 hRd2 hS1 hc4
        intro hHeld
        refine norm_ (a' := ?_) ?_ ?_
        rotate_left
        · simp only [Act.put, List.setIfInBounds_toArray, List.set_cons_zero, List.set_cons_succ, i64_w, i32_w]
          rfl
        refine pure_ (i := 10) (N := some 44) (v := ?_) (a' := ?_) #[true, true, true, true, true, true, true, true, true, true, true, false, false, false, false] rfl rfl (by kernel_rfl) (fun _ _ _ h => h) (Or.inl ⟨by rfl, ?_⟩) ?_ ?_
        rotate_left
        · intro w'
          go_simp
          with_reducible rfl
        rotate_left
        · simp only [Act.put, List.setIfInBounds_toArray, List.set_cons_zero, List.set_cons_succ, i64_w, i32_w]
          rfl
        refine pure_ (i := 11) (N := some 55) (v := ?_) (a' := ?_) #[true, true, true, true, true, true, true, true, true, true, true, true, false, false, false] rfl rfl (by kernel_rfl) (fun _ _ _ h => h) (Or.inl ⟨by rfl, ?_⟩) ?_ ?_
        rotate_left
        · intro w'
          go_simp
          with_reducible rfl
        rotate_left
        · simp only [Act.put, List.setIfInBounds_toArray, List.set_cons_zero, List.set_cons_succ, i64_w, i32_w]
          rfl
        refine pure_ (i := 12) (N := some 56) (v := ?_) (a' := ?_) #[true, true, true, true, true, true, true, true, true, true, true, true, true, false, false] rfl rfl (by kernel_rfl) (fun _ _ _ h => h) (Or.inl ⟨by rfl, ?_⟩) ?_ ?_
        rotate_left
        · intro w'
          go_simp
          with_reducible rfl
        rotate_left
        · simp only [Act.put, List.setIfInBounds_toArray, List.set_cons_zero, List.set_cons_succ, i64_w, i32_w]
          rfl
        refine pure_ (i := 13) (N := some 15) (v := ?_) (a' := ?_) #[true, true, true, true, true, true, true, true, true, true, true, true, true, true, false] rfl rfl (by kernel_rfl) (fun _ _ _ h => h) (Or.inl ⟨by rfl, ?_⟩) ?_ ?_
        rotate_left
        · intro w'
          go_simp
          with_reducible rfl
        rotate_left
        · simp only [Act.put, List.setIfInBounds_toArray, List.set_cons_zero, List.set_cons_succ, i64_w, i32_w]
          rfl
        refine pure_ (i := 14) (N := some 16) (v := ?_) (a' := ?_) #[true, true, true, true, true, true, true, true, true, true, true, true, true, true, true] rfl rfl (by kernel_rfl) (fun _ _ _ h => h) (Or.inl ⟨by rfl, ?_⟩) ?_ ?_
        rotate_left
        · intro w'
          go_simp
          with_reducible rfl
        rotate_left
        · simp only [Act.put, List.setIfInBounds_toArray, List.set_cons_zero, List.set_cons_succ, i64_w, i32_w]
          rfl
        refine done_ (by kernel_rfl) ?_
        clear hHeld
        by_cases he2 : e2 = 0
        · subst he2
          have FIN := Lib.hid (show MakeIn w0 w pb mb cb low xs.length R (.returned (.tuple #[.int .i64 x2, .int .i64 0])) W4 from ⟨HF4.out, Or.inr ⟨by rw [← HAL.out], t0, rest, _, _, by rw [← HAL.out], HRL.out, hRd4, (fun ad e => by injection e with e; rw [← e]; exact hgb), M2, x2, 0, by rw [← HRL.out]; exact HAL2.out, Or.inl ⟨rfl, rfl, h4⟩⟩⟩)
          clear h4 hRd4 hRd5
          go_wp2_with fail
          go_ret2
          exact FIN.out
        · have g2 : (e2 != 0) = true := by simpa using he2
          go_wp2_with fail
          refine (nfree_calls h4 hRd5 (by simp <;> omega)).mono ?_
          rintro e W5 ⟨rfl, h5, hF5⟩
          have FIN := Lib.hid (show MakeIn w0 w pb mb cb low xs.length R (.returned (.tuple #[.int .i64 0, .int .i64 e2])) W5 from ⟨HF4.out.trans hF5, Or.inr ⟨by rw [← HAL.out], t0, rest, _, _, by rw [← HAL.out], HRL.out, hRd4.fr h4.A hF5, (fun ad e => by injection e with e; rw [← e]; exact hgb), M2, x2, e2, by rw [← HRL.out]; exact HAL2.out, Or.inr ⟨he2, rfl, h5⟩⟩⟩)
          clear h5 hF5 h4 hRd4 hRd5
          go_wp2_with fail
          go_ret2
          exact FIN.out
end
end Go.Proofs.Ytcfbjcadpcedhaa.Mem
