/- (rundlelaw16.Yard).left and fits: what is left of a node's chain. -/
import Derived.Test.YtcfbjcadpcedhaaNLeft
namespace Go.Proofs.Ytcfbjcadpcedhaa.Mem
open Go.RowKit Go.Proofs.YtcfbjcadpcedhaaW.PrintWords Go.Proofs.YtcfbjcadpcedhaaW.PrintLast Go.Proofs.Ytcfbjcadpcedhaa.Tags
set_option linter.unusedVariables false
set_option linter.unusedSimpArgs false
section
variable {w0 w w' : World} {pb mb cb : Nat} {m m' : M}
set_option maxHeartbeats 6400000 in
set_option maxRecDepth 100000 in
theorem left_calls (hA : At w mb cb m) {z H t0 : Int} {low : ByteArray} {L : List (Int × Ag)} {vs hs : List Int} {A1 A2 AN : Option Addr} {c1 c2 nN kN : Nat} (hw : m.val t0 = some (number z)) (hC : Chain m z L) (hL : 1 ≤ L.length ∧ L.length ≤ vs.length) (hvl : vs.length ≤ 1000) :
    Calls Try.prog 55 #[.agg (yardV mb H low t0 (.slice AN nN kN) (.slice A1 vs.length c1) (.slice A2 hs.length c2))] w fun e w' => ∃ (us : List Int) (A : Option Addr) (c : Nat), us = vers L ∧ e = .returned (.tuple #[.slice A us.length c, .bool true]) ∧ OwnI w' w.heap.size (.slice A us.length c) us ∧ Fr w w' mb cb := by
  obtain ⟨W1, hW1⟩ : ∃ W1 : World, W1 = ((w.alloc (.cells (yardV mb H low t0 (.slice AN nN kN) (.slice A1 vs.length c1) (.slice A2 hs.length c2)) 48)).alloc (.cells #[.slice none 0 0] 32)).alloc (.cells #[.bool true] 4) := ⟨_, rfl⟩
  have hB1 : Below w.heap.size w W1 := hW1 ▸ below_alloc (below_alloc (below_alloc (Below.refl _ _) _) _) _
  have ky : W1.heap[w.heap.size]? = some (.cells (yardV mb H low t0 (.slice AN nN kN) (.slice A1 vs.length c1) (.slice A2 hs.length c2)) 48 (0, 0)) := hW1 ▸ blk_alloc (blk_alloc (blk_new _ _) _) _
  have ko : W1.heap[w.heap.size + 1]? = some (.cells #[.slice none 0 0] 32 (0, 0)) := by
    have e : w.heap.size + 1 = (w.alloc (.cells (yardV mb H low t0 (.slice AN nN kN) (.slice A1 vs.length c1) (.slice A2 hs.length c2)) 48)).heap.size := by simp
    rw [e]
    exact hW1 ▸ blk_alloc (blk_new _ _) _
  have kk : W1.heap[w.heap.size + 2]? = some (.cells #[.bool true] 4 (0, 0)) := by
    have e : w.heap.size + 2 = ((w.alloc (.cells (yardV mb H low t0 (.slice AN nN kN) (.slice A1 vs.length c1) (.slice A2 hs.length c2)) 48)).alloc (.cells #[.slice none 0 0] 32)).heap.size := by simp
    rw [e]
    exact hW1 ▸ blk_new _ _
  have hA1 := hA.below hB1
  have hA2 := hA1.alloc (port0 mb)
  have hP2 : PD (W1.alloc (port0 mb)) W1.heap.size mb := blk_new _ _
  have hS : St w (W1.alloc (port0 mb)) W1.heap.size mb cb m := ⟨hA2, hP2, Fr.of_below (hB1.alloc hB1.size (port0 mb)) mb cb⟩
  have HCL := Lib.hid (do3_calls (mb := mb) (fun args W => enters_ Try.func71 (by kernel_rfl) rfl args W) (left_fn hS hw hC hL hvl (blk_alloc ky (port0 mb)) (blk_alloc kk (port0 mb)) (blk_alloc ko (port0 mb)) (by omega) (by omega)))
  have hmf := makeFunc_run
  have HW1 := Lib.hid hW1
  obtain ⟨y0, y1, y2, y3, y4, y5, y6⟩ := box7 ky
  have hs1 := hB1.size
  clear hW1 hB1 ky ko kk hA1 hA2 hP2 hS hw hC hL
  go_enter Try.func55, Try.ntmps55
  go_upto_region 3 with fail
  rw [← HW1.out]
  clear HW1
  go_wp2_with fail
  refine HCL.out.mono ?_
  rintro e W2 ⟨rfl, m', us, A, c, hus, hlk, hS, hk, ho, hO⟩
  have o0 := box1 ho
  have q0 := box1 hk
  have HF := Lib.hid hS.F
  have HO := Lib.hid (hO.lower_ (show w.heap.size ≤ (W1.alloc (port0 mb)).heap.size by simp; omega))
  have HUS := Lib.hid hus
  clear hus hS hk ho hO HCL
  go_upto_region 4 with fail
  go_quiet (fail)
  have FIN := Lib.hid (And.intro (HO.out.below (pw_below_drewN (Below.refl W2.heap.size W2) nq)) (HF.out.drewN nq))
  clear HO HF
  go_wp2_with fail
  go_ret2
  exact ⟨us, A, c, HUS.out, rfl, FIN.out.1, FIN.out.2⟩
set_option maxHeartbeats 6400000 in
set_option maxRecDepth 100000 in
theorem fits_calls (hA : At w mb cb m) {z H t0 : Int} {low : ByteArray} {L : List (Int × Ag)} {vs hs : List Int} {A1 A2 AN : Option Addr} {c1 c2 nN kN B n : Nat} (hw : m.val t0 = some (number z)) (hC : Chain m z L) (hL : 1 ≤ L.length ∧ L.length ≤ vs.length) (hvl : vs.length ≤ 1000) (hO1 : OwnI w B (.slice A1 vs.length c1) vs) (hn : L.length = n) (hp : ∀ j, j < n → (vers L).getD j 0 = vs.getD j 0) :
    Calls Try.prog 28 #[.agg (yardV mb H low t0 (.slice AN nN kN) (.slice A1 vs.length c1) (.slice A2 hs.length c2)), .int .i64 n] w fun e w' => e = .returned (.bool true) ∧ Fr w w' mb cb := by
  obtain ⟨W1, hW1⟩ : ∃ W1 : World, W1 = w.alloc (.cells (yardV mb H low t0 (.slice AN nN kN) (.slice A1 vs.length c1) (.slice A2 hs.length c2)) 48) := ⟨_, rfl⟩
  have hB1 : Below w.heap.size w W1 := hW1 ▸ below_alloc (Below.refl _ _) _
  have ky : W1.heap[w.heap.size]? = some (.cells (yardV mb H low t0 (.slice AN nN kN) (.slice A1 vs.length c1) (.slice A2 hs.length c2)) 48 (0, 0)) := hW1 ▸ blk_new _ _
  have hs1 := hB1.size
  have hA1 := hA.below hB1
  have hP1 := hO1.below hB1
  have HCL := Lib.hid (left_calls (H := H) (low := low) (hs := hs) (A1 := A1) (A2 := A2) (AN := AN) (c1 := c1) (c2 := c2) (nN := nN) (kN := kN) hA1 hw hC hL hvl)
  have HF1 := Lib.hid (Fr.of_below hB1 mb cb)
  have HW1 := Lib.hid hW1
  have HP := Lib.hid hp
  have HL := Lib.hid hn
  have hnv : n ≤ vs.length := by omega
  obtain ⟨y0, y1, y2, y3, y4, y5, y6⟩ := box7 ky
  clear hW1 hB1 hw hC hO1 hp
  go_enter Try.func28, Try.ntmps28
  go_upto_region 1 with fail
  rw [← HW1.out]
  clear HW1
  go_wp2_with fail
  refine HCL.out.mono ?_
  rintro e W2 ⟨us, A, c, hus, rfl, hO, hF⟩
  have hun : us.length = n := by rw [hus, List.length_map]; exact hn
  have ky2 := hF.blk hA1 ky (by decide) (by decide)
  have hP2 := hP1.fr hA1 hF
  have HF2 := Lib.hid (HF1.out.trans hF)
  have hpe : ∀ j, j < n → us.getD j 0 = vs.getD j 0 := fun j hj => by rw [hus]; exact HP.out j hj
  have HPE := Lib.hid hpe
  have g1 : decide ((vs.length : Int) < (n : Int)) = false := decide_eq_false (by omega)
  have g2 : decide (vs.length < n) = false := decide_eq_false (by omega)
  have HST := Lib.hid (show OwnI W2 W1.heap.size (.slice A us.length c) us ∧ OwnI W2 B (.slice A1 vs.length c1) vs ∧ W2.heap[w.heap.size]? = some (.cells (yardV mb H low t0 (.slice AN nN kN) (.slice A1 vs.length c1) (.slice A2 hs.length c2)) 48 (0, 0)) ∧ Fr w W2 mb cb from ⟨hO, hP2, ky2, HF2.out⟩)
  clear y0 y1 y2 y3 y4 y5 y6
  obtain ⟨y0, y1, y2, y3, y4, y5, y6⟩ := box7 ky2
  have hun2 : (us.length : Int) = (n : Int) := by omega
  clear hus hO hF ky hA1 hP1 hP2 HF1 HF2 hpe HP HCL hL hn ky2
  go_wp2_with fail
  go_loopw [7] (fun i wr => ∃ k : Nat, k ≤ n ∧ i = .int .i64 k ∧ OwnI wr W1.heap.size (.slice A us.length c) us ∧ OwnI wr B (.slice A1 vs.length c1) vs ∧ wr.heap[w.heap.size]? = some (.cells (yardV mb H low t0 (.slice AN nN kN) (.slice A1 vs.length c1) (.slice A2 hs.length c2)) 48 (0, 0)) ∧ Fr w wr mb cb) (fun i _ => n - (intOf i).toNat)
  case atStart => exact ⟨0, by omega, rfl, HST.out⟩
  case round =>
    clear HST y0 y1 y2 y3 y4 y5 y6
    obtain ⟨k, hk, rfl, hO, hP, ky, hF⟩ := hrel
    by_cases hlt : k < n
    · have g3 : decide (k < n) = true := decide_eq_true hlt
      have g4 : decide (k < us.length) = true := decide_eq_true (by omega)
      have g5 : decide (k < vs.length) = true := decide_eq_true (by omega)
      have g6 : k < us.length := by omega
      have g7 : k < vs.length := by omega
      obtain ⟨q, hq⟩ : ∃ q, vs.getD k 0 = q := ⟨_, rfl⟩
      obtain ⟨gv, egv, -⟩ := hP.cell 0 (by omega)
      obtain ⟨gu, egu, -⟩ := hO.cell 0 (by omega)
      subst egv egu
      have d1 := hP.cell_at g7
      have d2 := hO.cell_at g6
      rw [HPE.out k hlt] at d2
      rw [hq] at d1 d2
      obtain ⟨y0, y1, y2, y3, y4, y5, y6⟩ := box7 ky
      have HST := Lib.hid (And.intro hO (And.intro hP (And.intro ky hF)))
      clear hq hO hP ky hF
      go_upto_region 7 with fail
      go_quiet (fail)
      have HST2 := Lib.hid (And.intro (HST.out.1.below (pw_below_drewN (Below.refl wr.heap.size wr) nq)) (And.intro (HST.out.2.1.below (pw_below_drewN (Below.refl wr.heap.size wr) nq)) (And.intro HST.out.2.2.1 (HST.out.2.2.2.drewN nq))))
      clear HST
      go_wp2_with fail
      go_roundw
      case rel => exact ⟨k + 1, by omega, by go_num, HST2.out.1, HST2.out.2.1, HST2.out.2.2.1, HST2.out.2.2.2⟩
      case measure => simp [intOf]; omega
    · have g3 : decide (k < n) = false := decide_eq_false hlt
      go_wp2_with fail
      go_ret
      exact ⟨rfl, hF⟩
end
end Go.Proofs.Ytcfbjcadpcedhaa.Mem
