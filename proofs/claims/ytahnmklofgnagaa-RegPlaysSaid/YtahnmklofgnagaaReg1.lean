/- Registers, by a port that asks memory at once: Init. -/
import Derived.Test.YtahnmklofgnagaaReg0
namespace Go.Proofs.Ytahnmklofgnagaa.Mem
open Go.RowKit Go.Proofs.YtahnmklofgnagaaW.PrintWords Go.Proofs.YtahnmklofgnagaaW.PrintLast Go.Proofs.Ytahnmklofgnagaa.Tags
set_option linter.unusedVariables false
set_option linter.unusedSimpArgs false
section
variable {w0 w w' : World} {pb mb cb : Nat} {m m' : M}
/-- What Init comes to: memory, slots, places, the error. -/
def M.reg (m : M) (a b : Nat) : M × List Int × List Int × Int :=
  if (m.words a []).2.2 ≠ 0 then ((m.words a []).1, [], [], (m.words a []).2.2)
  else if ((m.words a []).1.words b []).2.2 ≠ 0 then ((((m.words a []).1.words b []).1.frees (m.words a []).2.1), [], [], ((m.words a []).1.words b []).2.2)
  else (((m.words a []).1.words b []).1, (m.words a []).2.1, ((m.words a []).1.words b []).2.1, 0)
def RegIn (w0 w : World) (pb mb cb : Nat) (top : Int) (r : M × List Int × List Int × Int) (e : Ending) (w' : World) : Prop := ∃ A1 c1 A2 c2, e = .returned (.tuple #[.agg #[.int .i64 (if r.2.2.2 = 0 then top else 0), .slice A1 r.2.1.length c1, .slice A2 r.2.2.1.length c2], .int .i64 r.2.2.2]) ∧ OwnI w' w.heap.size (.slice A1 r.2.1.length c1) r.2.1 ∧ OwnI w' w.heap.size (.slice A2 r.2.2.1.length c2) r.2.2.1 ∧ St w0 w' pb mb cb r.1 ∧ Fr w w' mb cb
theorem OwnI.lower {base base' : Nat} {v : Value} {xs : List Int} (h : OwnI w base v xs) (hb : base' ≤ base) : OwnI w base' v xs := own_weaken h hb
abbrev set3 (w : World) (b : Nat) (v0 v1 v2 : Value) : World := ((w.setCell ⟨b, 0, none⟩ v0).setCell ⟨b, 1, none⟩ v1).setCell ⟨b, 2, none⟩ v2
theorem only3 (w : World) (b : Nat) (v0 v1 v2 : Value) : Only w (set3 w b v0 v1 v2) b := ((Only.set w ⟨b, 0, none⟩ v0).trans (Only.set _ ⟨b, 1, none⟩ v1)).trans (Only.set _ ⟨b, 2, none⟩ v2)
theorem blk3 {b : Nat} {t : TypeId} {a0 a1 a2 : Value} (h : w.heap[b]? = some (.cells #[a0, a1, a2] t (0, 0))) (v0 v1 v2 : Value) : (set3 w b v0 v1 v2).heap[b]? = some (.cells #[v0, v1, v2] t (0, 0)) := blk_put (blk_put (blk_put h 0 v0 rfl) 1 v1 rfl) 2 v2 rfl
theorem M.words_len (n : Nat) : ∀ (m : M) (ts : List Int), (m.words n ts).2.1.length ≤ ts.length + n := by
  induction n with
  | zero => intro m ts; exact Nat.le_refl _
  | succ n ih =>
    intro m ts
    unfold M.words
    split
    · simp
    · have := ih (m.alloc (number 0)).1 (ts ++ [(m.alloc (number 0)).2.1])
      simp only [List.length_append, List.length_singleton] at this
      omega
set_option maxHeartbeats 3200000 in
set_option maxRecDepth 100000 in
theorem regInit_calls (h : St w0 w pb mb cb m) (top : Int) (a b : Nat) (ha : 1 ≤ a) (ha' : a ≤ 64) (hb : b ≤ 64) : Calls Try.prog 48 #[ptr pb, .int .i64 top, .int .i64 a, .int .i64 b] w (RegIn w0 w pb mb cb top (m.reg a b)) := by
  obtain ⟨M1, us, vs, e1, hy⟩ : ∃ M1 us vs e1, m.reg a b = (M1, us, vs, e1) := ⟨_, _, _, _, rfl⟩
  rw [hy]
  unfold M.reg at hy
  obtain ⟨W, hW⟩ : ∃ W : World, W = w.alloc (.cells #[.int .i64 0, .slice none 0 0, .slice none 0 0] 80) := ⟨_, rfl⟩
  have hbel : Below w.heap.size w W := hW ▸ below_alloc (Below.refl _ _) _
  have hK : W.heap[w.heap.size]? = some (.cells #[.int .i64 0, .slice none 0 0, .slice none 0 0] 80 (0, 0)) := hW ▸ blk_new w _
  have h1 := h.below hbel
  have hbw : w0.heap.size ≤ w.heap.size := h.F.size
  have hsW : w.heap.size ≤ W.heap.size := hbel.size
  have HW := Lib.hid hW
  have HF1 := Lib.hid (Fr.of_below hbel mb cb)
  have hal := M.words_len a m []
  clear hW hbel h
  have g1 : decide ((a : Int) < 1) = false := decide_eq_false (by omega)
  have g2 : decide ((64 : Int) < a) = false := decide_eq_false (by omega)
  have g3 : decide ((b : Int) < 0) = false := decide_eq_false (by omega)
  have g4 : decide ((64 : Int) < b) = false := decide_eq_false (by omega)
  go_enter Try.func48, Try.ntmps48
  go_upto_region 1 with fail
  rw [← HW.out]
  go_wp2_with fail
  refine (words_calls h1 a (by omega)).mono ?_
  rintro e W2 ⟨A1, c1, rfl, hO2, h2, hF⟩
  have hK2 := hF.blk h1.A hK (by decide) (by decide)
  have HF2 := Lib.hid (HF1.out.trans hF)
  have hs2 : w.heap.size ≤ W2.heap.size := HF2.out.size
  generalize m.words a [] = r at *
  obtain ⟨M2, ts, e2⟩ := r
  simp only at h2 hy hO2 hal ⊢
  clear hF h1 hK HF1 HW
  by_cases he : e2 = 0
  · subst he
    rw [if_neg (by decide)] at hy
    have hbl := M.words_len b M2 []
    go_wp2_with fail
    refine (words_calls h2 b (by omega)).mono ?_
    rintro e W3 ⟨A2, c2, rfl, hO3, h3, hF⟩
    have hK3 := hF.blk h2.A hK2 (by decide) (by decide)
    have hO2' := (hO2.fr h2.A hF).lower hsW
    have HF3 := Lib.hid (HF2.out.trans hF)
    generalize M2.words b [] = r at *
    obtain ⟨M3, ts3, e3⟩ := r
    simp only at h3 hy hO3 hbl ⊢
    have hO3' := hO3.lower hs2
    clear hF h2 hK2 HF2 hO2 hO3
    by_cases he : e3 = 0
    · subst he
      rw [if_neg (by decide)] at hy
      injection hy with hy1 hy
      injection hy with hy2 hy
      injection hy with hy3 hy4
      subst hy1 hy2 hy3 hy4
      obtain ⟨q0, q1, q2⟩ := box3 hK3
      have z0 := blk_frozen hK3 0
      have z1 := blk_frozen hK3 1
      have z2 := blk_frozen hK3 2
      have hk := blk3 hK3 (.int .i64 top) (.slice A1 ts.length c1) (.slice A2 ts3.length c2)
      have hon := only3 W3 w.heap.size (.int .i64 top) (.slice A1 ts.length c1) (.slice A2 ts3.length c2)
      have FIN := Lib.hid (show RegIn w0 w pb mb cb top (M3, ts, ts3, 0) (.returned (.tuple #[.agg #[.int .i64 top, .slice A1 ts.length c1, .slice A2 ts3.length c2], .int .i64 0])) _ from ⟨A1, c1, A2, c2, rfl, hO2'.only1 hon hK3 (by decide), hO3'.only1 hon hK3 (by decide), h3.only hon hK3 (by decide) (by decide) (by decide) hbw, HF3.out.only hon (Nat.le_refl _)⟩)
      obtain ⟨u0, u1, u2⟩ := box3 hk
      clear hk hon hO2' hO3' hK3
      go_wp2_with fail
      clear q0 q1 q2 z0 z1 z2
      exact bodyPost_ret (v := .tuple #[.agg #[.int .i64 top, .slice A1 ts.length c1, .slice A2 ts3.length c2], .int .i64 0]) (by simp [results, Try.results48, go_sem, u0, u1, u2]) rfl FIN.out
    · have g5 : (e3 != 0) = true := by simpa using he
      rw [if_pos he] at hy
      injection hy with hy1 hy
      injection hy with hy2 hy
      injection hy with hy3 hy4
      subst hy1 hy2 hy3 hy4
      go_wp2_with fail
      refine (undoR_calls h3 hO2' (by simp at hal; omega)).mono ?_
      rintro e W4 ⟨rfl, h4, hF⟩
      have hK4 := hF.blk h3.A hK3 (by decide) (by decide)
      have HF4 := Lib.hid (HF3.out.trans hF)
      clear hF h3 hK3 HF3 hO2' hO3'
      obtain ⟨q0, q1, q2⟩ := box3 hK4
      have z0 := blk_frozen hK4 0
      have z1 := blk_frozen hK4 1
      have z2 := blk_frozen hK4 2
      have hk := blk3 hK4 (.int .i64 0) (.slice none 0 0) (.slice none 0 0)
      have hon := only3 W4 w.heap.size (.int .i64 0) (.slice none 0 0) (.slice none 0 0)
      have FIN := Lib.hid (show RegIn w0 w pb mb cb top (M3.frees ts, [], [], e3) (.returned (.tuple #[.agg #[.int .i64 0, .slice none 0 0, .slice none 0 0], .int .i64 e3])) _ from ⟨none, 0, none, 0, by simp only [if_neg he]; rfl, OwnI.nil _ _, OwnI.nil _ _, h4.only hon hK4 (by decide) (by decide) (by decide) hbw, HF4.out.only hon (Nat.le_refl _)⟩)
      obtain ⟨u0, u1, u2⟩ := box3 hk
      clear hk hon hK4
      go_wp2_with fail
      clear q0 q1 q2 z0 z1 z2
      exact bodyPost_ret (v := .tuple #[.agg #[.int .i64 0, .slice none 0 0, .slice none 0 0], .int .i64 e3]) (by simp [results, Try.results48, go_sem, u0, u1, u2]) rfl FIN.out
  · have g5 : (e2 != 0) = true := by simpa using he
    rw [if_pos he] at hy
    injection hy with hy1 hy
    injection hy with hy2 hy
    injection hy with hy3 hy4
    subst hy1 hy2 hy3 hy4
    clear hO2
    obtain ⟨q0, q1, q2⟩ := box3 hK2
    have z0 := blk_frozen hK2 0
    have z1 := blk_frozen hK2 1
    have z2 := blk_frozen hK2 2
    have hk := blk3 hK2 (.int .i64 0) (.slice none 0 0) (.slice none 0 0)
    have hon := only3 W2 w.heap.size (.int .i64 0) (.slice none 0 0) (.slice none 0 0)
    have FIN := Lib.hid (show RegIn w0 w pb mb cb top (M2, [], [], e2) (.returned (.tuple #[.agg #[.int .i64 0, .slice none 0 0, .slice none 0 0], .int .i64 e2])) _ from ⟨none, 0, none, 0, by simp only [if_neg he]; rfl, OwnI.nil _ _, OwnI.nil _ _, h2.only hon hK2 (by decide) (by decide) (by decide) hbw, HF2.out.only hon (Nat.le_refl _)⟩)
    obtain ⟨u0, u1, u2⟩ := box3 hk
    clear hk hon hK2
    go_wp2_with fail
    clear q0 q1 q2 z0 z1 z2
    exact bodyPost_ret (v := .tuple #[.agg #[.int .i64 0, .slice none 0 0, .slice none 0 0], .int .i64 e2]) (by simp [results, Try.results48, go_sem, u0, u1, u2]) rfl FIN.out
end
end Go.Proofs.Ytahnmklofgnagaa.Mem
