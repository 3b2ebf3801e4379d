/- Registers, by a port that asks memory at once: words, undo. -/
import Derived.Test.YtahnmklofgnagaaAwake14
namespace Go.Proofs.Ytahnmklofgnagaa.Mem
open Go.RowKit Go.Proofs.YtahnmklofgnagaaW.PrintWords Go.Proofs.YtahnmklofgnagaaW.PrintLast Go.Proofs.Ytahnmklofgnagaa.Tags
set_option linter.unusedVariables false
set_option linter.unusedSimpArgs false
section
variable {w0 w w' : World} {pb mb cb : Nat} {m m' : M}
def M.frees (m : M) (ts : List Int) : M := ts.foldl (fun m h => (m.free h).1) m
theorem M.frees_take (m : M) (ts : List Int) (k : Nat) (h : k < ts.length) : m.frees (ts.take (k + 1)) = ((m.frees (ts.take k)).free (ts.getD k 0)).1 := by
  unfold M.frees
  rw [List.take_succ_eq_append_getElem h, List.foldl_append, List.getD_eq_getElem?_getD, List.getElem?_eq_getElem h]
  rfl
set_option maxHeartbeats 1600000 in
set_option maxRecDepth 100000 in
theorem undoR_calls (h : St w0 w pb mb cb m) {base c : Nat} {A : Option Addr} {ts : List Int} (hO : OwnI w base (.slice A ts.length c) ts) (hl : ts.length ≤ 1000) :
    Calls Try.prog 96 #[ptr pb, .slice A ts.length c] w (Endp w0 w pb mb cb (.tuple #[]) (m.frees ts)) := by
  go_enter Try.func96, Try.ntmps96
  go_wp2_with fail
  go_loopw [8] (fun i wr => ∃ k : Nat, k ≤ ts.length ∧ i = .int .i64 k ∧ St w0 wr pb mb cb (m.frees (ts.take k)) ∧ Fr w wr mb cb) (fun i _ => ts.length - (intOf i).toNat)
  case atStart => exact ⟨0, by omega, rfl, h, Fr.refl _ _ _⟩
  case round =>
    obtain ⟨k, hk, rfl, hS, hF⟩ := hrel
    have hO2 := hO.fr h.A hF
    by_cases hlt : k < ts.length
    · obtain ⟨g, eg, hcell⟩ := hO2.cell k hlt
      have hft := M.frees_take m ts k hlt
      generalize ts.getD k 0 = x at *
      have g1 : decide (k < ts.length) = true := decide_eq_true hlt
      subst eg
      have HFT := Lib.hid hft
      have HO := Lib.hid hO
      clear hft hO2 hO
      go_wp2_with fail
      refine (qFree hS x).mono ?_
      rintro e W1 ⟨rfl, h1, hF1⟩
      have HF := Lib.hid (hF.trans hF1)
      clear hF hF1 hS hcell
      go_wp2_with fail
      go_roundw
      case rel => exact ⟨k + 1, by omega, by go_num, by rw [HFT.out]; exact h1, HF.out⟩
      case measure => simp [intOf]; omega
    · obtain rfl : k = ts.length := by omega
      have g1 : decide (ts.length < ts.length) = false := decide_eq_false (by omega)
      rw [List.take_length] at hS
      go_wp2_with fail
      go_end0
      exact ⟨rfl, hS, hF⟩
def M.words : M → Nat → List Int → M × List Int × Int
  | m, 0, ts => (m, ts, 0)
  | m, n + 1, ts => if (m.alloc (number 0)).2.2 ≠ 0 then ((m.alloc (number 0)).1.frees ts, [], (m.alloc (number 0)).2.2) else M.words (m.alloc (number 0)).1 n (ts ++ [(m.alloc (number 0)).2.1])
def WordsIn (w0 w : World) (pb mb cb : Nat) (r : M × List Int × Int) (e : Ending) (w' : World) : Prop := ∃ A c, e = .returned (.tuple #[.slice A r.2.1.length c, .int .i64 r.2.2]) ∧ OwnI w' w.heap.size (.slice A r.2.1.length c) r.2.1 ∧ St w0 w' pb mb cb r.1 ∧ Fr w w' mb cb
set_option maxHeartbeats 1600000 in
set_option maxRecDepth 100000 in
theorem words_calls (h : St w0 w pb mb cb m) (n : Nat) (hn : n ≤ 1000) : Calls Try.prog 95 #[ptr pb, .int .i64 n] w (WordsIn w0 w pb mb cb (m.words n [])) := by
  obtain ⟨M1, us, e1, hy⟩ : ∃ M1 us e1, m.words n [] = (M1, us, e1) := ⟨_, _, _, rfl⟩
  rw [hy]
  have hw0 : w0.heap.size ≤ w.heap.size := h.F.size
  have START := Lib.hid (show ∃ (k : Nat) (m : M) (ts : List Int), k ≤ n ∧ Value.int .i64 0 = .int .i64 k ∧ ts.length = k ∧ m.words (n - k) ts = (M1, us, e1) ∧ St w0 w pb mb cb m ∧ OwnI w w.heap.size (.slice none 0 0) ts ∧ Fr w w mb cb from ⟨0, m, [], by omega, rfl, rfl, hy, h, OwnI.nil _ _, Fr.refl _ _ _⟩)
  clear hy h
  go_enter Try.func95, Try.ntmps95
  go_wp2_with fail
  go_loopw [6, 10] (fun v i wr => ∃ (k : Nat) (m : M) (ts : List Int), k ≤ n ∧ i = .int .i64 k ∧ ts.length = k ∧ m.words (n - k) ts = (M1, us, e1) ∧ St w0 wr pb mb cb m ∧ OwnI wr w.heap.size v ts ∧ Fr w wr mb cb) (fun _ i _ => n - (intOf i).toNat)
  case atStart => exact START.out
  case round =>
    clear START
    obtain ⟨k, m, ts, hk, rfl, hts, hy, h, hO, hF⟩ := hrel
    have htl : ts.length ≤ 1000 := by omega
    have HTS := Lib.hid hts
    clear hts
    obtain ⟨A, c, rfl⟩ := hO.slice
    by_cases hlt : k < n
    · obtain ⟨d, hd⟩ : ∃ d, n - k = d + 1 := ⟨n - k - 1, by omega⟩
      rw [hd] at hy
      unfold M.words at hy
      have g1 : decide (k < n) = true := decide_eq_true hlt
      go_wp2_with fail
      refine (qAllocWord h 0).mono ?_
      rintro e W1 ⟨rfl, h1, hF1⟩
      have hO1 := hO.fr h.A hF1
      have HF1 := Lib.hid (hF.trans hF1)
      have hs1 : w.heap.size ≤ W1.heap.size := HF1.out.size
      generalize m.alloc (number 0) = r at *
      obtain ⟨M2, y2, e2⟩ := r
      simp only at h1 hy ⊢
      clear hO h hF hF1
      by_cases he : e2 = 0
      · subst he
        rw [if_neg (by decide)] at hy
        go_wp2_with (at_builtin; refine append_I (w0 := W1) rfl _ _ rfl w.heap.size _ ts y2 hO1 rfl rfl (Below.refl _ _) hs1 (by omega) ?_)
        intro v1 w6 hO6 hB6 hg6 hat
        have h6 := h1.grown hO1 hw0 hg6
        have HF6 := Lib.hid (Fr.grown HF1.out hO1 (Nat.le_refl _) hg6)
        clear hg6 hat hB6 h1 hO1 HF1
        go_wp2_with fail
        go_roundw
        case rel => exact ⟨k + 1, M2, ts ++ [y2], by omega, by go_num, by simp [HTS.out], by rw [show n - (k + 1) = d by omega]; exact hy, h6, hO6, HF6.out⟩
        case measure => simp [intOf]; omega
      · have g2 : (e2 != 0) = true := by simpa using he
        rw [if_pos he] at hy
        injection hy with hy1 hy
        injection hy with hy2 hy3
        subst hy1 hy2 hy3
        go_wp2_with fail
        refine (undoR_calls h1 hO1 htl).mono ?_
        rintro e W2 ⟨rfl, h2, hF2⟩
        have HF2 := Lib.hid (HF1.out.trans hF2)
        clear hF2 h1 hO1 HF1
        go_wp2_with fail
        go_ret2
        exact ⟨none, 0, rfl, OwnI.nil _ _, h2, HF2.out⟩
    · have hkn : n - k = 0 := by omega
      rw [hkn] at hy
      unfold M.words at hy
      injection hy with hy1 hy
      injection hy with hy2 hy3
      subst hy1 hy2 hy3
      have g1 : decide (k < n) = false := decide_eq_false hlt
      have HKN := Lib.hid hkn
      clear hkn
      go_wp2_with fail
      go_ret2
      exact ⟨A, c, rfl, hO, h, hF⟩
end
end Go.Proofs.Ytahnmklofgnagaa.Mem
