/- NodeCuts: what a cut leaves, told in one way; the reference's Left. -/
import Derived.Test.YtcfbjcadpcedhaaNFells
namespace Go.Proofs.Ytcfbjcadpcedhaa.Mem
open Go.RowKit Go.Proofs.YtcfbjcadpcedhaaW.PrintWords Go.Proofs.YtcfbjcadpcedhaaW.PrintLast Go.Proofs.Ytcfbjcadpcedhaa.Tags
set_option linter.unusedVariables false
set_option linter.unusedSimpArgs false
section
variable {w0 w w' : World} {pb mb cb : Nat} {m m' m1 m2 : M}
/-- L is parted behind its first age that isn't newer. -/
def Cutp (L L' L2 : List (Int × Ag)) (least : Int) : Prop :=
  L = L' ++ L2 ∧ ((L2 = [] ∧ ∀ x ∈ L', ¬ x.2.ver ≤ least) ∨ ∃ l1 x, L' = l1 ++ [x] ∧ (∀ y ∈ l1, ¬ y.2.ver ≤ least) ∧ x.2.ver ≤ least)
theorem Cutp.again {L L' L2 K K2 : List (Int × Ag)} {least : Int} (h : Cutp L L' L2 least) (k : Cutp L' K K2 least) : K = L' ∧ K2 = [] := by
  obtain ⟨rfl, hk⟩ := k
  rcases hk with ⟨rfl, _⟩ | ⟨l1, x, rfl, _, hx⟩
  · simp
  · rcases h.2 with ⟨_, hn⟩ | ⟨q1, y, e, hn, _⟩
    · exact absurd hx (hn x (by simp))
    · cases K2 with
      | nil => simp
      | cons u K2 =>
        exfalso
        have hd : q1 = (l1 ++ [x] ++ (u :: K2)).dropLast := by rw [e]; simp
        have : x ∈ q1 := by
          rw [hd, List.dropLast_append_of_ne_nil (by simp)]
          simp
        exact hn x this hx
/-- What a cut comes to, in one way. -/
def CutTo (w0 w : World) (pb mb cb : Nat) (m : M) (n k : Nat) (g z : Int) (L : List (Int × Ag)) (least : Int) (e : Ending) (w' : World) : Prop :=
  ∃ m' L' L2 A c, Cutp L L' L2 least ∧ e = .returned (.tuple #[.slice A (2 * L2.length) c, .int .i64 0]) ∧ OwnI w' w.heap.size (.slice A (cellsOf L2).length c) (cellsOf L2) ∧ Chain m' z L' ∧ (prevs L').Nodup ∧ Shape m' n k g ∧ (∀ t, t ∉ prevs L → m'.val t = m.val t) ∧ St w0 w' pb mb cb m' ∧ Fr w w' mb cb
theorem cut_to {n k : Nat} {g z least : Int} {L : List (Int × Ag)} (hC : Chain m z L) (hnd : (prevs L).Nodup) {e : Ending} (h : CutIn w0 w pb mb cb m n k g L least e w') : CutTo w0 w pb mb cb m n k g z L least e w' := by
  obtain ⟨m', hS, hSt, hF, ⟨hall, rfl, hlk⟩ | ⟨l1, x, l2, A, c, rfl, hno, hle, rfl, hO, hZ⟩⟩ := h
  · exact ⟨m', L, [], none, 0, ⟨by simp, Or.inl ⟨rfl, hall⟩⟩, rfl, OwnI.nil _ _, hC.cells hlk.1, hnd, hS, fun t _ => val_cells hlk.1 t, hSt, hF⟩
  · have hap : prevs (l1 ++ x :: l2) = prevs l1 ++ prevs (x :: l2) := by simp [prevs]
    refine ⟨m', l1 ++ [x], l2, A, c, ⟨by simp, Or.inr ⟨l1, x, rfl, hno, hle⟩⟩, rfl, hO, hC.cut hnd hZ, ?_, hS, fun t ht => hZ.other t (fun hm => ht (by rw [hap]; exact List.mem_append_right _ hm)), hSt, hF⟩
    rw [show prevs (l1 ++ x :: l2) = prevs (l1 ++ [x]) ++ prevs l2 by simp [prevs]] at hnd
    exact (List.nodup_append.1 hnd).1
set_option maxHeartbeats 1600000 in
set_option maxRecDepth 100000 in
theorem refLeft_calls {A : Option Addr} {c : Nat} {xs : List Int} (hR : RdT w A xs) (hl : xs.length ≤ 1000) (v : Int) : Calls Try.prog 24 #[.slice A xs.length c, .int .i64 v] w fun e w' => ∃ r : Nat, e = .returned (.int .i64 r) ∧ ((r = xs.length ∧ ∀ x ∈ xs, ¬ x ≤ v) ∨ ∃ k : Nat, k < xs.length ∧ r = k + 1 ∧ RefAt xs v k) ∧ w = w' := by
  have HR := Lib.hid hR
  clear hR
  go_enter Try.func24, Try.ntmps24
  go_wp2_with fail
  refine (refAt_calls HR.out hl v).mono ?_
  rintro e w1 ⟨r, rfl, hr, rfl⟩
  rcases hr with ⟨rfl, hall⟩ | ⟨k, hk, rfl, hno, hle⟩
  · have HALL := Lib.hid hall
    clear hall
    go_wp2_with fail
    go_ret
    exact ⟨xs.length, rfl, Or.inl ⟨rfl, HALL.out⟩, rfl⟩
  · have HRA := Lib.hid (show RefAt xs v k from Or.inr ⟨k, hk, rfl, hno, hle⟩)
    have g1 : decide ((k : Int) < 0) = false := decide_eq_false (by omega)
    have w1 : IntKind.i64.wrap ((k : Int) + 1) = (k : Int) + 1 := IntWalk.i64_in _ (by omega)
    clear hno hle
    go_wp2_with fail
    go_ret
    exact ⟨k + 1, by simp, Or.inr ⟨k, hk, rfl, HRA.out⟩, rfl⟩
/-- The reference's number is what is left. -/
theorem left_eq {L L' L2 : List (Int × Ag)} {least : Int} {r : Nat} (h : Cutp L L' L2 least) (hr : (r = (vers L).length ∧ ∀ x ∈ vers L, ¬ x ≤ least) ∨ ∃ k : Nat, k < (vers L).length ∧ r = k + 1 ∧ RefAt (vers L) least k) : r = L'.length := by
  obtain ⟨rfl, h⟩ := h
  rcases h with ⟨rfl, hn⟩ | ⟨l1, x, rfl, hn, hx⟩
  · rcases hr with ⟨rfl, _⟩ | ⟨k, _, rfl, hk⟩
    · simp
    · have := hk.none (fun q hq => by
        obtain ⟨u, hu, rfl⟩ := List.mem_map.1 hq
        exact hn u (by simpa using hu))
      omega
  · have e : vers (l1 ++ [x] ++ L2) = vers l1 ++ x.2.ver :: vers L2 := by simp [vers]
    rcases hr with ⟨rfl, hall⟩ | ⟨k, _, rfl, hk⟩
    · exact absurd hx (hall _ (by rw [e]; simp))
    · rw [e] at hk
      have := hk.first (fun q hq => by
        obtain ⟨u, hu, rfl⟩ := List.mem_map.1 hq
        exact hn u hu) hx
      simp [vers] at this
      simp
      omega
end
end Go.Proofs.Ytcfbjcadpcedhaa.Mem
