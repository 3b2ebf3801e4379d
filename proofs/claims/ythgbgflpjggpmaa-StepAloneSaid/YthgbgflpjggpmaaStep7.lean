/- Machines that each add 1 to one word: what a step makes of the word, and of a machine's log. Plain. -/
import Derived.Test.YthgbgflpjggpmaaStep6
namespace Go.Proofs.Ythgbgflpjggpmaa.Mem
open Go.RowKit Go.Proofs.YthgbgflpjggpmaaW.PrintWords Go.Proofs.YthgbgflpjggpmaaW.PrintLast Go.Proofs.Ythgbgflpjggpmaa.Tags
set_option linter.unusedVariables false
set_option linter.unusedSimpArgs false
/-- A memory of one cell that holds a word. -/
def C (c n : Int) : M := ⟨[⟨number c, 0, 0, false⟩], n, 1, 0⟩
theorem first_alloc : (M.new 1).alloc (number 0) = (C 0 1, 1, 0) := by kernel_rfl
theorem find_C (c n : Int) : (C c n).find 1 = some 0 := by
  unfold M.find
  rw [if_pos ⟨by decide, show (1 : Int) % 65536 - 1 < ((1 : Nat) : Int) by decide, rfl, show (0 : Int) = 1 / 65536 by decide⟩]
  rfl
theorem word_C (c n : Int) : (C c n).word 1 = (C c (wrap64 (n + 1)), c, 0) := by
  unfold M.word
  rw [find_C]
  rfl
theorem swap_C (c n o k : Int) : (C c n).swap 1 o k = if c = o then (C k (wrap64 (n + 1)), true, 0) else (C c (wrap64 (n + 1)), false, 0) := by
  unfold M.swap
  rw [find_C]
  rfl
def wA (k : Int) : Ans := ⟨.nilIface, k, false, 0⟩
def sA : Ans := ⟨.nilIface, 0, false, 0⟩
def tA : Ans := ⟨.nilIface, 0, true, 0⟩
theorem qword_C (c n : Int) : QWord 1 (C c n) = (C c (wrap64 (n + 1)), wA c) := by
  unfold QWord
  simp only [word_C]
  rfl
theorem qswap_C (c n o k : Int) : QSwap 1 o k (C c n) = if c = o then (C k (wrap64 (n + 1)), tA) else (C c (wrap64 (n + 1)), sA) := by
  unfold QSwap
  simp only [swap_C]
  split <;> rfl
/-- A log of such a machine: the word, and that it wasn't swapped, in turn. -/
inductive Wl : List Ans → Prop
  | nil : Wl []
  | one (k : Int) : Wl [wA k]
  | two (k : Int) {l : List Ans} (h : Wl l) : Wl (wA k :: sA :: l)
section
variable {s : PS}
theorem ask_in {a : Ans} {q : M → M × Ans} {pre l : List Ans} (h1 : s.log = pre ++ a :: l) (h2 : s.at_ = pre.length) : s.ask q = .ret a { s with at_ := s.at_ + 1 } := by
  unfold PS.ask
  rw [if_pos (by rw [h1, h2]; simp)]
  congr 1
  rw [h1, h2, List.getD_eq_getElem?_getD]
  simp
theorem ask_one {q : M → M × Ans} (h2 : s.at_ = s.log.length) (hl : s.left = 1) : s.ask q = .ret (q s.m).2 { s with m := (q s.m).1, log := s.log ++ [(q s.m).2], at_ := s.at_ + 1, left := 0 } := by
  unfold PS.ask
  rw [if_neg (by omega), if_neg (by rw [hl]; decide), if_pos (by rw [hl]; decide), hl]
  rfl
theorem ask_no {q : M → M × Ans} (h2 : s.at_ = s.log.length) (hl : s.left = 0) : s.ask q = .out s := by
  unfold PS.ask
  rw [if_neg (by omega), if_pos hl]
end
theorem Wl.snoc_w : ∀ {l : List Ans}, Wl l → ∀ (k : Int), l.length % 2 = 0 → Wl (l ++ [wA k])
  | _, .nil, k, _ => .one k
  | _, .one j, k, h => by simp at h
  | _, .two j h, k, he => .two j (h.snoc_w k (by simp only [List.length_cons] at he; omega))
theorem Wl.snoc_s : ∀ {l : List Ans}, Wl l → l.length % 2 = 1 → Wl (l ++ [sA])
  | _, .nil, h => by simp at h
  | _, .one j, h => .two j .nil
  | _, .two j h, he => .two j (h.snoc_s (by simp only [List.length_cons] at he; omega))
section
variable {h k : Int} {N : Nat} {s s1 s2 : PS}
theorem countN_word_out (e1 : s.ask (QWord h) = .out s1) : countN h (N + 1) s = .out s1 := by
  unfold countN
  rw [e1]
  rfl
theorem countN_swap_out (e1 : s.ask (QWord h) = .ret (wA k) s1) (e2 : s1.ask (QSwap h k (wrap64 (k + 1))) = .out s2) : countN h (N + 1) s = .out s2 := by
  unfold countN
  rw [e1]
  simp only [Res.bind, wA] at e2 ⊢
  rw [e2]
  rfl
theorem countN_no (e1 : s.ask (QWord h) = .ret (wA k) s1) (e2 : s1.ask (QSwap h k (wrap64 (k + 1))) = .ret sA s2) : countN h (N + 1) s = countN h N s2 := by
  rw [countN]
  rw [e1]
  simp only [Res.bind, wA] at e2 ⊢
  rw [e2]
  rfl
theorem countN_yes (e1 : s.ask (QWord h) = .ret (wA k) s1) (e2 : s1.ask (QSwap h k (wrap64 (k + 1))) = .ret tA s2) : countN h (N + 1) s = .ret (.iface 3 (.int .i64 k)) s2 := by
  rw [countN]
  rw [e1]
  simp only [Res.bind, wA] at e2 ⊢
  rw [e2]
  rfl
end
theorem countN_log : ∀ {l : List Ans}, Wl l → ∀ (c n : Int) (hc : 0 ≤ c ∧ c ≤ 1000) (N : Nat) (pre : List Ans) (s : PS), s.log = pre ++ l → s.at_ = pre.length → s.left = 1 → s.m = C c n → l.length + 1 < N →
    (∃ n', l.length % 2 = 0 ∧ countN 1 N s = .out { m := C c n', log := s.log ++ [wA c], at_ := s.log.length + 1, left := 0, note := s.note }) ∨
    (∃ n', l.length % 2 = 1 ∧ countN 1 N s = .out { m := C c n', log := s.log ++ [sA], at_ := s.log.length + 1, left := 0, note := s.note }) ∨
    (∃ n', countN 1 N s = .ret (.iface 3 (.int .i64 c)) { m := C (c + 1) n', log := s.log ++ [tA], at_ := s.log.length + 1, left := 0, note := s.note })
  | _, .nil, c, n, hc, N, pre, s, h1, h2, h3, h4, hN => by
    obtain ⟨N, rfl⟩ : ∃ k, N = k + 1 := ⟨N - 1, by simp at hN; omega⟩
    have ha : s.at_ = s.log.length := by rw [h1, h2]; simp
    refine Or.inl ⟨wrap64 (n + 1), rfl, ?_⟩
    have e1 := ask_one (q := QWord 1) ha h3
    rw [h4, qword_C] at e1
    rw [countN_swap_out e1 (ask_no (by simp [ha]) rfl), ha]
  | _, .one k, c, n, hc, N, pre, s, h1, h2, h3, h4, hN => by
    obtain ⟨N, rfl⟩ : ∃ k, N = k + 1 + 1 := ⟨N - 2, by simp at hN; omega⟩
    have ha : s.at_ + 1 = s.log.length := by rw [h1, h2]; simp
    have e1 := ask_in (q := QWord 1) h1 h2
    have e2 := ask_one (s := { s with at_ := s.at_ + 1 }) (q := QSwap 1 k (wrap64 (k + 1))) ha h3
    simp only [h4, qswap_C] at e2
    by_cases ck : c = k
    · subst ck
      simp only [if_true] at e2
      have ew : wrap64 (c + 1) = c + 1 := by unfold wrap64; omega
      refine Or.inr (Or.inr ⟨wrap64 (n + 1), ?_⟩)
      simp only [h4] at e1
      rw [countN_yes e1 e2, ew, ha]
    · simp only [if_neg ck] at e2
      refine Or.inr (Or.inl ⟨wrap64 (n + 1), rfl, ?_⟩)
      simp only [h4] at e1
      rw [countN_no e1 e2, countN_word_out (ask_no (by simp [ha]) rfl), ha]
  | _, .two k h, c, n, hc, N, pre, s, h1, h2, h3, h4, hN => by
    rename_i l
    obtain ⟨N, rfl⟩ : ∃ k, N = k + 1 := ⟨N - 1, by simp at hN; omega⟩
    have e1 := ask_in (q := QWord 1) h1 h2
    have e2 := ask_in (s := { s with at_ := s.at_ + 1 }) (q := QSwap 1 k (wrap64 (k + 1))) (a := sA) (pre := pre ++ [wA k]) (l := l) (by rw [h1]; simp) (by simp [h2])
    rw [countN_no e1 e2]
    have ih := countN_log h c n hc N (pre ++ [wA k, sA]) { s with at_ := s.at_ + 1 + 1 } (by rw [h1]; simp) (by simp [h2]) h3 h4 (by simp only [List.length_cons] at hN; omega)
    simp only [List.length_cons]
    rcases ih with ⟨n', p, q⟩ | ⟨n', p, q⟩ | ⟨n', q⟩
    · exact Or.inl ⟨n', by omega, q⟩
    · exact Or.inr (Or.inl ⟨n', by omega, q⟩)
    · exact Or.inr (Or.inr ⟨n', q⟩)
/-- A machine that hasn't ended, and one that has. -/
def Run_ (x : MS) : Prop := x.ended = false ∧ Wl x.p.log
def End_ (c : Int) (x : MS) : Prop := x.ended = true ∧ x.p.log = [] ∧ ∃ j : Int, 0 ≤ j ∧ j < c ∧ x.out = .iface 3 (.int .i64 j)
/-- A step of a machine of a memory. -/
theorem step_adds (x : MS) (c n : Int) (hc : 0 ≤ c ∧ c ≤ 1000) (hx : Run_ x) (hm : x.p.m = C c n) :
    (∃ n', (x.step (countF 1)).p.m = C c n' ∧ Run_ (x.step (countF 1)) ∧ (x.step (countF 1)).p.log.length = x.p.log.length + 1) ∨
    (∃ n', (x.step (countF 1)).p.m = C (c + 1) n' ∧ (x.step (countF 1)).ended = true ∧ (x.step (countF 1)).p.log = [] ∧ (x.step (countF 1)).out = .iface 3 (.int .i64 c)) := by
  obtain ⟨he, hw⟩ := hx
  have hmu : (({ x.p with at_ := 0, left := 1 } : PS).mu) + 1 = x.p.log.length + 2 := by
    unfold PS.mu
    have : (1 : Int).toNat = 1 := rfl
    simp only [this]
    omega
  have hs : x.step (countF 1) = MS.after x.out (countN 1 (x.p.log.length + 2) { x.p with at_ := 0, left := 1 }) := by
    unfold MS.step countF
    rw [if_neg (by rw [he]; decide), hmu]
  rw [hs]
  rcases countN_log hw c n hc (x.p.log.length + 2) [] { x.p with at_ := 0, left := 1 } rfl rfl rfl hm (by omega) with ⟨n', p, q⟩ | ⟨n', p, q⟩ | ⟨n', q⟩
  · rw [q]
    exact Or.inl ⟨n', rfl, ⟨rfl, hw.snoc_w c p⟩, by simp [MS.after]⟩
  · rw [q]
    exact Or.inl ⟨n', rfl, ⟨rfl, hw.snoc_s p⟩, by simp [MS.after]⟩
  · rw [q]
    exact Or.inr ⟨n', rfl, rfl, rfl, rfl⟩
theorem countF_ret (s : PS) (x : Value) (s' : PS) (h : countF 1 s = .ret x s') : x = .nilIface ∨ ∃ T y, x = .iface T y := by
  unfold countF at h
  generalize s.mu + 1 = N at h
  induction N generalizing s with
  | zero => cases h
  | succ N ih =>
    rw [countN] at h
    cases e : s.ask (QWord 1) with
    | out s1 =>
      rw [e] at h
      cases h
    | ret a s1 =>
      rw [e] at h
      simp only [Res.bind] at h
      split at h
      · cases e2 : s1.ask (QSwap 1 a.n (wrap64 (a.n + 1))) with
        | out s2 =>
          rw [e2] at h
          cases h
        | ret b s2 =>
          rw [e2] at h
          simp only at h
          split at h
          · injection h with h _
            exact Or.inr ⟨_, _, h.symm⟩
          · exact ih s2 h
      · injection h with h _
        exact Or.inr ⟨_, _, h.symm⟩
end Go.Proofs.Ythgbgflpjggpmaa.Mem
