/- A function that does asks, of a log: how far it came. Plain. -/
import Derived.Test.YthgbgflpjggpmaaStepDoes
import Derived.Test.YthgbgflpjggpmaaSSim1
import Derived.Test.YthgbgflpjggpmaaStep7
namespace Go.Proofs.Ythgbgflpjggpmaa.Mem
open Go.RowKit Go.Proofs.YthgbgflpjggpmaaW.PrintWords Go.Proofs.Ythgbgflpjggpmaa.Tags
open Go.Proofs.Ythgbgflpjggpmaa.PStepAlone (S57 k57 z57 rd_T57)
set_option linter.unusedVariables false
set_option linter.unusedSimpArgs false
section
variable {l : List S57}
/-- One ask further. -/
def goOn (l : List S57) (r : R5) (a : Ans) : R5 := nextF l r (outOf (rd_T57 l r.a) r.t a)
/-- A log that leads from one place to another, each step of it behind an ask that was open. -/
inductive Leads (l : List S57) : R5 → List Ans → R5 → Prop
  | nil (r : R5) : Leads l r [] r
  | cons {r r' : R5} {a : Ans} {g : List Ans} (h : r.a < l.length) (k : Leads l (goOn l r a) g r') : Leads l r (a :: g) r'
theorem Leads.snoc {r r' : R5} {g : List Ans} (h : Leads l r g r') (a : Ans) (hr : r'.a < l.length) : Leads l r (g ++ [a]) (goOn l r' a) := by
  induction h with
  | nil r => exact .cons hr (.nil _)
  | cons h k ih => exact .cons h (ih hr)
theorem doesN_in {k : Nat} {r : R5} {s s1 : PS} {a : Ans} (h : r.a < l.length) (e : s.ask (askOf (rd_T57 l r.a) r.t) = .ret a s1) : doesN l (k + 1) r s = doesN l k (goOn l r a) { s1 with note := (goOn l r a).n } := by
  rw [doesN, if_pos h, e]
  rfl
theorem doesN_out {k : Nat} {r : R5} {s s1 : PS} (h : r.a < l.length) (e : s.ask (askOf (rd_T57 l r.a) r.t) = .out s1) : doesN l (k + 1) r s = .out s1 := by
  rw [doesN, if_pos h, e]
  rfl
theorem doesN_end {k : Nat} {r : R5} {s : PS} (h : ¬ r.a < l.length) : doesN l (k + 1) r s = .ret (.iface 47 (.agg r.v)) s := by
  rw [doesN, if_neg h]
/-- Where a function comes to that is behind its log. -/
def lastly (l : List S57) (r : R5) (s : PS) : Res Value :=
  if r.a < l.length then
    (if (goOn l r (askOf (rd_T57 l r.a) r.t s.m).2).a < l.length then .out ⟨(askOf (rd_T57 l r.a) r.t s.m).1, s.log ++ [(askOf (rd_T57 l r.a) r.t s.m).2], s.log.length + 1, 0, (goOn l r (askOf (rd_T57 l r.a) r.t s.m).2).n⟩
     else .ret (.iface 47 (.agg (goOn l r (askOf (rd_T57 l r.a) r.t s.m).2).v)) ⟨(askOf (rd_T57 l r.a) r.t s.m).1, s.log ++ [(askOf (rd_T57 l r.a) r.t s.m).2], s.log.length + 1, 0, (goOn l r (askOf (rd_T57 l r.a) r.t s.m).2).n⟩)
  else .ret (.iface 47 (.agg r.v)) { s with at_ := s.log.length }
theorem goOn_facts (h40 : l.length ≤ 40) {r : R5} (a : Ans) (h0 : 0 ≤ r.a) (h1 : r.a < l.length) : r.a < (goOn l r a).a ∧ (goOn l r a).a ≤ l.length ∧ (goOn l r a).n = wrap64 (r.n + 1) := by
  obtain ⟨_, f1, f2, f3⟩ := next_facts l r (outOf (rd_T57 l r.a) r.t a) h0 h1 h40
  exact ⟨f1, f2, f3⟩
theorem doesN_log (h40 : l.length ≤ 40) {r r' : R5} {g : List Ans} (h : Leads l r g r') : ∀ (N : Nat) (pre : List Ans) (s : PS), 0 ≤ r.a → r.a ≤ l.length → l.length - r.a < N → s.log = pre ++ g → s.at_ = pre.length → s.left = 1 → (r'.a < l.length → True) → doesN l N r s = lastly l r' { s with note := if g = [] then s.note else r'.n } := by
  induction h with
  | nil r =>
    intro N pre s h0 h1 hN e1 e2 e3 _
    obtain ⟨k, rfl⟩ : ∃ k, N = k + 1 := ⟨N - 1, by omega⟩
    have ha : s.at_ = s.log.length := by rw [e1, e2]; simp
    unfold lastly
    by_cases c : r.a < l.length
    · have e := ask_one (q := askOf (rd_T57 l r.a) r.t) ha e3
      rw [if_pos c, doesN_in c e]
      obtain ⟨f1, f2, _⟩ := goOn_facts h40 (askOf (rd_T57 l r.a) r.t s.m).2 h0 c
      obtain ⟨j, rfl⟩ : ∃ j, k = j + 1 := ⟨k - 1, by omega⟩
      by_cases c2 : (goOn l r (askOf (rd_T57 l r.a) r.t s.m).2).a < l.length
      · rw [if_pos c2, doesN_out c2 (ask_no (by simp [ha]) rfl), ha]
      · rw [if_neg c2, doesN_end c2, ha]
    · rw [if_neg c, doesN_end c]
      simp [← ha]
  | @cons r r' a g h k ih =>
    intro N pre s h0 h1 hN e1 e2 e3 _
    obtain ⟨j, rfl⟩ : ∃ j, N = j + 1 := ⟨N - 1, by omega⟩
    have e := ask_in (q := askOf (rd_T57 l r.a) r.t) e1 e2
    obtain ⟨f1, f2, _⟩ := goOn_facts h40 a h0 h
    rw [doesN_in h e]
    refine (ih j (pre ++ [a]) ⟨s.m, s.log, s.at_ + 1, s.left, (goOn l r a).n⟩ (by omega) f2 (by omega) (by rw [e1]; simp) (by simp [e2]) e3 (fun _ => trivial)).trans ?_
    cases k with
    | nil _ => simp [lastly]
    | cons h2 k2 => simp [lastly]
/-- A machine that is at r. -/
def AtR (l : List S57) (x : MS) (r : R5) : Prop := x.ended = false ∧ Leads l r0 x.p.log r ∧ 0 ≤ r.a ∧ r.a ≤ l.length
/-- A step of a machine that has asks left. -/
theorem step_does (h40 : l.length ≤ 40) {x : MS} {r : R5} (h : AtR l x r) (hr : r.a < l.length) :
    (∃ y, x.step (doesF l) = y ∧ y.p.m = (askOf (rd_T57 l r.a) r.t x.p.m).1 ∧ y.p.note = (goOn l r (askOf (rd_T57 l r.a) r.t x.p.m).2).n ∧ y.steps = x.p.log.length + 1 ∧
      (if (goOn l r (askOf (rd_T57 l r.a) r.t x.p.m).2).a < l.length then AtR l y (goOn l r (askOf (rd_T57 l r.a) r.t x.p.m).2) ∧ y.out = x.out ∧ y.p.log.length = x.p.log.length + 1
       else y.ended = true ∧ y.p.log = [] ∧ y.out = .iface 47 (.agg (goOn l r (askOf (rd_T57 l r.a) r.t x.p.m).2).v))) := by
  obtain ⟨he, hl, h0, h1⟩ := h
  refine ⟨_, rfl, ?_⟩
  have hs : x.step (doesF l) = MS.after x.out (lastly l r { ({ x.p with at_ := 0, left := 1 } : PS) with note := if x.p.log = [] then x.p.note else r.n }) := by
    unfold MS.step
    rw [if_neg (by rw [he]; decide)]
    unfold doesF
    rw [doesN_log h40 hl (l.length + 1) [] { x.p with at_ := 0, left := 1 } (Int.le_refl _) (by simp [r0]) (by simp [r0]; omega) rfl rfl rfl (fun _ => trivial)]
  obtain ⟨f1, f2, f3⟩ := goOn_facts h40 (askOf (rd_T57 l r.a) r.t x.p.m).2 h0 hr
  rw [hs]
  unfold lastly
  rw [if_pos hr]
  by_cases c : (goOn l r (askOf (rd_T57 l r.a) r.t x.p.m).2).a < l.length
  · simp only [if_pos c]
    exact ⟨rfl, rfl, by simp [MS.after], ⟨rfl, hl.snoc _ hr, by omega, f2⟩, rfl, by simp [MS.after]⟩
  · simp only [if_neg c]
    exact ⟨rfl, rfl, by simp [MS.after], rfl, rfl, rfl⟩
end
end Go.Proofs.Ythgbgflpjggpmaa.Mem
