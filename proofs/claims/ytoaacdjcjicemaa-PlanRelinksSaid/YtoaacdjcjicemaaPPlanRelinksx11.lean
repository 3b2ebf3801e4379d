/- By hand: plan_Leads. -/
-- written by a program of this session (the print, turned)
import Derived.Test.YtoaacdjcjicemaaPPlanRelinksx0
import Derived.Test.YtoaacdjcjicemaaWAl
namespace Go.Proofs.Ytoaacdjcjicemaa.PPlanRelinks
open Go.RowKit Go.Proofs.YtoaacdjcjicemaaW.PrintWords Go.Proofs.YtoaacdjcjicemaaW.PrintLast Go.Proofs.YtoaacdjcjicemaaW.PrintMore
attribute [local go_sem] cell_self cell_there leq_str geq_str gtr_str max2_str max2_int min2_int max_two min_two max_three min_three max_four min_four   -- for this text's walks alone
set_option linter.unusedVariables false
set_option linter.unusedSimpArgs false
theorem makeFunc_run' (fn : Fn) (first cap : Array Value) (w : World) : (Instr.makeFunc fn first cap).run Try.prog w = .ok (.func fn first cap) w := rfl
set_option maxHeartbeats 8000000 in
set_option maxRecDepth 100000 in
theorem leads1_calls (h0 : Int) (A1 A2 : Option Addr) (n1 c1 n2 c2 : Nat) (g : Bool) (a2 : Int) (b : Nat) (w : World) (hb : w.cell? ⟨b, 0, none⟩ = some (.int .i64 a2)) :
  Calls Try.prog 78 #[.agg #[.int .i64 h0, .slice A1 n1 c1, .slice A2 n2 c2, .bool g], .pointer (some ⟨b, 0, none⟩)] w fun e w' => e = .returned (.bool (!g && decide (a2 < (n1 : Int)))) ∧ Below w.heap.size w w' := by
 have HB := K0 (Below.refl w.heap.size w)
 have hlt : b < w.heap.size := bL w _ hb
 cases g
 ·
  go_enter Try.func78, Try.ntmps78
  go_wp2
  go_ret
  exact ⟨by simp, wA HB.out _⟩
 go_enter Try.func78, Try.ntmps78
 go_wp2
 go_ret
 exact ⟨by simp, wA HB.out _⟩
/-- the place of the first tower that stays and has more links than lv; -1: there is none -/
def seekT (lv : Int) : List S92 → Int → Int
 | [], _ => -1
 | t :: l, i => if (!t.f3 && decide (lv < (t.f1.length : Int))) = true then i else seekT lv l (i + 1)
theorem seekT_at (lv : Int) : ∀ (l : List S92) (n : Nat) (i : Int), n < l.length → seekT lv (l.drop n) i = if (!(rd_T92 l n).f3 && decide (lv < ((rd_T92 l n).f1.length : Int))) = true then i else seekT lv (l.drop (n + 1)) (i + 1) := by
 intro l n i h
 rw [List.drop_eq_getElem_cons h]
 simp only [seekT]
 have e : rd_T92 l (n : Int) = l[n] := by
  unfold rd_T92
  simp [List.getD, h]
 rw [e]
set_option maxHeartbeats 8000000 in
set_option maxRecDepth 100000 in
theorem indexFunc_calls (A0 : Option Addr) (c0 : Nat) (l0 : List S92) (a2 : Int) (b : Nat) (w : World) (hr0 : Kd.C k92 w A0 l0.length l0) (hb : w.cell? ⟨b, 0, none⟩ = some (.int .i64 a2)) (hl : l0.length < 9223372036854775807) :
  Calls Try.prog 77 #[.slice A0 l0.length c0, .func (Fn.func 78) #[] #[.pointer (some ⟨b, 0, none⟩)]] w fun e w' => e = .returned (.int .i64 (seekT a2 l0 0)) ∧ Below w.heap.size w w' := by
 have HR0 := K0 hr0
 have HL := K0 hl
 have HBB := K0 hb
 clear hr0 hl hb
 have HB := K0 (Below.refl w.heap.size w)
 go_enter Try.func77, Try.ntmps77
 go_wp2
 go_loopg [8] l0.length (fun kq v8 w' => ∃ (i : Nat), v8 = .int .i64 (i : Int) ∧ Aside0 (kq + i = l0.length) ∧ Aside0 (seekT a2 (l0.drop i) i = seekT a2 l0 0) ∧ Aside0 (Below w.heap.size w w'))
 case atStart => exact ⟨0, rfl, ⟨by omega⟩, ⟨rfl⟩, HB⟩
 case round =>
  obtain ⟨i, rfl, HK, HS, HB⟩ := hrel
  by_cases c : (i : Int) < (l0.length : Int)
  ·
   have cb : decide ((i : Int) < (l0.length : Int)) = true := dT c; obtain ⟨ad, A1, c1, A2, c2, e0, x0, x1, x2, x3, l1, i1, l2, i2⟩ := at_T92 HR0.out (i : Int) (by omega) c
   cases e0; simp only [Int.toNat_natCast] at x0 x1 x2 x3; replace x0 := (HB.out.cell (bL w _ x0)).trans x0; replace x1 := (HB.out.cell (bL w _ x1)).trans x1; replace x2 := (HB.out.cell (bL w _ x2)).trans x2; replace x3 := (HB.out.cell (bL w _ x3)).trans x3; have hbw : wr.cell? ⟨b, 0, none⟩ = some (.int .i64 a2) := (HB.out.cell (bL w _ HBB.out)).trans HBB.out; have HBW := K0 hbw; clear hbw; have c0p : (0 ≤ (i : Int)) = True := eq_true (by omega); replace c := eq_true c; go_wp2_with fail
   refine (leads1_calls _ _ _ _ _ _ _ _ _ _ _ HBW.out).mono ?_; rintro e w1 ⟨rfl, hb⟩; have HB2 := K0 (below_step HB.out hb); have hs := seekT_at a2 l0 i i (by have := oT cb; omega)
   cases hp : (!(rd_T92 l0 (i : Int)).f3 && decide (a2 < ((rd_T92 l0 (i : Int)).f1.length : Int)))
   ·
    go_wp2
    go_roundg (gk - 1)
    case measure => have := HK.out; have := oT cb; omega
    case rel =>
     refine ⟨i + 1, ?_, ⟨by have := HK.out; have := oT cb; omega⟩, ⟨?_⟩, HB2⟩
     ·
      have := HL.out; have := oT cb
      have e : wrap64 ((i : Int) + 1) = ((i + 1 : Nat) : Int) := by
       unfold wrap64
       omega
      rw [e]
     rw [hp] at hs; rw [← HS.out, hs]; simp
   go_wp2
   go_ret; rw [hp] at hs; exact ⟨by rw [← HS.out, hs]; rfl, HB2.out⟩
  have cb : decide ((i : Int) < (l0.length : Int)) = false := dF c
  have cb2 : (i < l0.length) = False := eq_false (by omega)
  clear c
  go_wp2
  go_ret
  refine ⟨?_, HB.out⟩
  rw [← HS.out, List.drop_eq_nil_of_le (by have := of_decide_eq_false cb; omega)]
  rfl
theorem seekT_lt (lv : Int) : ∀ (l : List S92) (i : Int), 0 ≤ i → seekT lv l i = -1 ∨ (i ≤ seekT lv l i ∧ seekT lv l i < i + l.length)
 | [], _, _ => .inl rfl
 | t :: l, i, h => by
  simp only [seekT]
  split
  · exact .inr ⟨by omega, by simp only [List.length_cons]; omega⟩
  rcases seekT_lt lv l (i + 1) (by omega) with e | ⟨e1, e2⟩
  · exact .inl e
  exact .inr ⟨by omega, by simp only [List.length_cons]; omega⟩
/-- where the towers behind a place begin -/
def fromT (n : Nat) (i : Int) : Int := (if (n : Int) - 1 < (if i < -1 then -1 else i) then (n : Int) - 1 else (if i < -1 then -1 else i)) + 1
def plan_Leads.f (l0 : List (S92)) (a1 : Int) (a2 : Int) : Option (Int) := if a2 < 0 then some 0 else if l0.length < 9223372036854775807 then (if seekT a2 (l0.drop (fromT l0.length a1).toNat) 0 < 0 then some 0 else some (rd_T92 l0 (fromT l0.length a1 + seekT a2 (l0.drop (fromT l0.length a1).toNat) 0)).f0) else none
set_option maxHeartbeats 8000000 in
set_option maxRecDepth 100000 in
theorem plan_Leads.calls (A0 : Option Addr) (c0 : Nat) (l0 : List (S92)) (a1 : Int) (a2 : Int) (r : Int) (w : World) (hr0 : Kd.C k92 w A0 l0.length l0) (hc0 : l0.length ≤ c0) (h : plan_Leads.f l0 a1 a2 = some r) :
  Calls Try.prog 42 #[.slice A0 l0.length c0, .int .i64 a1, .int .i64 a2] w fun e w' => e = .returned (.int .i64 r) ∧ Below w.heap.size w w' := by
 have HR0 := K0 hr0
 have HC0 := K0 hc0
 clear hr0 hc0
 have HB := K0 (Below.refl w.heap.size w)
 have HH := K0 h
 clear h
 by_cases c : a2 < 0
 ·
  have h := HH.out
  simp only [plan_Leads.f, c, if_true] at h
  obtain rfl := Option.some.inj h
  clear h HH
  have cb : decide (a2 < 0) = true := dT c
  go_enter Try.func42, Try.ntmps42
  go_wp2
  go_ret
  exact ⟨rfl, wA HB.out _⟩
 have h := HH.out
 simp only [plan_Leads.f, c, if_false] at h
 by_cases cl : l0.length < 9223372036854775807
 ·
  simp only [cl, if_true] at h
  have cb : decide (a2 < 0) = false := dF c
  obtain ⟨q1, hq1⟩ : ∃ q, (if a1 < -1 then -1 else a1) = q := ⟨_, rfl⟩
  obtain ⟨q2, hq2⟩ : ∃ q, (if (l0.length : Int) - 1 < q1 then (l0.length : Int) - 1 else q1) = q := ⟨_, rfl⟩
  obtain ⟨q3, hq3⟩ : ∃ q, q2 + 1 = q := ⟨_, rfl⟩
  have hf : fromT l0.length a1 = q3 := by
   unfold fromT
   rw [hq1, hq2, hq3]
  rw [hf] at h
  have h3 : 0 ≤ q3 ∧ q3 ≤ (l0.length : Int) := by
   split at hq1 <;> split at hq2 <;> omega
  obtain ⟨q03, q13⟩ := h3
  have HH := K0 h
  clear h hf
  have w1 : wrap64 ((l0.length : Int) - 1) = (l0.length : Int) - 1 := by unfold wrap64; omega
  have w2 : wrap64 (q2 + 1) = q3 := by unfold wrap64; omega
  obtain ⟨i092, hi092, _, hsz92, _⟩ := info_parts info92
  have hcut := cut_from (P := Try.prog) 70 92 .i64 Try.underlying70 hi092 4 hsz92 A0 l0.length c0 q3 q03 q13
  have hr := Kd.C_drop (m := q3.toNat) (c := c0) HR0.out (by omega) HC0.out
  obtain ⟨A3, hA3⟩ : ∃ A1, A1 = (if c0 = (q3 : Int).toNat then A0 else (A0 : Option Addr).map (·.add ((q3 : Int).toNat * 4))) := ⟨_, rfl⟩
  obtain ⟨c3, hc3⟩ : ∃ c1, c1 = c0 - (q3 : Int).toNat := ⟨_, rfl⟩
  obtain ⟨y, hy⟩ : ∃ y, y = l0.drop q3.toNat := ⟨_, rfl⟩
  have hyl : y.length = l0.length - q3.toNat := (by rw [hy, lD])
  rw [← hy] at hr
  rw [← hyl, ← hA3, ← hc3] at hcut
  replace hr : Kd.C k92 w A3 y.length y := (by rw [hA3]; exact hr)
  have HR1 := K0 hr
  have HY := K0 hy
  have HYL := K0 hyl
  have HD := K0 (And.intro q03 q13)
  clear hr hy hyl hA3 hc3
  have hmf := makeFunc_run'
  go_enter Try.func42, Try.ntmps42
  go_wp2_with fail
  have hk : (w.alloc (Obj.cells #[Value.int IntKind.i64 a2] 3)).cell? ⟨w.heap.size, 0, none⟩ = some (.int .i64 a2) := by simp [go_sem]
  refine (indexFunc_calls A3 c3 y a2 w.heap.size _ (Kd.C_below HR1.out (wA HB.out _)) hk (by have := HYL.out; omega)).mono ?_
  rintro e w1 ⟨rfl, hb⟩
  have HB2 := K0 (below_step (wA HB.out _) hb)
  have hs := seekT_lt a2 y 0 (by omega)
  have h := HH.out
  rw [← HY.out] at h
  obtain ⟨i, hi⟩ : ∃ i, seekT a2 y 0 = i := ⟨_, rfl⟩
  rw [hi] at hs h ⊢
  clear hi HH hcut hmf
  by_cases c5 : i < 0
  ·
   rw [if_pos c5] at h; obtain rfl := Option.some.inj h; have c5b : decide (i < 0) = true := dT c5; clear h hs; go_wp2
   go_ret; exact ⟨rfl, HB2.out⟩
  rw [if_neg c5] at h
  have c5b : decide (i < 0) = false := dF c5
  obtain ⟨g0, g1⟩ := HD.out
  have gl := HYL.out
  have n0 : 0 ≤ q3 + i := by omega
  have n1 : q3 + i < (l0.length : Int) := by omega
  obtain ⟨j, hj⟩ : ∃ j, q3 + i = j := ⟨_, rfl⟩
  rw [hj] at n0 n1 h
  obtain rfl := Option.some.inj h
  clear h
  have wj : wrap64 j = j := by unfold wrap64; omega
  obtain ⟨ad, A1, c1, A2, c2, e0, x0, x1, x2, x3, l1, i1, l2, i2⟩ := at_T92 HR0.out j n0 n1
  cases e0
  replace x0 := (HB2.out.cell (bL w _ x0)).trans x0
  clear x1 x2 x3 hs i1 i2 l1 l2
  replace n0 := eq_true n0
  replace n1 := eq_true n1
  go_wp2
  go_ret
  exact ⟨rfl, HB2.out⟩
 simp only [cl, if_false] at h
 exact absurd h (by simp)
end Go.Proofs.Ytoaacdjcjicemaa.PPlanRelinks
