/- Machines: New, Ended, Out, Steps, Noted; a function that adds 1 to a word. -/
import Derived.Test.YthgbgflpjggpmaaStep4
namespace Go.Proofs.Ythgbgflpjggpmaa.Mem
open Go.RowKit Go.Proofs.YthgbgflpjggpmaaW.PrintWords Go.Proofs.YthgbgflpjggpmaaW.PrintLast Go.Proofs.Ythgbgflpjggpmaa.Tags
set_option linter.unusedVariables false
set_option linter.unusedSimpArgs false
section
variable {w w' w0 : World} {pb mb cb xb : Nat} {S : Nat → Prop} {s : PS} {v fv out : Value} {steps : Int} {ended : Bool}
theorem mended_calls (h : MG w xb pb fv out steps ended) : Calls Try.prog 14 #[ptr xb] w fun e w' => e = .returned (.bool ended) ∧ w' = w := by
  obtain ⟨m0, m1, m2, m3, m4⟩ := h.cells
  go_enter Try.func14, Try.ntmps14
  go_wp2
  go_ret
  exact ⟨rfl, rfl⟩
theorem mout_calls (h : MG w xb pb fv out steps ended) : Calls Try.prog 15 #[ptr xb] w fun e w' => e = .returned out ∧ w' = w := by
  obtain ⟨m0, m1, m2, m3, m4⟩ := h.cells
  go_enter Try.func15, Try.ntmps15
  go_wp2
  go_ret
  exact ⟨rfl, rfl⟩
theorem msteps_calls (h : MG w xb pb fv out steps ended) : Calls Try.prog 25 #[ptr xb] w fun e w' => e = .returned (.int .i64 steps) ∧ w' = w := by
  obtain ⟨m0, m1, m2, m3, m4⟩ := h.cells
  go_enter Try.func25, Try.ntmps25
  go_wp2
  go_ret
  exact ⟨rfl, rfl⟩
theorem mnoted_calls {a l n : Int} (h : MG w xb pb fv out steps ended) (hp : PG w pb mb v a l n) : Calls Try.prog 27 #[ptr xb] w fun e w' => e = .returned (.int .i64 n) ∧ w' = w := by
  obtain ⟨m0, m1, m2, m3, m4⟩ := h.cells
  obtain ⟨p0, p1, p2, p3, p4⟩ := hp.cells
  go_enter Try.func27, Try.ntmps27
  go_wp2
  go_ret
  exact ⟨rfl, rfl⟩
set_option maxHeartbeats 1600000 in
theorem mnew_calls (mb FN : Nat) (caps : Array Value) (w : World) : Calls Try.prog 9 #[ptr mb, .func (Fn.func FN) #[] caps] w fun e w' => e = .returned (ptr (w.heap.size + 1)) ∧ PG w' w.heap.size mb (.slice none 0 0) 0 0 0 ∧ MG w' (w.heap.size + 1) w.heap.size (.func (Fn.func FN) #[] caps) .nilIface 0 false ∧ Below w.heap.size w w' := by
  have hb := below_alloc (below_alloc (Below.refl w.heap.size w) (.cells #[ptr mb, .slice none 0 0, .int .i64 0, .int .i64 0, .int .i64 0] 72)) (.cells #[ptr w.heap.size, .func (Fn.func FN) #[] caps, .nilIface, .int .i64 0, .bool false] 74)
  have hp : PG ((w.alloc (.cells #[ptr mb, .slice none 0 0, .int .i64 0, .int .i64 0, .int .i64 0] 72)).alloc (.cells #[ptr w.heap.size, .func (Fn.func FN) #[] caps, .nilIface, .int .i64 0, .bool false] 74)) w.heap.size mb (.slice none 0 0) 0 0 0 := blk_alloc (blk_new _ _) _
  have hm : MG ((w.alloc (.cells #[ptr mb, .slice none 0 0, .int .i64 0, .int .i64 0, .int .i64 0] 72)).alloc (.cells #[ptr w.heap.size, .func (Fn.func FN) #[] caps, .nilIface, .int .i64 0, .bool false] 74)) (w.heap.size + 1) w.heap.size (.func (Fn.func FN) #[] caps) .nilIface 0 false := by
    have e : w.heap.size + 1 = (w.alloc (.cells #[ptr mb, .slice none 0 0, .int .i64 0, .int .i64 0, .int .i64 0] 72)).heap.size := by simp
    unfold MG
    rw [e]
    exact blk_new _ _
  have HB := Lib.hid hb
  have HP := Lib.hid hp
  have HM := Lib.hid hm
  clear hb hp hm
  go_enter Try.func9, Try.ntmps9
  go_wp2
  go_ret
  exact ⟨rfl, HP.out, HM.out, HB.out⟩
/-- What is asked lowers this. -/
def PS.mu (s : PS) : Nat := s.log.length + s.left.toNat - s.at_
theorem ask_mu {q : M → M × Ans} {a : Ans} {s1 : PS} (h : s.ask q = .ret a s1) (hl : s.left = 0 ∨ s.left = 1) (ha : s.at_ ≤ s.log.length) : s1.at_ ≤ s1.log.length ∧ (s1.left = 0 ∨ s1.left = 1) ∧ s1.mu + 1 ≤ s.mu := by
  unfold PS.ask at h
  have e0 : (0 : Int).toNat = 0 := rfl
  have e1 : (1 : Int).toNat = 1 := rfl
  split at h
  · rename_i c
    injection h with _ h
    subst h
    refine ⟨by simp only; omega, hl, ?_⟩
    unfold PS.mu
    simp only
    omega
  · rename_i c
    rcases hl with hl | hl
    · rw [if_pos hl] at h
      cases h
    · rw [if_neg (by rw [hl]; decide), if_pos (by rw [hl]; decide)] at h
      injection h with _ h
      subst h
      refine ⟨by simp only [List.length_append, List.length_cons, List.length_nil]; omega, Or.inl (by simp only [hl]; rfl), ?_⟩
      unfold PS.mu
      simp only [List.length_append, List.length_cons, List.length_nil, hl]
      have e2 : ((1 : Int) - 1).toNat = 0 := rfl
      rw [e2, e1]
      omega
/-- What a machine's measure is, in memory. -/
def pmu (w : World) (pb : Nat) : Nat :=
  match w.cell? ⟨pb, 1, none⟩, w.cell? ⟨pb, 2, none⟩, w.cell? ⟨pb, 3, none⟩ with
  | some (.slice _ n _), some (.int _ a), some (.int _ l) => n + l.toNat - a.toNat
  | _, _, _ => 0
theorem pmu_eq (h : Sp w0 S w pb mb cb s v) : pmu w pb = s.mu := by
  obtain ⟨A, c, rfl⟩ := h.L.slice
  obtain ⟨p0, p1, p2, p3, p4⟩ := h.P.cells
  unfold pmu PS.mu
  rw [p1, p2, p3]
  simp
def countN (h : Int) : Nat → PS → Res Value
  | 0, s => .out s
  | n + 1, s => (s.ask (QWord h)).bind fun a s1 => if (a.e == 0) = true then (s1.ask (QSwap h a.n (wrap64 (a.n + 1)))).bind fun b s2 => if b.ok = true then .ret (.iface 3 (.int .i64 a.n)) s2 else countN h n s2 else .ret (.iface 3 (.int .i64 (-1))) s1
def countF (h : Int) (s : PS) : Res Value := countN h (s.mu + 1) s
theorem countN_eq (h : Int) : ∀ (n : Nat) (k : Nat) (s : PS), s.at_ ≤ s.log.length → (s.left = 0 ∨ s.left = 1) → s.mu < n → n ≤ k → countN h k s = countN h n s
  | 0, _, _, _, _, hm, _ => by omega
  | n + 1, 0, _, _, _, _, hk => by omega
  | n + 1, k + 1, s, ha, hl, hm, hk => by
    unfold countN
    cases e : s.ask (QWord h) with
    | out s1 => rfl
    | ret a s1 =>
      obtain ⟨a1, l1, m1⟩ := ask_mu e hl ha
      show (if (a.e == 0) = true then _ else _) = (if (a.e == 0) = true then _ else _)
      split
      · cases e2 : s1.ask (QSwap h a.n (wrap64 (a.n + 1))) with
        | out s2 => rfl
        | ret b s2 =>
          obtain ⟨a2, l2, m2⟩ := ask_mu e2 l1 a1
          show (if b.ok = true then _ else _) = (if b.ok = true then _ else _)
          split
          · rfl
          · exact countN_eq h n k s2 a2 l2 (by omega) (by omega)
      · rfl
set_option maxHeartbeats 3200000 in
set_option maxRecDepth 100000 in
theorem adds_calls (h : Sp w S w pb mb cb s v) {hb : Nat} {hh : Int} (hk : w.heap[hb]? = some (.cells #[.int .i64 hh] 3 (0, 0))) (hn : ¬ S hb) (hl : s.left = 0 ∨ s.left = 1) (ha : s.at_ ≤ s.log.length) :
    Calls Try.prog 10 #[ptr pb, .pointer (some ⟨hb, 0, none⟩)] w (Pend w S pb mb cb (countF hh s)) := by
  have HK := Lib.hid hk
  have HN := Lib.hid hn
  clear hk hn
  go_enter Try.func10, Try.ntmps10
  go_wp2_with fail
  go_loopw [3] (fun z wr => z = .nilIface ∧ ∃ s1 v1, Sp w S wr pb mb cb s1 v1 ∧ (s1.left = 0 ∨ s1.left = 1) ∧ s1.at_ ≤ s1.log.length ∧ countF hh s = countF hh s1) (fun _ wr => pmu wr pb)
  case atStart => exact ⟨rfl, s, v, h, hl, ha, rfl⟩
  case round =>
    obtain ⟨rfl, s1, v1, h1, l1, a1, he⟩ := hrel
    have hu : countF hh s1 = (s1.ask (QWord hh)).bind fun a s2 => if (a.e == 0) = true then (s2.ask (QSwap hh a.n (wrap64 (a.n + 1)))).bind fun b s3 => if b.ok = true then .ret (.iface 3 (.int .i64 a.n)) s3 else countN hh s1.mu s3 else .ret (.iface 3 (.int .i64 (-1))) s2 := rfl
    rw [hu] at he
    clear hu
    have c1 := box1 ((h1.F.block hb (blk_lt HK.out) HN.out).trans HK.out)
    have HM := Lib.hid (pmu_eq h1)
    have HD := Lib.hid (sWord h1 (lok_of l1) hh)
    have hmu : ∀ a s2, s1.ask (QWord hh) = .ret a s2 → s2.at_ ≤ s2.log.length ∧ (s2.left = 0 ∨ s2.left = 1) ∧ s2.mu + 1 ≤ s1.mu := fun a s2 e => ask_mu e l1 a1
    obtain ⟨r, hr⟩ : ∃ r, s1.ask (QWord hh) = r := ⟨_, rfl⟩
    rw [hr] at HD he hmu
    have HE := Lib.hid he
    have HMU := Lib.hid hmu
    clear hr he hmu h1 l1 a1 h hl ha
    go_wp2_with fail
    refine HD.out.mono ?_
    clear HD
    intro e W1 hp
    cases r with
    | out s2 =>
      obtain ⟨rfl, v2, h2⟩ := hp
      have FIN := Lib.hid (show Pend w S pb mb cb (countF hh s) (.panicked [{ v := .iface 99 (.agg #[]), recovered := false }]) W1 from by rw [HE.out]; exact ⟨rfl, v2, h2⟩)
      clear h2
      go_wp2_with fail
      exact ⟨rfl, FIN.out⟩
    | ret a s2 =>
      obtain ⟨rfl, v2, h2⟩ := hp
      obtain ⟨a2, l2, m2⟩ := HMU.out a s2 rfl
      obtain ⟨ab, an, ao, ae⟩ := a
      have c2 := box1 ((h2.F.block hb (blk_lt HK.out) HN.out).trans HK.out)
      by_cases hz : (ae == 0) = true
      · have he2 : countF hh s = (s2.ask (QSwap hh an (wrap64 (an + 1)))).bind fun b s3 => if b.ok = true then .ret (.iface 3 (.int .i64 an)) s3 else countN hh s1.mu s3 := HE.out.trans (if_pos hz)
        have HZ := Lib.hid hz
        have HD := Lib.hid (sSwap h2 (lok_of l2) hh an (wrap64 (an + 1)))
        have hmu : ∀ b s3, s2.ask (QSwap hh an (wrap64 (an + 1))) = .ret b s3 → s3.at_ ≤ s3.log.length ∧ (s3.left = 0 ∨ s3.left = 1) ∧ s3.mu + 1 ≤ s2.mu := fun b s3 e => ask_mu e l2 a2
        obtain ⟨r, hr⟩ : ∃ r, s2.ask (QSwap hh an (wrap64 (an + 1))) = r := ⟨_, rfl⟩
        rw [hr] at HD he2 hmu
        have HE2 := Lib.hid he2
        have HMU2 := Lib.hid hmu
        clear hr he2 hmu h2 l2 a2 HE HMU
        have g1 : (ae == 0) = true := hz
        simp only [RWord]
        go_wp2_with fail
        refine HD.out.mono ?_
        clear HD
        intro e W2 hp
        cases r with
        | out s3 =>
          obtain ⟨rfl, v3, h3⟩ := hp
          have FIN := Lib.hid (show Pend w S pb mb cb (countF hh s) (.panicked [{ v := .iface 99 (.agg #[]), recovered := false }]) W2 from by rw [HE2.out]; exact ⟨rfl, v3, h3⟩)
          clear h3
          go_wp2_with fail
          exact ⟨rfl, FIN.out⟩
        | ret b s3 =>
          obtain ⟨rfl, v3, h3⟩ := hp
          obtain ⟨a3, l3, m3⟩ := HMU2.out b s3 rfl
          obtain ⟨bb, bn, bo, be⟩ := b
          simp only [RSwap]
          cases bo with
          | true =>
            have FIN := Lib.hid (show Pend w S pb mb cb (countF hh s) (.returned (.iface 3 (.int .i64 an))) W2 from by rw [HE2.out]; exact ⟨rfl, v3, h3⟩)
            clear h3 HE2 HMU2
            go_wp2_with fail
            go_ret
            exact FIN.out
          | false =>
            have he3 : countF hh s = countF hh s3 := by
              rw [HE2.out]
              show countN hh s1.mu s3 = countN hh (s3.mu + 1) s3
              exact countN_eq hh _ _ s3 a3 l3 (by omega) (by omega)
            have hm3 := pmu_eq h3
            have HE3 := Lib.hid he3
            have HP3 := Lib.hid hm3
            have HS3 := Lib.hid h3
            clear h3 HE2 HMU2 he3 hm3
            go_wp2_with fail
            go_roundw
            case rel => exact ⟨rfl, s3, v3, HS3.out, l3, a3, HE3.out⟩
            case measure => rw [HP3.out, HM.out]; omega
      · have hz1 : (ae == 0) = false := by simpa using hz
        have FIN := Lib.hid (show Pend w S pb mb cb (countF hh s) (.returned (.iface 3 (.int .i64 (-1)))) W1 from by rw [HE.out]; show Pend w S pb mb cb (if (ae == 0) = true then _ else _) _ _; rw [if_neg hz]; exact ⟨rfl, v2, h2⟩)
        clear h2 HE HMU hz
        simp only [RWord]
        go_wp2_with fail
        go_ret
        exact FIN.out
end
end Go.Proofs.Ythgbgflpjggpmaa.Mem
