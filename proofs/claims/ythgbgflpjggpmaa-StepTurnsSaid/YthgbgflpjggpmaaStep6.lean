/- The document's example of a machine: awake. -/
import Derived.Test.YthgbgflpjggpmaaStep5
namespace Go.Proofs.Ythgbgflpjggpmaa.Mem
open Go.RowKit Go.Proofs.YthgbgflpjggpmaaW.PrintWords Go.Proofs.YthgbgflpjggpmaaW.PrintLast Go.Proofs.Ythgbgflpjggpmaa.Tags
set_option linter.unusedVariables false
set_option linter.unusedSimpArgs false
section
variable {w w' w0 : World} {pb mb cb xb : Nat} {S : Nat → Prop} {s : PS} {v fv out : Value} {steps : Int} {ended : Bool} {m : M}
/-- What a machine's step may write. -/
def Sx (xb pb mb cb : Nat) (v : Value) (i : Nat) : Prop := i = xb ∨ Sf pb mb cb v i
theorem mc_new (hA : At w mb cb m) (hp : PG w pb mb (.slice none 0 0) 0 0 0) (hm : MG w xb pb fv .nilIface 0 false) : Mc w (Sx xb pb mb cb (.slice none 0 0)) w xb pb mb cb fv ⟨⟨m, [], 0, 0, 0⟩, .nilIface, 0, false⟩ (.slice none 0 0) :=
  ⟨⟨hA, hp, OwnA.nil w, Fx.refl _ _, Or.inr (Or.inl rfl), Or.inr (Or.inr (Or.inl rfl)), Or.inr (Or.inr (Or.inr (Or.inl rfl))), (fun k hk => by cases hk), (fun a ha => by cases ha), (by simp), (by simp)⟩, hm, Or.inl rfl⟩
theorem ta_seven (n : Int) (w : World) : (Instr.typeAssert (.iface 3 (.int .i64 n)) 20 3 true).run Try.prog w = .ok (.tuple #[.int .i64 n, .bool true]) w := by kernel_rfl
def awakeF (s : PS) : Res Value := (s.ask (QAllocWord 3)).bind fun a s1 => .ret (.iface 3 (.int .i64 7)) s1
set_option maxHeartbeats 800000 in
theorem awfn_calls (h : Sp w S w pb mb cb s v) (hl : s.left = 0 ∨ s.left = 1) : Calls Try.prog 29 #[ptr pb] w (Pend w S pb mb cb (awakeF s)) := by
  have HD := Lib.hid (sAllocWord h (lok_of hl) 3)
  unfold awakeF
  obtain ⟨r, hr⟩ : ∃ r, s.ask (QAllocWord 3) = r := ⟨_, rfl⟩
  rw [hr] at HD ⊢
  clear h hl hr
  go_enter Try.func29, Try.ntmps29
  go_wp2_with fail
  refine HD.out.mono ?_
  clear HD
  intro e W1 hp
  cases r with
  | out s2 =>
    obtain ⟨rfl, v2, h2⟩ := hp
    have H := Lib.hid h2
    clear h2
    go_wp2_with fail
    exact ⟨rfl, rfl, v2, H.out⟩
  | ret a s2 =>
    obtain ⟨rfl, v2, h2⟩ := hp
    have H := Lib.hid h2
    clear h2
    go_wp2_with fail
    go_ret
    exact ⟨rfl, v2, H.out⟩
theorem awake_step : MS.step awakeF ⟨⟨M.new 1, [], 0, 0, 0⟩, .nilIface, 0, false⟩ = ⟨⟨⟨[⟨number 3, 0, 0, false⟩], 1, 1, 0⟩, [], 1, 0, 0⟩, .iface 3 (.int .i64 7), 1, true⟩ := by kernel_rfl
theorem awakeF_ret (s : PS) (x : Value) (s' : PS) (h : awakeF s = .ret x s') : x = .nilIface ∨ ∃ T y, x = .iface T y := by
  unfold awakeF at h
  cases e : s.ask (QAllocWord 3) with
  | out s2 =>
    rw [e] at h
    cases h
  | ret a s2 =>
    rw [e] at h
    injection h with h _
    exact Or.inr ⟨_, _, h.symm⟩
set_option maxHeartbeats 3200000 in
set_option maxRecDepth 100000 in
theorem awake13_calls (w : World) : Calls Try.prog 6 #[] w fun e w' => e = .returned (.bool true) ∧ Below w.heap.size w w' := by
  have ta := ta_seven 7
  have hnil := fun W => run_eql_held_nil (P := Try.prog) W 20 3 (.int .i64 7) (by kernel_rfl)
  go_enter Try.func6, Try.ntmps6
  go_wp2_with fail
  refine (New_calls 1 w (by omega) (by omega)).mono ?_
  rintro e w1 ⟨rfl, hA, hB⟩
  go_wp2_with fail
  refine (mnew_calls (w.heap.size + 1) 29 #[] w1).mono ?_
  rintro e w2 ⟨rfl, hp, hm, hb2⟩
  obtain ⟨xb, hx⟩ : ∃ x, w1.heap.size + 1 = x := ⟨_, rfl⟩
  obtain ⟨pb, hpb⟩ : ∃ x, w1.heap.size = x := ⟨_, rfl⟩
  rw [hx, hpb] at hm
  rw [hpb] at hp
  rw [hx]
  have hA2 := hA.below hb2
  have h2 : Mc w2 (Sx xb pb (w.heap.size + 1) w.heap.size (.slice none 0 0)) w2 xb pb (w.heap.size + 1) w.heap.size (.func (Fn.func 29) #[] #[]) ⟨⟨M.new 1, [], 0, 0, 0⟩, .nilIface, 0, false⟩ (.slice none 0 0) := mc_new hA2 hp hm
  have HB2 := Lib.hid (below_then hB hB.size hb2)
  have hpl : w.heap.size ≤ pb := by have := hB.size; omega
  have hxl : w.heap.size ≤ xb := by have := hB.size; omega
  clear hB hb2 hA hx hpb hp hA2
  have H2 := Lib.hid h2
  have HM := Lib.hid hm
  clear h2 hm
  go_wp2_with fail
  refine (mended_calls HM.out).mono ?_
  rintro e w' ⟨rfl, rfl⟩
  go_wp2_with fail
  refine (mout_calls HM.out).mono ?_
  rintro e w' ⟨rfl, rfl⟩
  go_wp2_with fail
  have HS := Lib.hid (step_calls (F := awakeF) H2.out (by simp) awakeF_ret (fun W => enters_ Try.func29 (by kernel_rfl) rfl _ W) (fun W _ hs => by
    have := awfn_calls hs (Or.inr rfl)
    simpa using this))
  rw [awake_step] at HS
  refine HS.out.mono ?_
  rintro e w3 ⟨rfl, v3, h3⟩
  have HM3 := Lib.hid h3.M
  have HA3 := Lib.hid h3.P.A
  have hc := HA3.out.count_
  have HF := Lib.hid (show Below w.heap.size w w3 from ⟨h3.P.F.os.trans HB2.out.os, h3.P.F.tape.trans HB2.out.tape, h3.P.F.output.trans HB2.out.output, Nat.le_trans HB2.out.size h3.P.F.size, fun k hk => (h3.P.F.block k (Nat.lt_of_lt_of_le hk HB2.out.size) (by
    rintro (e | e | e | e | e)
    · omega
    · omega
    · omega
    · omega
    · cases e)).trans (HB2.out.block k hk)⟩)
  clear h3 HM HS H2 HB2
  go_wp2_with fail
  refine (mout_calls HM3.out).mono ?_
  rintro e w' ⟨rfl, rfl⟩
  go_wp2_with fail
  refine (msteps_calls HM3.out).mono ?_
  rintro e w' ⟨rfl, rfl⟩
  go_wp2_with fail
  refine (count_calls HA3.out).mono ?_
  rintro e w' ⟨rfl, rfl⟩
  go_wp2_with fail
  go_ret
  exact ⟨rfl, HF.out⟩
end
end Go.Proofs.Ythgbgflpjggpmaa.Mem
