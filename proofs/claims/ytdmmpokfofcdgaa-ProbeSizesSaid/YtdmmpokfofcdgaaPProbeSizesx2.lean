-- PRINTED BY print.sh 35421559b90ae4d0a3588c463048766b98c2df88dd9212a6774a882060cdf62d: not written by this session
import Derived.Test.YtdmmpokfofcdgaaPProbeSizesx0
import Derived.Test.YtdmmpokfofcdgaaPProbeSizesx1
namespace Go.Proofs.Ytdmmpokfofcdgaa.PProbeSizes
open Go.RowKit Go.Proofs.YtdmmpokfofcdgaaW.PrintWords Go.Proofs.YtdmmpokfofcdgaaW.PrintLast Go.Proofs.YtdmmpokfofcdgaaW.PrintMore
attribute [local go_sem] max2_int min2_int max_two min_two max_three min_three max_four min_four   -- for this text's walks alone
set_option linter.unusedVariables false
set_option linter.unusedSimpArgs false

/-! ### rundlelaw06_ProbeSizes: function 13 -/
mutual
def rundlelaw06_ProbeSizes.j0 : Nat → Int → Bool → Option (Bool)
  | 0, _, _ => none
  | k + 1, x0, x10 => if x10 = true then ((rundlelaw06_awake.f k).bind fun t124 => (some t124)) else ((probe_Size.f k x0).bind fun t125 => (if x0 < 0 then (rundlelaw06_ProbeSizes.j1 k 0 t125) else (rundlelaw06_ProbeSizes.j1 k x0 t125)))
def rundlelaw06_ProbeSizes.j1 : Nat → Int → Int → Option (Bool)
  | 0, _, _ => none
  | k + 1, x0, x3 => rundlelaw06_ProbeSizes.l0 k x0 x3 2
def rundlelaw06_ProbeSizes.l0 : Nat → Int → Int → Int → Option (Bool)
  | 0, _, _, _ => none
  | k + 1, x0, x3, x4 => if x4 < x3 then (if x4 < 4398046511104 then (rundlelaw06_ProbeSizes.l0 k x0 x3 (wrap64 (x4 * 2))) else (if x4 = x3 then (if x3 ≥ (wrap64 (2 * x0)) then (if x3 = 2 then (some true) else (some (decide ((wrap64 (Int.tdiv x3 2)) < (wrap64 (2 * x0)))))) else (some false)) else (some false))) else (if x4 = x3 then (if x3 ≥ (wrap64 (2 * x0)) then (if x3 = 2 then (some true) else (some (decide ((wrap64 (Int.tdiv x3 2)) < (wrap64 (2 * x0)))))) else (some false)) else (some false))
end
def rundlelaw06_ProbeSizes.f (k : Nat) (a0 : Int) : Option (Bool) := (rundlelaw06_awake.f k).bind fun t123 => (if t123 = true then (rundlelaw06_ProbeSizes.j0 k a0 (decide (a0 > 1099511627776))) else (rundlelaw06_ProbeSizes.j0 k a0 true))
theorem rundlelaw06_ProbeSizes.mono_l : ∀ k, (∀ y0 y1, LeO (rundlelaw06_ProbeSizes.j0 k y0 y1) (rundlelaw06_ProbeSizes.j0 (k + 1) y0 y1)) ∧ (∀ y0 y1, LeO (rundlelaw06_ProbeSizes.j1 k y0 y1) (rundlelaw06_ProbeSizes.j1 (k + 1) y0 y1)) ∧ (∀ y0 y1 y2, LeO (rundlelaw06_ProbeSizes.l0 k y0 y1 y2) (rundlelaw06_ProbeSizes.l0 (k + 1) y0 y1 y2))
  | 0 => ⟨fun _ _ r h => by simp [rundlelaw06_ProbeSizes.j0] at h, fun _ _ r h => by simp [rundlelaw06_ProbeSizes.j1] at h, fun _ _ _ r h => by simp [rundlelaw06_ProbeSizes.l0] at h⟩
  | k + 1 => by
    obtain ⟨ih0, ih1, ih2⟩ := rundlelaw06_ProbeSizes.mono_l k
    refine ⟨?_, ?_, ?_⟩
    · intro y0 y1
      unfold rundlelaw06_ProbeSizes.j0
      repeat' first
      | (with_reducible exact ih0 _ _)
      | (with_reducible exact ih1 _ _)
      | (with_reducible exact ih2 _ _ _)
      | (with_reducible exact probe_Size.mono _ _)
      | (with_reducible exact rundlelaw06_awake.mono _)
      | (with_reducible exact LeO.refl _)
      | (with_reducible exact LeO.none _)
      | (with_reducible refine LeO.ite ?_ ?_)
      | (with_reducible refine LeO.bind ?_ (fun _ => ?_))
      | exact ih0 _ _
      | exact ih1 _ _
      | exact ih2 _ _ _
      | exact probe_Size.mono _ _
      | exact rundlelaw06_awake.mono _
      | exact LeO.none _
      | refine LeO.ite ?_ ?_
      | refine LeO.bind ?_ (fun _ => ?_)
    · intro y0 y1
      unfold rundlelaw06_ProbeSizes.j1
      repeat' first
      | (with_reducible exact ih0 _ _)
      | (with_reducible exact ih1 _ _)
      | (with_reducible exact ih2 _ _ _)
      | (with_reducible exact probe_Size.mono _ _)
      | (with_reducible exact rundlelaw06_awake.mono _)
      | (with_reducible exact LeO.refl _)
      | (with_reducible exact LeO.none _)
      | (with_reducible refine LeO.ite ?_ ?_)
      | (with_reducible refine LeO.bind ?_ (fun _ => ?_))
      | exact ih0 _ _
      | exact ih1 _ _
      | exact ih2 _ _ _
      | exact probe_Size.mono _ _
      | exact rundlelaw06_awake.mono _
      | exact LeO.none _
      | refine LeO.ite ?_ ?_
      | refine LeO.bind ?_ (fun _ => ?_)
    · intro y0 y1 y2
      unfold rundlelaw06_ProbeSizes.l0
      repeat' first
      | (with_reducible exact ih0 _ _)
      | (with_reducible exact ih1 _ _)
      | (with_reducible exact ih2 _ _ _)
      | (with_reducible exact probe_Size.mono _ _)
      | (with_reducible exact rundlelaw06_awake.mono _)
      | (with_reducible exact LeO.refl _)
      | (with_reducible exact LeO.none _)
      | (with_reducible refine LeO.ite ?_ ?_)
      | (with_reducible refine LeO.bind ?_ (fun _ => ?_))
      | exact ih0 _ _
      | exact ih1 _ _
      | exact ih2 _ _ _
      | exact probe_Size.mono _ _
      | exact rundlelaw06_awake.mono _
      | exact LeO.none _
      | refine LeO.ite ?_ ?_
      | refine LeO.bind ?_ (fun _ => ?_)
theorem rundlelaw06_ProbeSizes.mono : ∀ a0 k, LeO (rundlelaw06_ProbeSizes.f k a0) (rundlelaw06_ProbeSizes.f (k + 1) a0) := by
  intro a0 k
  obtain ⟨ih0, ih1, ih2⟩ := rundlelaw06_ProbeSizes.mono_l k
  unfold rundlelaw06_ProbeSizes.f
  repeat' first
      | (with_reducible exact ih0 _ _)
      | (with_reducible exact ih1 _ _)
      | (with_reducible exact ih2 _ _ _)
      | (with_reducible exact probe_Size.mono _ _)
      | (with_reducible exact rundlelaw06_awake.mono _)
      | (with_reducible exact LeO.refl _)
      | (with_reducible exact LeO.none _)
      | (with_reducible refine LeO.ite ?_ ?_)
      | (with_reducible refine LeO.bind ?_ (fun _ => ?_))
      | exact ih0 _ _
      | exact ih1 _ _
      | exact ih2 _ _ _
      | exact probe_Size.mono _ _
      | exact rundlelaw06_awake.mono _
      | exact LeO.none _
      | refine LeO.ite ?_ ?_
      | refine LeO.bind ?_ (fun _ => ?_)
set_option maxHeartbeats 8000000 in
set_option maxRecDepth 100000 in
theorem rundlelaw06_ProbeSizes.calls (k : Nat) (a0 : Int) (r : Bool) (w : World) (h : rundlelaw06_ProbeSizes.f k a0 = some r) :
    Calls Try.prog 13 #[.int .i64 a0] w fun e w' => e = .returned (.bool r) ∧ Below w.heap.size w w' := by
  have HB := Aside0.mk (Below.refl w.heap.size w)
  have H : ((rundlelaw06_awake.f k).bind fun t123 => (if t123 = true then (rundlelaw06_ProbeSizes.j0 k a0 (decide (a0 > 1099511627776))) else (rundlelaw06_ProbeSizes.j0 k a0 true))) = some r := h
  clear h
  have HC2 := Aside0.mk H
  clear H
  go_enter Try.func13, Try.ntmps13
  go_upto_region 1 with (fail)
  go_cut [10] (fun v10 wc => ∃ (kq : Nat) (x10_1 : Bool), v10 = .bool x10_1 ∧ Aside0 (rundlelaw06_ProbeSizes.j0 kq a0 x10_1 = some r) ∧ Aside0 (kq ≤ k) ∧ Aside0 (Below w.heap.size w wc))
  case first =>
    have H := HC2.out
    clear HC2
    replace H := Option.bind_eq_some_iff.mp H
    obtain ⟨t123, A30, H⟩ := H
    replace H : (if t123 = true then (rundlelaw06_ProbeSizes.j0 k a0 (decide (a0 > 1099511627776))) else (rundlelaw06_ProbeSizes.j0 k a0 true)) = some r := H
    have A3 := Aside0.mk A30
    clear A30
    by_cases c4 : t123 = true
    · subst c4
      have H1 : (rundlelaw06_ProbeSizes.j0 k a0 (decide (a0 > 1099511627776))) = some r := by rw [if_pos rfl] at H; exact H
      clear H
      have H := H1
      clear H1
      have H' := Aside0.mk H
      clear H
      go_wp2_with (first | ((with_reducible refine gate_callee (f := 31) rfl ?_); refine goesL_ (some 5) rfl rfl Try.func31 (by kernel_rfl) rfl #[] rfl (by (try simp only [List.map_toArray, List.map_cons, List.map_nil]); first | done | rfl | (simp only [List.length_drop, List.length_take]; rfl)) ?_; (with_reducible refine (rundlelaw06_awake.calls k  true _ A3.out).mono ?_); rintro e w5 ⟨rfl, hb⟩; refine ⟨_, rfl, ?_⟩; have n0_ := Aside0.mk (below_step (by repeat (first | (with_reducible first | exact HB.out | apply below_alloc | apply pw_below_drewN | apply below_drew1) | exact HB.out)) hb); clear HB; have HB := n0_; clear n0_; (try clear hb); (try clear hb2); (try clear hk); (try clear hi)))
      go_meet
      case rel => exact ⟨_, (decide (a0 > 1099511627776)), (by first | rfl | (simp; done) | (simp [*]; done)), H', ⟨by first | omega | exact Nat.le_refl _⟩, ⟨by repeat (first | (with_reducible first | exact HB.out | apply below_alloc | apply pw_below_drewN | apply below_drew1) | exact HB.out)⟩⟩
    · replace c4 := Bool.eq_false_iff.mpr c4
      subst c4
      have H1 : (rundlelaw06_ProbeSizes.j0 k a0 true) = some r := by rw [if_neg (show ¬ (false = true) by decide)] at H; exact H
      clear H
      have H := H1
      clear H1
      have H' := Aside0.mk H
      clear H
      go_wp2_with (first | ((with_reducible refine gate_callee (f := 31) rfl ?_); refine goesL_ (some 5) rfl rfl Try.func31 (by kernel_rfl) rfl #[] rfl (by (try simp only [List.map_toArray, List.map_cons, List.map_nil]); first | done | rfl | (simp only [List.length_drop, List.length_take]; rfl)) ?_; (with_reducible refine (rundlelaw06_awake.calls k  false _ A3.out).mono ?_); rintro e w6 ⟨rfl, hb⟩; refine ⟨_, rfl, ?_⟩; have n0_ := Aside0.mk (below_step (by repeat (first | (with_reducible first | exact HB.out | apply below_alloc | apply pw_below_drewN | apply below_drew1) | exact HB.out)) hb); clear HB; have HB := n0_; clear n0_; (try clear hb); (try clear hb2); (try clear hk); (try clear hi)))
      go_meet
      case rel => exact ⟨_, (true), (by first | rfl | (simp; done) | (simp [*]; done)), H', ⟨by first | omega | exact Nat.le_refl _⟩, ⟨by repeat (first | (with_reducible first | exact HB.out | apply below_alloc | apply pw_below_drewN | apply below_drew1) | exact HB.out)⟩⟩
  case rest =>
    clear HC2
    try clear c1
    try clear p2
    try clear c3
    try clear c4
    obtain ⟨kq, x10_1, rfl, HA, HJ1, HB⟩ := hcut
    cases kq with
    | zero => exact absurd HA.out (by simp [rundlelaw06_ProbeSizes.j0])
    | succ kj1 =>
      have H := HA.out
      clear HA
      simp only [rundlelaw06_ProbeSizes.j0] at H
      by_cases c7 : x10_1 = true
      · subst c7
        have H1 : ((rundlelaw06_awake.f kj1).bind fun t124 => (some t124)) = some r := by rw [if_pos rfl] at H; exact H
        clear H
        have H := H1
        clear H1
        replace H := Option.bind_eq_some_iff.mp H
        obtain ⟨t124, A80, H⟩ := H
        replace H : (some t124) = some r := H
        have A8 := Aside0.mk A80
        clear A80
        obtain rfl := Option.some.inj H
        go_wp2_with (first | ((with_reducible refine gate_callee (f := 31) rfl ?_); refine goesL_ (some 11) rfl rfl Try.func31 (by kernel_rfl) rfl #[] rfl (by (try simp only [List.map_toArray, List.map_cons, List.map_nil]); first | done | rfl | (simp only [List.length_drop, List.length_take]; rfl)) ?_; (with_reducible refine (rundlelaw06_awake.calls kj1  t124 _ A8.out).mono ?_); rintro e w9 ⟨rfl, hb⟩; refine ⟨_, rfl, ?_⟩; have n0_ := Aside0.mk (below_step (by repeat (first | (with_reducible first | exact HB.out | apply below_alloc | apply pw_below_drewN | apply below_drew1) | exact HB.out)) hb); clear HB; have HB := n0_; clear n0_; (try clear hb); (try clear hb2); (try clear hk); (try clear hi)))
        go_ret
        exact ⟨by first | rfl | (simp [errW_none, errW_some] <;> rfl) | (simp [*, errW_none, errW_some] <;> rfl), by repeat (first | (with_reducible first | exact HB.out | apply below_alloc | apply pw_below_drewN | apply below_drew1) | exact HB.out)⟩
      · replace c7 := Bool.eq_false_iff.mpr c7
        subst c7
        have H1 : ((probe_Size.f kj1 a0).bind fun t125 => (if a0 < 0 then (rundlelaw06_ProbeSizes.j1 kj1 0 t125) else (rundlelaw06_ProbeSizes.j1 kj1 a0 t125))) = some r := by rw [if_neg (show ¬ (false = true) by decide)] at H; exact H
        clear H
        have H := H1
        clear H1
        replace H := Option.bind_eq_some_iff.mp H
        obtain ⟨t125, A100, H⟩ := H
        replace H : (if a0 < 0 then (rundlelaw06_ProbeSizes.j1 kj1 0 t125) else (rundlelaw06_ProbeSizes.j1 kj1 a0 t125)) = some r := H
        have A10 := Aside0.mk A100
        clear A100
        have HC11 := Aside0.mk H
        clear H
        go_upto_if 15 with (first | ((with_reducible refine gate_callee (f := 38) rfl ?_); refine goesL_ (some 13) rfl rfl Try.func38 (by kernel_rfl) rfl #[.int .i64 a0] rfl (by (try simp only [List.map_toArray, List.map_cons, List.map_nil]); first | done | rfl | (simp only [List.length_drop, List.length_take]; rfl)) ?_; (with_reducible refine (probe_Size.calls kj1 a0 t125 _ A10.out).mono ?_); rintro e w' ⟨rfl, ⟨nd, rfl⟩⟩; refine ⟨_, rfl, ?_⟩))
        (try simp only [Act.put, List.setIfInBounds_toArray, List.set_cons_zero, List.set_cons_succ])
        go_cut [0] (fun v0 wc => ∃ (kq : Nat) (x0_10 : Int), v0 = .int .i64 x0_10 ∧ Aside0 (rundlelaw06_ProbeSizes.j1 kq x0_10 t125 = some r) ∧ Aside0 (kq ≤ kj1) ∧ Aside0 (Below w.heap.size w wc))
        case first =>
          have H := HC11.out
          clear HC11
          by_cases c12 : a0 < 0
          · rw [if_pos c12] at H
            have c12b0 : decide (a0 < 0) = true := decide_eq_true c12
            clear c12
            (first | rw [c12b0] | (simp only [i64_w, i32_w]; rw [c12b0]) | skip)
            have H' := Aside0.mk H
            clear H
            go_wp2
            go_meet
            case rel => exact ⟨_, (0), (by first | rfl | (simp; done) | (simp [*]; done)), H', ⟨by have := HJ1.out; first | omega | exact Nat.le_refl _⟩, ⟨by repeat (first | (with_reducible first | exact HB.out | apply below_alloc | apply pw_below_drewN | apply below_drew1) | exact HB.out)⟩⟩
          · rw [if_neg c12] at H
            have c12b0 : decide (a0 < 0) = false := decide_eq_false c12
            clear c12
            (first | rw [c12b0] | (simp only [i64_w, i32_w]; rw [c12b0]) | skip)
            have H' := Aside0.mk H
            clear H
            go_wp2
            go_meet
            case rel => exact ⟨_, (a0), (by first | rfl | (simp; done) | (simp [*]; done)), H', ⟨by have := HJ1.out; first | omega | exact Nat.le_refl _⟩, ⟨by repeat (first | (with_reducible first | exact HB.out | apply below_alloc | apply pw_below_drewN | apply below_drew1) | exact HB.out)⟩⟩
        case rest =>
          clear HC11
          try clear c1
          try clear p2
          try clear c3
          try clear c4
          try clear c7
          try clear c12
          try clear c12b0
          try clear p2
          obtain ⟨kq, x0_10, rfl, HA, HJ10, HB⟩ := hcut
          cases kq with
          | zero => exact absurd HA.out (by simp [rundlelaw06_ProbeSizes.j1])
          | succ kj10 =>
            have H := HA.out
            clear HA
            simp only [rundlelaw06_ProbeSizes.j1] at H
            have H' := Aside0.mk H
            clear H
            go_wp2
            go_loopg [4] kj10 (fun kq v4 w' => ∃ (x4_3 : Int), v4 = .int .i64 x4_3 ∧ Aside0 (rundlelaw06_ProbeSizes.l0 kq x0_10 t125 x4_3 = some r) ∧ Aside0 (kq ≤ kj10) ∧ Aside0 (Below w.heap.size w w'))
            case atStart => exact ⟨(2), (by first | rfl | (simp; done) | (simp [*]; done)), H', ⟨Nat.le_refl _⟩, ⟨by repeat (first | (with_reducible first | exact HB.out | apply below_alloc | apply pw_below_drewN | apply below_drew1) | exact HB.out)⟩⟩
            case round =>
              clear H'
              try clear c1
              try clear p2
              try clear c3
              try clear c4
              try clear c7
              try clear c12
              try clear c12b0
              try clear p2
              obtain ⟨x4_3, rfl, HA, HK3, HB⟩ := hrel
              cases gk with
              | zero => exact absurd HA.out (by simp [rundlelaw06_ProbeSizes.l0])
              | succ k3 =>
                have H := HA.out
                clear HA
                simp only [rundlelaw06_ProbeSizes.l0] at H
                by_cases c13 : x4_3 < t125
                · rw [if_pos c13] at H
                  have c13b0 : decide (x4_3 < t125) = true := decide_eq_true c13
                  clear c13
                  by_cases c14 : x4_3 < 4398046511104
                  · rw [if_pos c14] at H
                    have c14b0 : decide (x4_3 < 4398046511104) = true := decide_eq_true c14
                    clear c14
                    have H' := Aside0.mk H
                    clear H
                    go_wp2
                    go_roundg k3
                    case measure => have := HJ1.out; have := HJ10.out; have := HK3.out; omega
                    case rel => exact ⟨(wrap64 (x4_3 * 2)), (by first | rfl | (simp; done) | (simp [*]; done)), H', ⟨by have := HJ1.out; have := HJ10.out; have := HK3.out; omega⟩, ⟨by repeat (first | (with_reducible first | exact HB.out | apply below_alloc | apply pw_below_drewN | apply below_drew1) | exact HB.out)⟩⟩
                  · rw [if_neg c14] at H
                    have c14b0 : decide (x4_3 < 4398046511104) = false := decide_eq_false c14
                    clear c14
                    by_cases c15 : x4_3 = t125
                    · rw [if_pos c15] at H
                      have c15b0 : (x4_3 == t125) = true := beq_iff_eq.mpr c15
                      have c15b1 : (x4_3 != t125) = false := bne_eq_false_iff_eq.mpr c15
                      clear c15
                      by_cases c16 : t125 ≥ (wrap64 (2 * x0_10))
                      · rw [if_pos c16] at H
                        have c16b0 : decide ((wrap64 (2 * x0_10)) ≤ t125) = true := decide_eq_true c16
                        clear c16
                        by_cases c17 : t125 = 2
                        · rw [if_pos c17] at H
                          have c17b0 : (t125 == 2) = true := beq_iff_eq.mpr c17
                          have c17b1 : (t125 != 2) = false := bne_eq_false_iff_eq.mpr c17
                          clear c17
                          obtain rfl := Option.some.inj H
                          go_wp2
                          go_ret
                          exact ⟨by first | rfl | (simp [errW_none, errW_some] <;> rfl) | (simp [*, errW_none, errW_some] <;> rfl), by repeat (first | (with_reducible first | exact HB.out | apply below_alloc | apply pw_below_drewN | apply below_drew1) | exact HB.out)⟩
                        · rw [if_neg c17] at H
                          have c17b0 : (t125 == 2) = false := beq_eq_false_iff_ne.mpr c17
                          have c17b1 : (t125 != 2) = true := bne_iff_ne.mpr c17
                          obtain rfl := Option.some.inj H
                          go_wp2
                          go_ret
                          exact ⟨by first | rfl | (simp [errW_none, errW_some] <;> rfl) | (simp [*, errW_none, errW_some] <;> rfl), by repeat (first | (with_reducible first | exact HB.out | apply below_alloc | apply pw_below_drewN | apply below_drew1) | exact HB.out)⟩
                      · rw [if_neg c16] at H
                        have c16b0 : decide ((wrap64 (2 * x0_10)) ≤ t125) = false := decide_eq_false c16
                        clear c16
                        obtain rfl := Option.some.inj H
                        go_wp2
                        go_ret
                        exact ⟨by first | rfl | (simp [errW_none, errW_some] <;> rfl) | (simp [*, errW_none, errW_some] <;> rfl), by repeat (first | (with_reducible first | exact HB.out | apply below_alloc | apply pw_below_drewN | apply below_drew1) | exact HB.out)⟩
                    · rw [if_neg c15] at H
                      have c15b0 : (x4_3 == t125) = false := beq_eq_false_iff_ne.mpr c15
                      have c15b1 : (x4_3 != t125) = true := bne_iff_ne.mpr c15
                      obtain rfl := Option.some.inj H
                      go_wp2
                      go_ret
                      exact ⟨by first | rfl | (simp [errW_none, errW_some] <;> rfl) | (simp [*, errW_none, errW_some] <;> rfl), by repeat (first | (with_reducible first | exact HB.out | apply below_alloc | apply pw_below_drewN | apply below_drew1) | exact HB.out)⟩
                · rw [if_neg c13] at H
                  have c13b0 : decide (x4_3 < t125) = false := decide_eq_false c13
                  clear c13
                  by_cases c18 : x4_3 = t125
                  · rw [if_pos c18] at H
                    have c18b0 : (x4_3 == t125) = true := beq_iff_eq.mpr c18
                    have c18b1 : (x4_3 != t125) = false := bne_eq_false_iff_eq.mpr c18
                    clear c18
                    by_cases c19 : t125 ≥ (wrap64 (2 * x0_10))
                    · rw [if_pos c19] at H
                      have c19b0 : decide ((wrap64 (2 * x0_10)) ≤ t125) = true := decide_eq_true c19
                      clear c19
                      by_cases c20 : t125 = 2
                      · rw [if_pos c20] at H
                        have c20b0 : (t125 == 2) = true := beq_iff_eq.mpr c20
                        have c20b1 : (t125 != 2) = false := bne_eq_false_iff_eq.mpr c20
                        clear c20
                        obtain rfl := Option.some.inj H
                        go_wp2
                        go_ret
                        exact ⟨by first | rfl | (simp [errW_none, errW_some] <;> rfl) | (simp [*, errW_none, errW_some] <;> rfl), by repeat (first | (with_reducible first | exact HB.out | apply below_alloc | apply pw_below_drewN | apply below_drew1) | exact HB.out)⟩
                      · rw [if_neg c20] at H
                        have c20b0 : (t125 == 2) = false := beq_eq_false_iff_ne.mpr c20
                        have c20b1 : (t125 != 2) = true := bne_iff_ne.mpr c20
                        obtain rfl := Option.some.inj H
                        go_wp2
                        go_ret
                        exact ⟨by first | rfl | (simp [errW_none, errW_some] <;> rfl) | (simp [*, errW_none, errW_some] <;> rfl), by repeat (first | (with_reducible first | exact HB.out | apply below_alloc | apply pw_below_drewN | apply below_drew1) | exact HB.out)⟩
                    · rw [if_neg c19] at H
                      have c19b0 : decide ((wrap64 (2 * x0_10)) ≤ t125) = false := decide_eq_false c19
                      clear c19
                      obtain rfl := Option.some.inj H
                      go_wp2
                      go_ret
                      exact ⟨by first | rfl | (simp [errW_none, errW_some] <;> rfl) | (simp [*, errW_none, errW_some] <;> rfl), by repeat (first | (with_reducible first | exact HB.out | apply below_alloc | apply pw_below_drewN | apply below_drew1) | exact HB.out)⟩
                  · rw [if_neg c18] at H
                    have c18b0 : (x4_3 == t125) = false := beq_eq_false_iff_ne.mpr c18
                    have c18b1 : (x4_3 != t125) = true := bne_iff_ne.mpr c18
                    obtain rfl := Option.some.inj H
                    go_wp2
                    go_ret
                    exact ⟨by first | rfl | (simp [errW_none, errW_some] <;> rfl) | (simp [*, errW_none, errW_some] <;> rfl), by repeat (first | (with_reducible first | exact HB.out | apply below_alloc | apply pw_below_drewN | apply below_drew1) | exact HB.out)⟩

/-- THE ONE PURE STATEMENT of rundlelaw06_ProbeSizes: yours. -/
def rundlelaw06_ProbeSizes.Pure : Prop := ∀ (a0 : Int), (Lit.int .i64 a0).wf = true → ∃ k, rundlelaw06_ProbeSizes.f k a0 = some true
theorem rundlelaw06_ProbeSizes.walk (P : rundlelaw06_ProbeSizes.Pure) (a0 : Int) (w : World) (w0 : (Lit.int .i64 a0).wf = true) :
    Calls Try.prog 13 #[.int .i64 a0] w fun e w' => e = .returned (.bool true) ∧ Below w.heap.size w w' := by
  obtain ⟨k, h⟩ := P a0 w0
  refine (rundlelaw06_ProbeSizes.calls k a0 true w h).mono ?_
  rintro e w' ⟨rfl, hd⟩
  exact ⟨rfl, hd⟩

end Go.Proofs.Ytdmmpokfofcdgaa.PProbeSizes
