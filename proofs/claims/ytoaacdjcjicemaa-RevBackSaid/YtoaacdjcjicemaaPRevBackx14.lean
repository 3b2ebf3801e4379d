/- By hand: api_Entry_82. -/
-- written by a program of this session (the print, turned)
import Derived.Test.YtoaacdjcjicemaaPRevBackx0
import Derived.Lib.SliceRun
import Derived.Test.YtoaacdjcjicemaaWAl
namespace Go.Proofs.Ytoaacdjcjicemaa.PRevBack
open Go.RowKit Go.Proofs.YtoaacdjcjicemaaW.PrintWords Go.Proofs.YtoaacdjcjicemaaW.PrintLast Go.Proofs.YtoaacdjcjicemaaW.PrintMore
attribute [local go_sem] cell_self cell_there leq_str geq_str gtr_str max2_str max2_int min2_int max_two min_two max_three min_three max_four min_four   -- for this text's walks alone
set_option linter.unusedVariables false
set_option linter.unusedSimpArgs false
set_option maxHeartbeats 8000000 in
set_option maxRecDepth 100000 in
theorem grow_calls (n : Nat) (hn : n ≤ 1000000) (w : World) : Calls Try.prog 98 #[.slice none 0 0, .int .i64 (n : Int)] w fun e w' => ∃ v, e = .returned v ∧ Kd.R k114 114 w' w.heap.size (fun _ => True) v [] ∧ Below w.heap.size w w' := by
 have HB := K0 (Below.refl w.heap.size w)
 have HN := K0 hn
 have g1 : decide ((n : Int) < 0) = false := dF (by omega)
 have hw2 : wrap64 (n : Int) = n := by unfold wrap64; omega
 clear hn
 rcases Nat.eq_zero_or_pos n with rfl | h0
 ·
  go_enter Try.func98, Try.ntmps98
  go_wp2
  go_ret
  exact ⟨_, rfl, Kd.R_nil _ _ _ _ _, HB.out⟩
 have g2 : decide (0 < (n : Int)) = true := dT (by omega)
 have g3 : decide (0 < n) = true := dT h0
 go_enter Try.func98, Try.ntmps98
 go_wp2_with ((with_reducible refine gate_builtin (b := .append) (xs := #[.tmp 20, .tmp 21]) rfl ?_); at_builtin; apply Aside0.out)
 refine K0 ?_
 refine Kd.R_append_zeros k114 (w0 := w) w.heap.size rfl (.tmp 20) (.tmp 21) 42 3 114 (.agg #[.string ⟨#[]⟩, .string ⟨#[]⟩, .bool false]) 40 rfl Try.underlying42 Try.underlying3 info114 rfl (by decide) (by omega) (.slice none 0 0) [] z114 (wrap64 (n : Int)) (fun _ => True) rfl rfl (k114_mkM _ _ _ z114) (fun _ _ => trivial) (Kd.R_nil _ _ _ _ _) (by rw [hw2]; omega) HB.out (Nat.le_refl _) (by rw [hw2]; have := HN.out; simp only [List.length_nil, Int.toNat_natCast]; omega) ?_
 intro v1 w1 ho hb hg hat
 generalize ([] ++ List.replicate (wrap64 (n : Int)).toNat z114 : List S114) = ys at ho
 obtain ⟨A1, c1, rfl⟩ := Kd.R_slice ho
 have HO := K0 ho
 have HB1 := K0 hb
 obtain ⟨i114, hi114, _, hsz114, _⟩ := info_parts info114
 have hcut := cut_to (P := Try.prog) 42 114 .i64 Try.underlying42 hi114 A1 ys.length c1 0 (by omega) (by omega) (Kd.R_reads' ho).2.1
 clear HB ho hb hg hat
 go_wp2
 go_ret
 exact ⟨_, rfl, by have h := Kd.R_take (m := 0) HO.out (Nat.zero_le _); exact h, HB1.out⟩
theorem flat_one (l : List (List S114)) (i : Nat) (h : i < l.length) : (l.take (i + 1)).flatten = (l.take i).flatten ++ rd_L5 l (i : Int) := by
 have e : rd_L5 l (i : Int) = l[i] := by
  unfold rd_L5
  simp [List.getD, h]
 rw [e, List.take_succ_eq_append_getElem h, List.flatten_append]
 simp
theorem flat_le (l : List (List S114)) (i : Nat) : (l.take i).flatten.length ≤ l.flatten.length := by
 conv => rhs; rw [← List.take_append_drop i l, List.flatten_append, List.length_append]
 omega
def api_Entry_82.f (l0 : List (List (S114))) : Option ((List (S114))) := if l0.length < 1000 then (if l0.flatten.length < 1000000 then some l0.flatten else none) else none
set_option maxHeartbeats 8000000 in
set_option maxRecDepth 100000 in
theorem api_Entry_82.calls (A0 : Option Addr) (c0 : Nat) (l0 : List (List (S114))) (r : List (S114)) (w : World) (hr0 : Kd.C (Kd.slice 114 k114) w A0 l0.length l0) (hc0 : l0.length ≤ c0) (h : api_Entry_82.f l0 = some r) :
  Calls Try.prog 82 #[.slice A0 l0.length c0] w fun e w' => ∃ v0_ : Value, e = .returned (v0_) ∧ Kd.R k114 114 w' w.heap.size (fun _ => True) v0_ r ∧ Below w.heap.size w w' := by
 have HR0 := K0 hr0
 have HC0 := K0 hc0
 clear hr0 hc0
 have HB := K0 (Below.refl w.heap.size w)
 unfold api_Entry_82.f at h
 by_cases b1 : l0.length < 1000
 ·
  rw [if_pos b1] at h
  by_cases b2 : l0.flatten.length < 1000000
  ·
   rw [if_pos b2] at h; obtain rfl := Option.some.inj h; have HL := K0 (And.intro b1 b2); clear h b1 b2; go_enter Try.func82, Try.ntmps82
   go_wp2
   go_loopg [3, 11] l0.length (fun kq v3 v11 w' => ∃ (i s : Nat), v3 = .int .i64 (s : Int) ∧ v11 = .int .i64 (i : Int) ∧ Aside0 (kq + i = l0.length ∧ s = (l0.take i).flatten.length) ∧ Aside0 (Below w.heap.size w w'))
   case atStart => exact ⟨0, 0, rfl, rfl, ⟨by omega, rfl⟩, HB⟩
   case round =>
    obtain ⟨i, s, rfl, rfl, HK, HB⟩ := hrel; by_cases c : (i : Int) < (l0.length : Int)
    ·
     have cb : decide ((i : Int) < (l0.length : Int)) = true := dT c; obtain ⟨ad, A1, c1, e0, x0, l1, i1⟩ := at_L5 HR0.out (i : Int) (by omega) c
     cases e0; simp only [Int.toNat_natCast] at x0; replace x0 := (HB.out.cell (bL w _ x0)).trans x0; have ci : i < l0.length := by omega
     obtain ⟨m, hm⟩ : ∃ m, m = (rd_L5 l0 (i : Int)).length := ⟨_, rfl⟩; rw [← hm] at x0; have HM := K0 (show (l0.take (i + 1)).flatten.length = s + m from by rw [flat_one l0 i ci, List.length_append, ← HK.out.2, hm])
     have hs1 : wrap64 ((s : Int) + (m : Int)) = ((s + m : Nat) : Int) := by
      have h1 := flat_le l0 (i + 1); have h2 := HM.out; have h3 := HL.out.2; unfold wrap64
      omega
     have hs2 : decide (((s + m : Nat) : Int) < 0) = false := dF (by omega)
     have ewi : wrap64 ((i : Int) + 1) = ((i + 1 : Nat) : Int) := by
      have h3 := HL.out.1; unfold wrap64
      omega
     obtain ⟨s2, hs3⟩ : ∃ s2 : Nat, s2 = s + m := ⟨_, rfl⟩; rw [← hs3] at hs1 hs2; have HS := K0 hs3; have c0p : (0 ≤ (i : Int)) = True := eq_true (by omega); replace c := eq_true c; clear l1 i1 hm ci hs3; go_wp2
     go_roundg (gk - 1)
     case measure => have := HK.out.1; have := oT cb; omega
     case rel => exact ⟨i + 1, s2, by first | rfl | rw [hs1], by rw [ewi], ⟨by have := HK.out.1; have := oT cb; omega, by rw [HM.out, HS.out]⟩, HB⟩
    have cb : decide ((i : Int) < (l0.length : Int)) = false := dF c; have cb2 : (i < l0.length) = False := eq_false (by omega)
    have hsn : s ≤ 1000000 := by
     have h1 := flat_le l0 i; have h2 := HK.out.2; have h3 := HL.out.2; omega
    clear c HK; go_wp2_with fail
    refine (grow_calls s hsn wr).mono ?_; rintro e w1 ⟨v, rfl, hO, hb⟩; have HO := K0 (Kd.R_lower hO (below_size HB.out)); have HB1 := K0 (below_step HB.out hb); clear hO hb HB hsn; go_wp2
    go_loopg [6, 27] l0.length (fun kq v6 v27 w' => ∃ (i : Nat), v27 = .int .i64 (i : Int) ∧ Aside0 (kq + i = l0.length) ∧ Aside0 (Kd.R k114 114 w' w.heap.size (fun _ => True) v6 (l0.take i).flatten) ∧ Aside0 (Below w.heap.size w w'))
    case atStart => exact ⟨0, rfl, ⟨by omega⟩, HO, HB1⟩
    case round =>
     clear cb cb2; obtain ⟨i, rfl, HK, HO, HB⟩ := hrel; by_cases c : (i : Int) < (l0.length : Int)
     ·
      have cb : decide ((i : Int) < (l0.length : Int)) = true := dT c; obtain ⟨ad, A1, c1, e0, x0, l1, i1⟩ := at_L5 HR0.out (i : Int) (by omega) c
      cases e0; simp only [Int.toNat_natCast] at x0; replace x0 := (HB.out.cell (bL w _ x0)).trans x0; have ci : i < l0.length := by omega
      have HF := K0 (flat_one l0 i ci); obtain ⟨ys, hys⟩ : ∃ ys, ys = rd_L5 l0 (i : Int) := ⟨_, rfl⟩; rw [← hys] at x0 i1 HF; obtain ⟨xs, hxs⟩ : ∃ xs, xs = (l0.take i).flatten := ⟨_, rfl⟩; rw [← hxs] at HO HF; have HI := K0 (Kd.C_below i1 HB.out)
      have HG := K0 (show xs.length + ys.length < 1000000 from by
       have h1 := flat_le l0 (i + 1); have h2 := HL.out.2; rw [HF.out, List.length_append] at h1
       omega)
      have ewi : wrap64 ((i : Int) + 1) = ((i + 1 : Nat) : Int) := by
       have h3 := HL.out.1; unfold wrap64
       omega
      have c0p : (0 ≤ (i : Int)) = True := eq_true (by omega); replace c := eq_true c; clear l1 i1 ci hys hxs; go_wp2_with ((with_reducible refine gate_builtin (b := .append) (xs := #[.tmp 31, .tmp 32]) rfl ?_); at_builtin; apply Aside0.out)
      refine K0 ?_; refine Kd.R_append_rows k114 (w0 := w) (Rr := k114.K wr) w.heap.size rfl (.tmp 31) (.tmp 32) 42 114 (.agg #[.string ⟨#[]⟩, .string ⟨#[]⟩, .bool false]) 40 rfl Try.underlying42 info114 rfl (by decide) (by omega) _ xs ys _ _ _ (fun _ => True) (fun _ => False) rfl rfl HO.out HI.out (fun x cs hx => by rw [k114_open hx]; exact k114_mkM _ _ _ x) (fun _ hk => hk.elim) (fun _ _ => trivial) HB.out (below_size HB.out) (by have := HG.out; omega) ?_; intro v1 w1 ho hb hg hat; have HO2 := K0 ho; have HB2 := K0 hb; clear ho hb hg hat HB HO; go_wp2
      go_roundg (gk - 1)
      case measure => have := HK.out; have := oT cb; omega
      case rel => exact ⟨i + 1, by rw [ewi], ⟨by have := HK.out; have := oT cb; omega⟩, ⟨by rw [HF.out]; exact HO2.out⟩, HB2⟩
     have cb : decide ((i : Int) < (l0.length : Int)) = false := dF c; have cb2 : (i < l0.length) = False := eq_false (by omega); have hi : (l0.take i).flatten = l0.flatten := by rw [List.take_of_length_le (by omega)]
     rw [hi] at HO; clear c hi; go_wp2
     go_ret; exact ⟨_, rfl, HO.out, HB.out⟩
  rw [if_neg b2] at h
  exact nomatch h
 rw [if_neg b1] at h
 exact nomatch h
end Go.Proofs.Ytoaacdjcjicemaa.PRevBack
