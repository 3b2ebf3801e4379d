/- By hand: rev_live. -/
-- written by a program of this session (the print, turned)
import Derived.Test.YtoaacdjcjicemaaPRevBackx0
import Derived.Test.YtoaacdjcjicemaaPRevBackx5
import Derived.Lib.SliceRun
import Derived.Test.YtoaacdjcjicemaaWAl
namespace Go.Proofs.Ytoaacdjcjicemaa.PRevBack
open Go.RowKit Go.Proofs.YtoaacdjcjicemaaW.PrintWords Go.Proofs.YtoaacdjcjicemaaW.PrintLast Go.Proofs.YtoaacdjcjicemaaW.PrintMore
attribute [local go_sem] cell_self cell_there leq_str geq_str gtr_str max2_str max2_int min2_int max_two min_two max_three min_three max_four min_four   -- for this text's walks alone
set_option linter.unusedVariables false
set_option linter.unusedSimpArgs false
set_option maxHeartbeats 8000000 in
set_option maxRecDepth 100000 in
theorem live1_calls (k v : ByteArray) (g : Bool) (w : World) : Calls Try.prog 97 #[.agg #[.string k, .string v, .bool g]] w fun e w' => e = .returned (.bool g) ∧ Below w.heap.size w w' := by
 have HB := K0 (Below.refl w.heap.size w)
 go_enter Try.func97, Try.ntmps97
 go_wp2
 go_ret
 exact ⟨rfl, wA HB.out _⟩
/-- the place of the first entry that is gone; -1: there is none -/
def goneAt : List S114 → Int → Int
 | [], _ => -1
 | e :: l, i => if e.f2 = true then i else goneAt l (i + 1)
theorem rd114n (l : List S114) (n : Nat) (h : n < l.length) : rd_T114 l (n : Int) = l[n] := by
 unfold rd_T114
 simp [List.getD, h]
theorem goneAt_at : ∀ (l : List S114) (n : Nat) (i : Int), n < l.length → goneAt (l.drop n) i = if (rd_T114 l n).f2 = true then i else goneAt (l.drop (n + 1)) (i + 1) := by
 intro l n i h
 rw [List.drop_eq_getElem_cons h, rd114n l n h]
 rfl
theorem goneAt_none : ∀ (l : List S114) (i : Int), 0 ≤ i → goneAt l i = -1 → l.filter (fun e => !e.f2) = l
 | [], _, _, _ => rfl
 | e :: l, i, hi, h => by
  simp only [goneAt] at h
  by_cases c : e.f2 = true
  · rw [if_pos c] at h; omega
  rw [if_neg c] at h
  rw [List.filter_cons_of_pos (by simp [c]), goneAt_none l (i + 1) (by omega) h]
theorem goneAt_some : ∀ (l : List S114) (i : Int), 0 ≤ i → goneAt l i ≠ -1 → ∃ n : Nat, goneAt l i = i + n ∧ n < l.length ∧ (l.take n).filter (fun e => !e.f2) = l.take n ∧ (rd_T114 l n).f2 = true
 | [], _, _, h => absurd rfl h
 | e :: l, i, hi, h => by
  simp only [goneAt] at h ⊢
  by_cases c : e.f2 = true
  · rw [if_pos c]; exact ⟨0, by omega, by simp, rfl, c⟩
  rw [if_neg c] at h ⊢
  obtain ⟨n, h1, h2, h3, h4⟩ := goneAt_some l (i + 1) (by omega) h
  refine ⟨n + 1, by omega, by simp only [List.length_cons]; omega, ?_, ?_⟩
  · rw [List.take_succ_cons, List.filter_cons_of_pos (by simp [c]), h3]
  rw [rd114n _ _ (by simp only [List.length_cons]; omega)]
  rw [rd114n _ _ h2] at h4
  simpa using h4
set_option maxHeartbeats 8000000 in
set_option maxRecDepth 100000 in
theorem indexGone_calls (A0 : Option Addr) (c0 : Nat) (l0 : List S114) (w : World) (hr0 : Kd.C k114 w A0 l0.length l0) (hl : l0.length < 9223372036854775807) :
  Calls Try.prog 103 #[.slice A0 l0.length c0, .func (Fn.func 97) #[] #[]] w fun e w' => e = .returned (.int .i64 (goneAt l0 0)) ∧ Below w.heap.size w w' := by
 have HR0 := K0 hr0
 have HL := K0 hl
 clear hr0 hl
 have HB := K0 (Below.refl w.heap.size w)
 go_enter Try.func103, Try.ntmps103
 go_wp2
 go_loopg [8] l0.length (fun kq v8 w' => ∃ (i : Nat), v8 = .int .i64 (i : Int) ∧ Aside0 (kq + i = l0.length) ∧ Aside0 (goneAt (l0.drop i) i = goneAt l0 0) ∧ Aside0 (Below w.heap.size w w'))
 case atStart => exact ⟨0, rfl, ⟨by omega⟩, ⟨rfl⟩, HB⟩
 case round =>
  obtain ⟨i, rfl, HK, HS, HB⟩ := hrel
  by_cases c : (i : Int) < (l0.length : Int)
  ·
   have cb : decide ((i : Int) < (l0.length : Int)) = true := dT c; obtain ⟨ad, e0, x0, x1, x2⟩ := at_T114 HR0.out (i : Int) (by omega) c
   cases e0; simp only [Int.toNat_natCast] at x0 x1 x2; replace x0 := (HB.out.cell (bL w _ x0)).trans x0; replace x1 := (HB.out.cell (bL w _ x1)).trans x1; replace x2 := (HB.out.cell (bL w _ x2)).trans x2; have c0p : (0 ≤ (i : Int)) = True := eq_true (by omega); replace c := eq_true c; go_wp2_with fail
   refine (live1_calls _ _ _ _).mono ?_; rintro e w1 ⟨rfl, hb⟩; have HB2 := K0 (below_step HB.out hb); have hs := goneAt_at l0 i i (by have := oT cb; omega)
   cases hp : (rd_T114 l0 (i : Int)).f2
   ·
    go_wp2
    go_roundg (gk - 1)
    case measure => have := HK.out; have := oT cb; omega
    case rel =>
     refine ⟨i + 1, ?_, ⟨by have := HK.out; have := oT cb; omega⟩, ⟨?_⟩, HB2⟩
     ·
      have := HL.out; have := oT cb
      have e : wrap64 ((i : Int) + 1) = ((i + 1 : Nat) : Int) := by
       unfold wrap64
       omega
      rw [e]
     rw [hp] at hs; rw [← HS.out, hs]; simp
   go_wp2
   go_ret; rw [hp] at hs; exact ⟨by rw [← HS.out, hs]; rfl, HB2.out⟩
  have cb : decide ((i : Int) < (l0.length : Int)) = false := dF c
  have cb2 : (i < l0.length) = False := eq_false (by omega)
  clear c
  go_wp2
  go_ret
  refine ⟨?_, HB.out⟩
  rw [← HS.out, List.drop_eq_nil_of_le (by have := of_decide_eq_false cb; omega)]
  rfl
theorem filter_one (l : List S114) (n : Nat) (h : n < l.length) : (l.take (n + 1)).filter (fun e => !e.f2) = (l.take n).filter (fun e => !e.f2) ++ (if (rd_T114 l n).f2 = true then [] else [rd_T114 l n]) := by
 rw [rd114n l n h, List.take_succ_eq_append_getElem h, List.filter_append]
 by_cases c : l[n].f2 = true
 ·
  rw [if_pos c, List.filter_cons_of_neg (by simp [c])]
  rfl
 rw [if_neg c, List.filter_cons_of_pos (by simp [c])]
 rfl
theorem drop_same {xs l : List S114} {j : Nat} (h : xs.drop j = l.drop j) (hx : j < xs.length) (hl : j < l.length) : rd_T114 xs j = rd_T114 l j ∧ xs.drop (j + 1) = l.drop (j + 1) := by
 rw [List.drop_eq_getElem_cons hx, List.drop_eq_getElem_cons hl] at h
 injection h with h1 h2
 exact ⟨by rw [rd114n _ _ hx, rd114n _ _ hl, h1], h2⟩
theorem below_cells {w0 : World} {g : Nat} (hg : w0.heap.size ≤ g) : ∀ (vs : List Value) (o : Nat) {W : World}, Below w0.heap.size w0 W → Below w0.heap.size w0 (W.setCells g o vs)
 | [], _, _, h => h
 | v :: r, o, W, h => below_cells hg r (o + 1) (wS h hg)
theorem take_clear {W : World} {base g N cap i : Nat} {ok : Nat → Prop} {xs : List S114} (h : Kd.R k114 114 W base ok (.slice (some ⟨g, 0, none⟩) N cap) xs) (hi : i ≤ xs.length) (seg : List Value) (hs : i * 3 + seg.length ≤ cap * 3) : Kd.R k114 114 (W.setCells g (i * 3) seg) base ok (.slice (some ⟨g, 0, none⟩) i cap) (xs.take i) := by
 obtain ⟨hok, inner, ⟨ho1, ho2⟩, hr⟩ := Kd.R_take h hi
 rcases ho2 with ⟨hv, _⟩ | ⟨g', cap', cur, hv, hb, hh, hnc', hcm, hcs, ht⟩
 · cases hv
 injection hv with ha _ hc
 injection ha with ha
 injection ha with hg
 subst hg
 subst hc
 have hsz : k114.sz = 3 := rfl
 rw [hsz] at hcs ho1 ht
 obtain ⟨cur', h3, h4, h5⟩ := setCells_row seg (i * 3) W cur hh (by omega)
 have hl : (xs.take i).length = i := by rw [lT]; omega
 refine ⟨hok, inner, ⟨ho1, .inr ⟨g, cap, cur', by rw [hl], hb, h3, by rw [hl]; rw [hl] at hnc'; exact hnc', hcm, by rw [h4, hcs, hsz], ?_⟩⟩, Reps.imp_ hr (fun x c hM => ?_)⟩
 · rw [hl, hsz, h5, List.append_assoc, List.take_append_of_le_length (by rw [lT, Array.length_toList]; rw [hl] at hnc'; omega), List.take_take, Nat.min_self, ← ht, hl]
 rw [k114_openM hM]
 exact k114_mkM _ _ _ x
theorem run_clear114 (w : World) (b o n c : Nat) (hn : 0 < n) (hc : ∀ j, j < n * 3 → (w.cell? ⟨b, o + j, none⟩).isSome = true) (hf : ∀ j, j < n * 3 → w.frozen? ⟨b, o + j, none⟩ = false) :
  ∃ seg : List Value, seg.length = n * 3 ∧ (Builtin.clear_ #[42] 0 #[.slice (some ⟨b, o, none⟩) n c]).run Try.prog w = .ok (.tuple #[]) (w.setCells b o seg) := by
 have hv : ∀ w, (zeroValue 114).run Try.prog w = .ok (.agg #[.string ⟨#[]⟩, .string ⟨#[]⟩, .bool false]) w := Try.zeroValue114
 have hlen : (Builtin.zeroCells #[Value.string ⟨#[]⟩, .string ⟨#[]⟩, .bool false] n).toList.length = n * 3 := by simp [Builtin.zeroCells]
 have hst := run_storeCells_cells (P := Try.prog) b o (Builtin.zeroCells #[Value.string ⟨#[]⟩, .string ⟨#[]⟩, .bool false] n).toList 0 w (by rw [hlen]; simpa using hc) (by rw [hlen]; simpa using hf) (by
  intro v hv'
  obtain ⟨k, hk, rfl⟩ := List.getElem_of_mem hv'
  have h3 : k % 3 = 0 ∨ k % 3 = 1 ∨ k % 3 = 2 := by omega
  simp only [Builtin.zeroCells, Array.getElem_toList, Array.getElem_map, Array.getElem_range]
  show (#[Value.string ⟨#[]⟩, .string ⟨#[]⟩, .bool false][k % 3]!).oneCell' = true
  rcases h3 with h | h | h <;> rw [h] <;> rfl)
 simp only [Nat.add_zero] at hst
 obtain ⟨m, rfl⟩ : ∃ m, n = m + 1 := ⟨n - 1, by omega⟩
 refine ⟨_, hlen, ?_⟩
 have hz : (Value.agg #[Value.string ⟨#[]⟩, .string ⟨#[]⟩, .bool false]).cells = #[Value.string ⟨#[]⟩, .string ⟨#[]⟩, .bool false] := rfl
 simp [Builtin.clear_, run_underlying Try.underlying42, hv, hz, hst]
set_option maxHeartbeats 8000000 in
set_option maxRecDepth 100000 in
theorem deleteFunc_calls (A0 : Option Addr) (c0 : Nat) (l0 : List S114) (w0 w : World) (hB : Below w0.heap.size w0 w) (hO : Kd.R k114 114 w w0.heap.size (fun _ => True) (.slice A0 l0.length c0) l0) (hl : l0.length < 1000000) :
  Calls Try.prog 96 #[.slice A0 l0.length c0, .func (Fn.func 97) #[] #[]] w fun e w' => ∃ v : Value, e = .returned v ∧ Kd.R k114 114 w' w0.heap.size (fun _ => True) v (l0.filter fun e => !e.f2) ∧ Below w0.heap.size w0 w' := by
 have HO := K0 hO
 have HL := K0 hl
 have HB := K0 hB
 clear hO hl hB
 have HI := K0 (indexGone_calls A0 c0 l0 w (Kd.R_reads' HO.out).2.2 (by have := HL.out; omega))
 obtain ⟨i0, hi0⟩ : ∃ i, goneAt l0 0 = i := ⟨_, rfl⟩
 by_cases cn : i0 = -1
 ·
  subst cn
  have hf := goneAt_none l0 0 (by omega) hi0
  rw [hi0] at HI
  rw [hf]
  clear hf hi0
  go_enter Try.func96, Try.ntmps96
  go_wp2_with fail
  refine HI.out.mono ?_
  rintro e w1 ⟨rfl, hb⟩
  have HO1 := K0 (rB HO.out hb)
  have HB1 := K0 (below_step HB.out hb)
  clear HO HB HI hb
  go_wp2
  go_ret
  exact ⟨_, rfl, HO1.out, HB1.out⟩
 obtain ⟨n, h1, h2, h3, h4⟩ := goneAt_some l0 0 (by omega) (by rw [hi0]; exact cn)
 obtain ⟨g, cap, he, hg0, hg1, hg2⟩ := Kd.R_form HO.out (by omega)
 injection he with he1 he2 he3
 subst he1 he3
 have GB := K0 hg0
 clear hg0 hg1 hg2 he2
 have hin : i0 = (n : Int) := by omega
 rw [hi0, hin] at HI
 have HX := K0 (And.intro h2 (And.intro h3 h4))
 have w1e : wrap64 ((n : Int) + 1) = ((n + 1 : Nat) : Int) := by
  have := HL.out
  unfold wrap64
  omega
 have n1 : ((n : Int) == -1) = false := beq_eq_false_iff_ne.2 (by omega)
 have HW := K0 w1e
 clear h1 h2 h3 h4 hi0 hin cn w1e
 go_enter Try.func96, Try.ntmps96
 go_wp2_with fail
 refine HI.out.mono ?_
 rintro e w1 ⟨rfl, hb⟩
 have HO1 := K0 (rB HO.out hb)
 have HB1 := K0 (below_step HB.out hb)
 clear HO HB HI hb
 go_wp2
 go_loopg [5, 6] (l0.length + 1) (fun kq v5 v6 w' => ∃ (i j : Nat) (xs : List S114), v5 = .int .i64 (i : Int) ∧ v6 = .int .i64 (j : Int) ∧ Aside0 (l0.length + 1 ≤ kq + j) ∧ Aside0 (i < j ∧ j ≤ l0.length ∧ xs.length = l0.length ∧ xs.take i = (l0.take j).filter (fun e => !e.f2) ∧ xs.drop j = l0.drop j) ∧ Aside0 (Kd.R k114 114 w' w0.heap.size (fun _ => True) (.slice (some ⟨g, 0, none⟩) l0.length c0) xs) ∧ Aside0 (Below w0.heap.size w0 w'))
 case atStart =>
  obtain ⟨x1, x2, x3⟩ := HX.out
  refine ⟨n, n + 1, l0, rfl, ?_, ⟨by omega⟩, ⟨by omega, by omega, rfl, ?_, rfl⟩, HO1, HB1⟩
  · rw [HW.out]
  rw [filter_one l0 n x1, x2, if_pos x3, List.append_nil]
 case round =>
  obtain ⟨i, j, xs, rfl, rfl, HK, HS, HO, HB⟩ := hrel
  by_cases c : (j : Int) < (l0.length : Int)
  ·
   have cb : decide ((j : Int) < (l0.length : Int)) = true := dT c; have hxl := HS.out.2.2.1; obtain ⟨ad, e0, x0, x1, x2⟩ := at_T114 (Kd.R_reads' HO.out).2.2 (j : Int) (by omega) (by rw [hxl]; exact c); obtain rfl : (⟨g, 0, none⟩ : Addr) = ad := by injection e0
   clear hxl e0; simp only [Int.toNat_natCast, add_plain] at x0 x1 x2; have c0p : (0 ≤ (j : Int)) = True := eq_true (by omega); replace c := eq_true c; go_upto_region 8 with (fail)
   have HO1 := K0 (rA HO.out (Obj.cells #[Value.string (rd_T114 xs ↑j).f0, Value.string (rd_T114 xs ↑j).f1, Value.bool (rd_T114 xs ↑j).f2] 114)); have HB1 := K0 (wA HB.out (Obj.cells #[Value.string (rd_T114 xs ↑j).f0, Value.string (rd_T114 xs ↑j).f1, Value.bool (rd_T114 xs ↑j).f2] 114)); have BK := K0 (blk_new wr (Obj.cells #[Value.string (rd_T114 xs ↑j).f0, Value.string (rd_T114 xs ↑j).f1, Value.bool (rd_T114 xs ↑j).f2] 114)); have hlt := K0 (show wr.heap.size < (wr.alloc (Obj.cells #[Value.string (rd_T114 xs ↑j).f0, Value.string (rd_T114 xs ↑j).f1, Value.bool (rd_T114 xs ↑j).f2] 114)).heap.size by simp); generalize wr.alloc (Obj.cells #[Value.string (rd_T114 xs ↑j).f0, Value.string (rd_T114 xs ↑j).f1, Value.bool (rd_T114 xs ↑j).f2] 114) = W at HO1 HB1 BK hlt ⊢; generalize wr.heap.size = gb at BK hlt ⊢; clear HO HB x0 x1 x2; obtain ⟨b0, b1, b2⟩ := show W.cell? ⟨gb, 0, none⟩ = some (.string (rd_T114 xs ↑j).f0) ∧ W.cell? ⟨gb, 1, none⟩ = some (.string (rd_T114 xs ↑j).f1) ∧ W.cell? ⟨gb, 2, none⟩ = some (.bool (rd_T114 xs ↑j).f2) from ⟨(bC BK.out 0).trans rfl, (bC BK.out 1).trans rfl, (bC BK.out 2).trans rfl⟩; go_wp2_with fail
   refine (live1_calls _ _ _ _).mono ?_; rintro e W2 ⟨rfl, hb⟩; have HO := K0 (rB HO1.out hb); have HB := K0 (below_step HB1.out hb); replace b0 := (hb.cell (bL W _ b0)).trans b0; replace b1 := (hb.cell (bL W _ b1)).trans b1; replace b2 := (hb.cell (bL W _ b2)).trans b2
   have ewj : wrap64 ((j : Int) + 1) = ((j + 1 : Nat) : Int) := by
    have := HL.out; have := oT cb; unfold wrap64
    omega
   clear HO1 HB1 BK hlt hb
   cases hg : (rd_T114 xs (j : Int)).f2
   ·
    rw [hg] at b2; obtain ⟨s1, s2, s3, s4, s5⟩ := HS.out; have hjl := oT cb; have hi1 : (i : Int) < (l0.length : Int) := by omega
    obtain ⟨c, hcl, hM, hcc, hfr⟩ := Kd.R_elem HO.out z114 (i : Int) (by omega) hi1; have hce := k114_openM hM; subst hce; have y0 := hcc 0 _ rfl; have y1 := hcc 1 _ rfl; have y2 := hcc 2 _ rfl; have f0 := hfr 0; have f1 := hfr 1; have f2 := hfr 2; have hsz : k114.sz = 3 := rfl; simp only [Int.toNat_natCast, hsz, Nat.add_zero] at y0 y1 y2 f0 f1 f2; have HP := K0 (Kd.R_seg HO.out (i : Int) (by omega) hi1 (seg := [.string (rd_T114 xs ↑j).f0, .string (rd_T114 xs ↑j).f1, .bool false]) (j := 0) hcl hcc (by show 0 + 3 ≤ 3; decide) (x' := rd_T114 xs ↑j) (okp := fun _ => False) (by rw [← hg]; exact k114_mkM _ _ _ (rd_T114 xs ↑j)) (fun _ hk => hk.elim)).1; have hi0 : (0 ≤ (i : Int)) = True := eq_true (by omega); have hi2 : (i < l0.length) = True := eq_true (by omega)
    have ewi : wrap64 ((i : Int) + 1) = ((i + 1 : Nat) : Int) := by
     have := HL.out; unfold wrap64
     omega
    replace hi1 := eq_true hi1; clear s1 s2 s3 s4 s5 hjl hcc hfr hM hcl; go_wp2
    go_roundg (gk - 1)
    case measure => have := HK.out; have := oT cb; omega
    case rel =>
     obtain ⟨s1, s2, s3, s4, s5⟩ := HS.out; have hjl := oT cb; obtain ⟨d1, d2⟩ := drop_same s5 (by omega) (by omega); refine ⟨i + 1, j + 1, xs.set i (rd_T114 xs ↑j), by rw [ewi], by rw [ewj], ⟨by have := HK.out; omega⟩, ⟨by omega, by omega, by rw [List.length_set]; exact s3, ?_, ?_⟩, ⟨HP.out⟩, ⟨wS (wS (wS HB.out GB.out) GB.out) GB.out⟩⟩
     · rw [filter_one l0 j (by omega), ← d1, if_neg (by rw [hg]; decide), ← s4, List.take_succ_eq_append_getElem (by rw [List.length_set]; omega), List.getElem_set_self, List.take_set_of_le (Nat.le_refl _)]
     rw [List.drop_set_of_lt (by omega)]; exact d2
   rw [hg] at b2; go_wp2
   go_roundg (gk - 1)
   case measure => have := HK.out; have := oT cb; omega
   case rel =>
    obtain ⟨s1, s2, s3, s4, s5⟩ := HS.out; have hjl := oT cb; obtain ⟨d1, d2⟩ := drop_same s5 (by omega) (by omega); refine ⟨i, j + 1, xs, rfl, by rw [ewj], ⟨by have := HK.out; omega⟩, ⟨by omega, by omega, s3, ?_, d2⟩, HO, HB⟩; rw [filter_one l0 j (by omega), ← d1, if_pos hg, List.append_nil]; exact s4
  have cb : decide ((j : Int) < (l0.length : Int)) = false := dF c
  have cb2 : (j < l0.length) = False := eq_false (by omega)
  obtain ⟨i114, hi114, hz114, hsz114, _⟩ := info_parts info114
  have HF := K0 (show j = l0.length ∧ i < l0.length ∧ xs.length = l0.length ∧ l0.length ≤ c0 ∧ xs.take i = l0.filter (fun e => !e.f2) from by
   obtain ⟨s1, s2, s3, s4, s5⟩ := HS.out; obtain ⟨hnx, hnc, _⟩ := Kd.R_reads' HO.out; have hj : j = l0.length := by omega
   refine ⟨hj, by omega, s3, hnc, ?_⟩
   rw [s4, hj, List.take_length])
  have hcut := cut_from (P := Try.prog) 42 114 .i64 Try.underlying42 hi114 3 hsz114 (some ⟨g, 0, none⟩) l0.length c0 (i : Int) (by omega) (by have := HF.out; omega)
  have hc0 : (c0 = i) = False := eq_false (by have := HF.out; omega)
  have hi1 : ((i : Int) ≤ (l0.length : Int)) = True := eq_true (by have := HF.out; omega)
  have hi2 : (i ≤ l0.length) = True := eq_true (by have := HF.out; omega)
  have hown : ∃ cells, wr.heap[g]? = some (.cells cells 114 (0, 0)) ∧ cells.size = c0 * 3 := by
   obtain ⟨_, inner, ⟨ho1, ho2⟩, hr⟩ := HO.out; rcases ho2 with ⟨hv, _⟩ | ⟨g', cap', cur, hv, hb, hh, hnc', hcm, hcs, ht⟩
   · cases hv
   injection hv with ha _ hc
   injection ha with ha
   injection ha with hg
   subst hg; subst hc; exact ⟨cur, hh, hcs⟩
  obtain ⟨cells, hh, hcs⟩ := hown
  have hfc := HF.out
  obtain ⟨seg, hsl, hclr⟩ := run_clear114 wr g (i * 3) (l0.length - i) (c0 - i) (by omega) (fun q hq => by
   rw [bC hh, Array.getElem?_eq_getElem (by omega)]
   rfl) (fun q hq => bF hh _)
  have HO2 := K0 (take_clear HO.out (i := i) (by omega) seg (by omega))
  have HB2 := K0 (below_cells GB.out seg (i * 3) HB.out)
  have hcut2 := cut_to (P := Try.prog) 42 114 .i64 Try.underlying42 hi114 (some ⟨g, 0, none⟩) l0.length c0 (i : Int) (by omega) (by omega) (by omega)
  clear HS HK hfc hh hcs hsl c
  go_wp2
  go_ret
  exact ⟨_, rfl, by have h := HO2.out; rw [HF.out.2.2.2.2] at h; exact h, HB2.out⟩
def rev_live.f (k : Nat) (a0_0 : Int) (a0_1 : Int) (a0_2 : ByteArray) (a0_3 : ByteArray) (a0_4 : Bool) (a0_5 : Bool) (l0_6 : List ByteArray) (l0_7 : List ByteArray) (l0_8 : List Bool) (l0_9 : List Int) : Option ((List (S114))) := (rev_Entries.f k a0_0 a0_1 a0_2 a0_3 a0_4 a0_5 l0_6 l0_7 l0_8 l0_9).bind fun l => if l.length < 1000000 then some (l.filter fun e => !e.f2) else none
set_option maxHeartbeats 8000000 in
set_option maxRecDepth 100000 in
theorem rev_live.calls (k : Nat) (a0_0 : Int) (a0_1 : Int) (a0_2 : ByteArray) (a0_3 : ByteArray) (a0_4 : Bool) (a0_5 : Bool) (A0_6 : Option Addr) (c0_6 : Nat) (l0_6 : List ByteArray) (A0_7 : Option Addr) (c0_7 : Nat) (l0_7 : List ByteArray) (A0_8 : Option Addr) (c0_8 : Nat) (l0_8 : List Bool) (A0_9 : Option Addr) (c0_9 : Nat) (l0_9 : List Int) (r : List (S114)) (w : World) (hr0_6 : Kd.C Kd.string w A0_6 l0_6.length l0_6) (hc0_6 : l0_6.length ≤ c0_6) (hr0_7 : Kd.C Kd.string w A0_7 l0_7.length l0_7) (hc0_7 : l0_7.length ≤ c0_7) (hr0_8 : Kd.C Kd.bool w A0_8 l0_8.length l0_8) (hc0_8 : l0_8.length ≤ c0_8) (hr0_9 : Kd.C (Kd.int .i64) w A0_9 l0_9.length l0_9) (hc0_9 : l0_9.length ≤ c0_9) (h : rev_live.f k a0_0 a0_1 a0_2 a0_3 a0_4 a0_5 l0_6 l0_7 l0_8 l0_9 = some r) :
  Calls Try.prog 79 #[.agg #[.int .i64 a0_0, .int .i64 a0_1, .string a0_2, .string a0_3, .bool a0_4, .bool a0_5, .slice A0_6 l0_6.length c0_6, .slice A0_7 l0_7.length c0_7, .slice A0_8 l0_8.length c0_8, .slice A0_9 l0_9.length c0_9]] w fun e w' => ∃ v0_ : Value, e = .returned (v0_) ∧ Kd.R k114 114 w' w.heap.size (fun _ => True) v0_ r ∧ Below w.heap.size w w' := by
 have hu37 := Try.underlying37
 have G6 := K0 hr0_6
 have G7 := K0 hr0_7
 have G8 := K0 hr0_8
 have G9 := K0 hr0_9
 have H6 := K0 hc0_6
 have H7 := K0 hc0_7
 have H8 := K0 hc0_8
 have H9 := K0 hc0_9
 unfold rev_live.f at h
 obtain ⟨l, h1, h2⟩ := Option.bind_eq_some_iff.mp h
 have hl : l.length < 1000000 := by
  by_cases c : l.length < 1000000
  · exact c
  rw [if_neg c] at h2
  exact nomatch h2
 rw [if_pos hl] at h2
 obtain rfl := Option.some.inj h2
 have HA := K0 h1
 have HL := K0 hl
 have HB := K0 (Below.refl w.heap.size w)
 clear h h1 h2 hl hr0_6 hr0_7 hr0_8 hr0_9 hc0_6 hc0_7 hc0_8 hc0_9
 go_enter Try.func79, Try.ntmps79
 go_wp2_with fail
 obtain ⟨W, hW⟩ : ∃ W : World, W = w.alloc (Obj.cells #[.int .i64 a0_0, .int .i64 a0_1, .string a0_2, .string a0_3, .bool a0_4, .bool a0_5, .slice A0_6 l0_6.length c0_6, .slice A0_7 l0_7.length c0_7, .slice A0_8 l0_8.length c0_8, .slice A0_9 l0_9.length c0_9] 37) := ⟨_, rfl⟩
 have HB1 := K0 (show Below w.heap.size w W from by rw [hW]; exact wA HB.out _)
 rw [← hW]
 clear hW
 refine (rev_Entries.calls k _ _ _ _ _ _ _ _ l0_6 _ _ l0_7 _ _ l0_8 _ _ l0_9 l W (Kd.C_below G6.out HB1.out) H6.out (Kd.C_below G7.out HB1.out) H7.out (Kd.C_below G8.out HB1.out) H8.out (Kd.C_below G9.out HB1.out) H9.out HA.out).mono ?_
 rintro e w1 ⟨v, rfl, hO, hb⟩
 have HO := K0 (Kd.R_lower hO (below_size HB1.out))
 have HB2 := K0 (below_step HB1.out hb)
 obtain ⟨A1, c1, rfl⟩ := Kd.R_slice HO.out
 clear hO hb
 go_wp2_with fail
 refine (deleteFunc_calls A1 c1 l w w1 HB2.out HO.out HL.out).mono ?_
 rintro e w2 ⟨v, rfl, hO, hb⟩
 have HO3 := K0 hO
 have HB3 := K0 hb
 clear hO hb
 go_wp2
 go_ret
 exact ⟨_, rfl, HO3.out, HB3.out⟩
end Go.Proofs.Ytoaacdjcjicemaa.PRevBack
