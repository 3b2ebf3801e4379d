/- The document's memory, by hand: what each function answers, and what it makes of memory. -/
import Derived.Test.YthgbgflpjggpmaaSRefAlloc
import Derived.Test.YthgbgflpjggpmaaPStepAlonex2
import Derived.Test.YthgbgflpjggpmaaMem1
import Derived.Deep.DeepCutAuto
namespace Go.Proofs.Ythgbgflpjggpmaa.RefAlloc
open Go.RowKit Go.Proofs.YthgbgflpjggpmaaW.PrintWords Go.Proofs.Ythgbgflpjggpmaa.PStepAlone
open Go.Proofs.Ythgbgflpjggpmaa.Mem (hr hr_iff)
set_option linter.unusedVariables false
set_option linter.unusedSimpArgs false
section
/-- The document's memory. -/
structure R where
  l : List S108
  c : Int
  lv : Int
  st : Int
def R.at (r : R) (i : Nat) : S108 := r.l.getD i z108
abbrev agg4 (v : Value) (c lv st : Int) : Value := .agg #[v, .int .i64 c, .int .i64 lv, .int .i64 st]
def RV (w : World) (B : Nat) (x : Value) (r : R) : Prop := r.l.length ≤ 65535 ∧ 0 < r.l.length ∧ ∃ v, x = agg4 v r.c r.lv r.st ∧ w.ownsRow B 108 5 v r.l.length (rowR r.l)
theorem RV.open {w : World} {B : Nat} {x : Value} {r : R} (h : RV w B x r) : ∃ g cap tl, x = agg4 (.slice (some ⟨g, 0, none⟩) r.l.length cap) r.c r.lv r.st ∧ B ≤ g ∧ w.heap[g]? = some (.cells (rowR r.l ++ tl).toArray 108 (0, 0)) ∧ r.l.length ≤ cap ∧ cap ≤ maxLen ∧ (rowR r.l ++ tl).length = cap * 5 := by
  obtain ⟨h1, h2, v, h3, h4⟩ := h
  obtain ⟨g, cap, tl, rfl, k1, k2, k3, k4, k5⟩ := own_blk5 h4 h2
  exact ⟨g, cap, tl, h3, k1, k2, k3, k4, k5⟩
theorem RV.mk {w : World} {B g cap : Nat} {tl : List Value} {l : List S108} {c lv st : Int} (h1 : l.length ≤ 65535) (h2 : 0 < l.length) (hg : B ≤ g) (hh : w.heap[g]? = some (.cells (rowR l ++ tl).toArray 108 (0, 0))) (k3 : l.length ≤ cap) (k4 : cap ≤ maxLen) (k5 : (rowR l ++ tl).length = cap * 5) :
    RV w B (agg4 (.slice (some ⟨g, 0, none⟩) l.length cap) c lv st) ⟨l, c, lv, st⟩ := ⟨h1, h2, _, rfl, own_of_blk5 (rowR_len l) hg hh k3 k4 k5⟩
theorem RV.move {w w' : World} {B : Nat} {x : Value} {r : R} (h : RV w B x r) (hb : Below w.heap.size w w') : RV w' B x r := by
  obtain ⟨h1, h2, v, h3, h4⟩ := h
  refine ⟨h1, h2, v, h3, own_move h4 fun k hk => ?_⟩
  obtain ⟨cells, hc⟩ := own_typed h4 k hk
  exact hb.block k (blk_lt hc)
theorem RV.lower {w : World} {B B' : Nat} {x : Value} {r : R} (h : RV w B x r) (hb : B' ≤ B) : RV w B' x r := by
  obtain ⟨h1, h2, v, h3, h4⟩ := h
  exact ⟨h1, h2, v, h3, own_weaken h4 hb⟩
theorem row_cells {W : World} {g : Nat} {l : List S108} {tl : List Value} (hg : W.heap[g]? = some (.cells (rowR l ++ tl).toArray 108 (0, 0))) (i : Nat) (hi : i < l.length) :
    W.cell? ⟨g, i * 5, none⟩ = some (.int .i64 (l.getD i z108).f0) ∧ W.cell? ⟨g, i * 5 + 1, none⟩ = some (.int .i64 (l.getD i z108).f1) ∧ W.cell? ⟨g, i * 5 + 2, none⟩ = some (.int .i64 (l.getD i z108).f2) ∧ W.cell? ⟨g, i * 5 + 3, none⟩ = some (.int .i64 (l.getD i z108).f3) ∧ W.cell? ⟨g, i * 5 + 4, none⟩ = some (.bool (l.getD i z108).f4) := by
  have e : l[i]? = some (l.getD i z108) := by rw [List.getD_eq_getElem?_getD, List.getElem?_eq_getElem hi]; rfl
  have h : ∀ q, q < 5 → W.cell? ⟨g, i * 5 + q, none⟩ = (cel (l.getD i z108))[q]? := fun q hq => by
    rw [blk_cell hg, List.getElem?_toArray, List.getElem?_append_left (by rw [rowR_len]; omega), rowR_get l i q _ e hq]
  exact ⟨h 0 (by omega), h 1 (by omega), h 2 (by omega), h 3 (by omega), h 4 (by omega)⟩
theorem row_news {W : World} {g : Nat} {l : List S108} {tl : List Value} (hg : W.heap[g]? = some (.cells (rowR l ++ tl).toArray 108 (0, 0))) : ∀ j u, (rowR l)[j]? = some u → W.cell? ((⟨g, 0, none⟩ : Addr).add j) = some u := by
  intro j u hu
  have e : (⟨g, 0, none⟩ : Addr).add j = ⟨g, j, none⟩ := by
    unfold Addr.add
    by_cases h : j = 0
    · simp [h]
    · simp [h]
  rw [e, blk_cell hg, List.getElem?_toArray, List.getElem?_append_left (List.getElem?_eq_some_iff.1 hu).1]
  exact hu
/-- The parameter's box, and the result's, behind a function's first row. -/
theorem boxed (w : World) (v : Value) (c lv st : Int) : ∃ W, W = (w.alloc (.cells #[v, .int .i64 c, .int .i64 lv, .int .i64 st] 52)).alloc (.cells #[.slice none 0 0, .int .i64 0, .int .i64 0, .int .i64 0] 52) ∧
    W.heap[w.heap.size]? = some (.cells #[v, .int .i64 c, .int .i64 lv, .int .i64 st] 52 (0, 0)) ∧ W.heap[w.heap.size + 1]? = some (.cells #[.slice none 0 0, .int .i64 0, .int .i64 0, .int .i64 0] 52 (0, 0)) ∧ Below w.heap.size w W ∧ w.heap.size + 1 < W.heap.size := by
  refine ⟨_, rfl, blk_alloc (blk_new _ _) _, ?_, below_alloc (below_alloc (Below.refl _ _) _) _, by simp⟩
  have e : w.heap.size + 1 = (w.alloc (.cells #[v, .int .i64 c, .int .i64 lv, .int .i64 st] 52)).heap.size := by simp
  rw [e]
  exact blk_new _ _
theorem box_cells {W : World} {b : Nat} {v : Value} {c lv st : Int} (h : W.heap[b]? = some (.cells #[v, .int .i64 c, .int .i64 lv, .int .i64 st] 52 (0, 0))) :
    W.cell? ⟨b, 0, none⟩ = some v ∧ W.cell? ⟨b, 1, none⟩ = some (.int .i64 c) ∧ W.cell? ⟨b, 2, none⟩ = some (.int .i64 lv) ∧ W.cell? ⟨b, 3, none⟩ = some (.int .i64 st) := ⟨(blk_cell h 0).trans rfl, (blk_cell h 1).trans rfl, (blk_cell h 2).trans rfl, (blk_cell h 3).trans rfl⟩
/-- Where a handle leads. -/
def R.find (r : R) (q : Int) : Option Nat := if hr q = true ∧ q % 65536 - 1 < (r.l.length : Int) ∧ (r.at (q % 65536 - 1).toNat).f0 ≠ 0 ∧ (r.at (q % 65536 - 1).toNat).f2 = q / 65536 then some (q % 65536 - 1).toNat else none
def R.place (r : R) (q : Int) : Int := match r.find q with
  | some i => i
  | none => -1
theorem right_eq (q : Int) : rundleref11_Right.f q = some (hr q) := by
  unfold rundleref11_Right.f hr
  by_cases h1 : q > 0
  · rw [if_pos h1]
    by_cases h2 : q < 1073741824
    · rw [if_pos h2, Int.tmod_eq_emod_of_nonneg (by omega)]
      congr 1
      simp only [decide_eq_decide]
      omega
    · rw [if_neg h2]
      congr 1
      symm
      simp only [decide_eq_false_iff_not]
      omega
  · rw [if_neg h1]
    congr 1
    symm
    simp only [decide_eq_false_iff_not]
    omega
set_option maxHeartbeats 1600000 in
theorem place_calls {w : World} {B : Nat} {x : Value} {r : R} (h : RV w B x r) (q : Int) : Calls Try.prog 58 #[x, .int .i64 q] w fun e w' => e = .returned (.int .i64 (r.place q)) ∧ Below w.heap.size w w' := by
  obtain ⟨g, cap, tl, rfl, hbg, hg, hcp, hcm, hlt⟩ := h.open
  have hlen := h.1
  have hlt0 := blk_lt hg
  obtain ⟨l, c, lv, st⟩ := r
  simp only at hg hcp hlt hlen ⊢
  have hB0 : Below w.heap.size w (w.alloc (.cells #[.slice (some ⟨g, 0, none⟩) l.length cap, .int .i64 c, .int .i64 lv, .int .i64 st] 52)) := below_alloc (Below.refl _ _) _
  have hgw := blk_below hg hB0
  have HG := Lib.hid hgw
  have HB0 := Lib.hid hB0
  clear hg hgw hB0 h
  by_cases c1 : hr q = true
  · have hb := (hr_iff q).1 c1
    have hR := right_eq q
    rw [c1] at hR
    have HRT := Lib.hid hR
    obtain ⟨i, ei⟩ : ∃ i : Nat, q % 65536 - 1 = (i : Int) := ⟨(q % 65536 - 1).toNat, by omega⟩
    have hq0 : 0 < q := hb.1
    have ed : wrap64 (q.tdiv 65536) = q / 65536 := by rw [Int.tdiv_eq_ediv_of_nonneg (by omega)]; unfold wrap64; omega
    by_cases hi : i < l.length
    · have p2 : decide (l.length ≤ i) = false := decide_eq_false (by omega)
      by_cases hk : (l.getD i z108).f0 = 0
      · have e : R.place ⟨l, c, lv, st⟩ q = -1 := by
          unfold R.place R.find R.at
          rw [ei, Int.toNat_natCast, if_neg (fun k => k.2.2.1 hk)]
        rw [e]
        have p1 : ((l.getD i z108).f0 == 0) = true := beq_iff_eq.2 hk
        clear ed hR c1 hb e hk
        go_enter Try.func58, Try.ntmps58
        go_wp2_with fail
        refine (rundleref11_Right.calls q true _ HRT.out).mono ?_
        rintro e w1 ⟨rfl, ⟨nd, rfl⟩⟩
        obtain ⟨r0, r1, r2, r3, r4⟩ := row_cells (blk_drewN HG.out nd) i hi
        generalize l.getD i z108 = x at *
        go_wp2
        go_ret
        exact ⟨rfl, pw_below_drewN HB0.out nd⟩
      · have p1 : ((l.getD i z108).f0 == 0) = false := beq_eq_false_iff_ne.2 hk
        by_cases hgn : (l.getD i z108).f2 = q / 65536
        · have e : R.place ⟨l, c, lv, st⟩ q = i := by
            unfold R.place R.find R.at
            rw [ei, Int.toNat_natCast, if_pos ⟨c1, by show (i : Int) < l.length; omega, hk, hgn⟩]
          rw [e]
          have p3 : ((l.getD i z108).f2 != wrap64 (q.tdiv 65536)) = false := by rw [ed]; exact bne_eq_false_iff_eq.2 hgn
          clear ed hR c1 hb e hk hgn
          go_enter Try.func58, Try.ntmps58
          go_wp2_with fail
          refine (rundleref11_Right.calls q true _ HRT.out).mono ?_
          rintro e w1 ⟨rfl, ⟨nd, rfl⟩⟩
          obtain ⟨r0, r1, r2, r3, r4⟩ := row_cells (blk_drewN HG.out nd) i hi
          generalize l.getD i z108 = x at *
          go_wp2
          go_ret
          exact ⟨rfl, pw_below_drewN HB0.out nd⟩
        · have e : R.place ⟨l, c, lv, st⟩ q = -1 := by
            unfold R.place R.find R.at
            rw [ei, Int.toNat_natCast, if_neg (fun k => hgn k.2.2.2)]
          rw [e]
          have p3 : ((l.getD i z108).f2 != wrap64 (q.tdiv 65536)) = true := by rw [ed]; exact bne_iff_ne.2 hgn
          clear ed hR c1 hb e hk hgn
          go_enter Try.func58, Try.ntmps58
          go_wp2_with fail
          refine (rundleref11_Right.calls q true _ HRT.out).mono ?_
          rintro e w1 ⟨rfl, ⟨nd, rfl⟩⟩
          obtain ⟨r0, r1, r2, r3, r4⟩ := row_cells (blk_drewN HG.out nd) i hi
          generalize l.getD i z108 = x at *
          go_wp2
          go_ret
          exact ⟨rfl, pw_below_drewN HB0.out nd⟩
    · have e : R.place ⟨l, c, lv, st⟩ q = -1 := by
        unfold R.place R.find R.at
        rw [ei, if_neg (fun k => hi (by have := k.2.1; show i < l.length; simp at this; omega))]
      rw [e]
      have p2 : decide (l.length ≤ i) = true := decide_eq_true (by omega)
      clear ed hR c1 hb e
      go_enter Try.func58, Try.ntmps58
      go_wp2_with fail
      refine (rundleref11_Right.calls q true _ HRT.out).mono ?_
      rintro e w1 ⟨rfl, ⟨nd, rfl⟩⟩
      go_wp2
      go_ret
      exact ⟨rfl, pw_below_drewN HB0.out nd⟩
  · have c1' : hr q = false := by simpa using c1
    have hR := right_eq q
    rw [c1'] at hR
    have HRT := Lib.hid hR
    have e : R.place ⟨l, c, lv, st⟩ q = -1 := by
      unfold R.place R.find
      rw [if_neg (fun k => c1 k.1)]
    rw [e]
    clear hR c1 c1' e
    go_enter Try.func58, Try.ntmps58
    go_wp2_with fail
    refine (rundleref11_Right.calls q false _ HRT.out).mono ?_
    rintro e w1 ⟨rfl, ⟨nd, rfl⟩⟩
    go_wp2
    go_ret
    exact ⟨rfl, pw_below_drewN HB0.out nd⟩
/-- Asked for what a cell holds, of a kind. -/
def R.look (r : R) (q k : Int) : R × Int × Int := match r.find q with
  | none => (⟨r.l, wrap64 (r.c + 1), r.lv, wrap64 (r.st + 1)⟩, 0, 5)
  | some i => if (r.at i).f0 = k then (⟨r.l, wrap64 (r.c + 1), r.lv, r.st⟩, (r.at i).f1, 0) else (⟨r.l, wrap64 (r.c + 1), r.lv, r.st⟩, 0, 6)
theorem R.find_lt {r : R} {q : Int} {i : Nat} (h : r.find q = some i) : i < r.l.length := by
  unfold R.find at h
  split at h
  · rename_i c
    have := (hr_iff q).1 c.1
    injection h with h
    omega
  · cases h
theorem R.place_none {r : R} {q : Int} (h : r.find q = none) : r.place q = -1 := by unfold R.place; rw [h]
theorem R.place_some {r : R} {q : Int} {i : Nat} (h : r.find q = some i) : r.place q = i := by unfold R.place; rw [h]
theorem rd_eq (l : List S108) (i : Nat) : rd_T108 l (i : Int) = l.getD i z108 := by unfold rd_T108; rw [Int.toNat_natCast]
theorem place_f (l : List S108) (c lv st q : Int) (hl : l.length ≤ 65535) : rundleref12_place.f l c lv st q = some ((R.mk l c lv st).place q) := by
  unfold rundleref12_place.f
  rw [right_eq]
  simp only [Option.bind_some]
  by_cases c1 : hr q = true
  · have hb := (hr_iff q).1 c1
    rw [if_pos c1]
    obtain ⟨i, ei⟩ : ∃ i : Nat, q % 65536 - 1 = (i : Int) := ⟨(q % 65536 - 1).toNat, by omega⟩
    have e1 : wrap64 (Int.tmod q 65536 - 1) = i := by rw [Int.tmod_eq_emod_of_nonneg (by omega)]; unfold wrap64; omega
    have e2 : wrap64 (Int.tdiv q 65536) = q / 65536 := by rw [Int.tdiv_eq_ediv_of_nonneg (by omega)]; unfold wrap64; omega
    rw [e1, e2]
    by_cases hi : i < l.length
    · rw [if_neg (by omega), if_pos (by omega), if_pos (by omega), rd_eq]
      by_cases hk : (l.getD i z108).f0 = 0
      · rw [if_pos hk]
        unfold R.place R.find R.at
        rw [ei, Int.toNat_natCast, if_neg (fun k => k.2.2.1 hk)]
      · rw [if_neg hk]
        by_cases hg : (l.getD i z108).f2 = q / 65536
        · rw [if_pos hg]
          unfold R.place R.find R.at
          rw [ei, Int.toNat_natCast, if_pos ⟨c1, by show (i : Int) < l.length; omega, hk, hg⟩]
        · rw [if_neg hg]
          unfold R.place R.find R.at
          rw [ei, Int.toNat_natCast, if_neg (fun k => hg k.2.2.2)]
    · rw [if_pos (by omega)]
      unfold R.place R.find R.at
      rw [ei, if_neg (fun k => hi (by have := k.2.1; show i < l.length; simp at this; omega))]
  · rw [if_neg c1]
    unfold R.place R.find
    rw [if_neg (fun k => c1 k.1)]
theorem look_f (r : R) (q k : Int) (hl : r.l.length ≤ 65535) : rundleref12_Look.f r.l r.c r.lv r.st q k = some ((r.look q k).1.l, (r.look q k).1.c, (r.look q k).1.lv, (r.look q k).1.st, (r.look q k).2.1, (r.look q k).2.2) := by
  obtain ⟨l, c, lv, st⟩ := r
  unfold rundleref12_Look.f
  rw [place_f l _ lv st q hl]
  simp only [Option.bind_some]
  cases hf : (R.mk l c lv st).find q with
  | none =>
    rw [R.place_none (r := R.mk l (wrap64 (c + 1)) lv st) hf, if_pos (by omega)]
    unfold R.look
    rw [hf]
  | some i =>
    have hi : i < l.length := R.find_lt hf
    rw [R.place_some (r := R.mk l (wrap64 (c + 1)) lv st) hf, if_neg (by omega), if_pos (by omega), if_pos (by omega), rd_eq]
    unfold R.look R.at
    rw [hf]
    by_cases hk : (l.getD i z108).f0 = k
    · simp only [if_pos hk]
    · simp only [if_neg hk]
/-- Another word, if it is this one (or always). -/
def R.swap (r : R) (q old n : Int) (always : Bool) : R × Bool × Int := match r.find q with
  | none => (⟨r.l, wrap64 (r.c + 1), r.lv, wrap64 (r.st + 1)⟩, false, 5)
  | some i => if (r.at i).f0 = 1 then (if always = true ∨ (r.at i).f1 = old then (⟨r.l.set i { r.at i with f1 := n }, wrap64 (r.c + 1), r.lv, r.st⟩, true, 0) else (⟨r.l, wrap64 (r.c + 1), r.lv, r.st⟩, false, 0)) else (⟨r.l, wrap64 (r.c + 1), r.lv, r.st⟩, false, 6)
theorem swap_f (r : R) (q old n : Int) (always : Bool) (hl : r.l.length ≤ 65535) : rundleref12_Swap.f r.l r.c r.lv r.st q old n always = some ((r.swap q old n always).1.l, (r.swap q old n always).1.c, (r.swap q old n always).1.lv, (r.swap q old n always).1.st, (r.swap q old n always).2.1, (r.swap q old n always).2.2) := by
  obtain ⟨l, c, lv, st⟩ := r
  unfold rundleref12_Swap.f
  rw [look_f ⟨l, c, lv, st⟩ q 1 hl]
  simp only [Option.bind_some]
  cases hf : (R.mk l c lv st).find q with
  | none =>
    have e : (R.mk l c lv st).look q 1 = (⟨l, wrap64 (c + 1), lv, wrap64 (st + 1)⟩, 0, 5) := by unfold R.look; rw [hf]
    have e2 : (R.mk l c lv st).swap q old n always = (⟨l, wrap64 (c + 1), lv, wrap64 (st + 1)⟩, false, 5) := by unfold R.swap; rw [hf]
    rw [e, e2, if_neg (by show ¬ ((5 : Int) = 0); omega)]
  | some i =>
    have hi : i < l.length := R.find_lt hf
    by_cases hk : (l.getD i z108).f0 = 1
    · have e : (R.mk l c lv st).look q 1 = (⟨l, wrap64 (c + 1), lv, st⟩, (l.getD i z108).f1, 0) := by unfold R.look; rw [hf]; exact if_pos hk
      have ep : rundleref12_place.f l (wrap64 (c + 1)) lv st q = some (i : Int) := by rw [place_f l _ lv st q hl, R.place_some (r := R.mk l (wrap64 (c + 1)) lv st) hf]
      rw [e]
      simp only [ep, Option.bind_some, List.length_nil, List.nil_append, Nat.zero_add, if_true]
      have hl' : l.length ≤ 65535 := hl
      rw [if_pos (show l.length < 3518437208883 by omega), if_pos (show 0 ≤ (i : Int) by omega), if_pos (show (i : Int) < l.length by omega), rd_eq, Int.toNat_natCast]
      by_cases ha : always = true
      · have e2 : (R.mk l c lv st).swap q old n always = (⟨l.set i { l.getD i z108 with f1 := n }, wrap64 (c + 1), lv, st⟩, true, 0) := by unfold R.swap; rw [hf]; exact (if_pos hk).trans (if_pos (Or.inl ha))
        rw [e2, if_pos ha]
      · rw [if_neg ha]
        by_cases ho : (l.getD i z108).f1 = old
        · have e2 : (R.mk l c lv st).swap q old n always = (⟨l.set i { l.getD i z108 with f1 := n }, wrap64 (c + 1), lv, st⟩, true, 0) := by unfold R.swap; rw [hf]; exact (if_pos hk).trans (if_pos (Or.inr ho))
          rw [e2, if_pos ho]
        · have e2 : (R.mk l c lv st).swap q old n always = (⟨l, wrap64 (c + 1), lv, st⟩, false, 0) := by unfold R.swap; rw [hf]; exact (if_pos hk).trans (if_neg (fun z => z.elim ha ho))
          rw [e2, if_neg ho]
    · have e : (R.mk l c lv st).look q 1 = (⟨l, wrap64 (c + 1), lv, st⟩, 0, 6) := by unfold R.look; rw [hf]; exact if_neg hk
      have e2 : (R.mk l c lv st).swap q old n always = (⟨l, wrap64 (c + 1), lv, st⟩, false, 6) := by unfold R.swap; rw [hf]; exact if_neg hk
      rw [e, e2, if_neg (by show ¬ ((6 : Int) = 0); omega)]
def R.freed (r : R) (i : Nat) : R := ⟨r.l.set i ⟨0, 0, wrap64 ((r.at i).f2 + 1), 0, false⟩, r.c, wrap64 (r.lv - 1), r.st⟩
def R.tick (r : R) : R := ⟨r.l, wrap64 (r.c + 1), r.lv, r.st⟩
def R.free (r : R) (q : Int) : R × Int := match r.find q with
  | none => (⟨r.l, wrap64 (r.c + 1), r.lv, wrap64 (r.st + 1)⟩, 5)
  | some i => (r.tick.freed i, 0)
theorem freed_f (r : R) (i : Nat) (hl : r.l.length ≤ 65535) (hi : i < r.l.length) : rundleref12_free.f r.l r.c r.lv r.st i = some ((r.freed i).l, (r.freed i).c, (r.freed i).lv, (r.freed i).st) := by
  unfold rundleref12_free.f
  simp only [Option.bind_some, List.length_nil, List.nil_append, Nat.zero_add]
  rw [if_pos (show r.l.length < 3518437208883 by omega), if_pos (show 0 ≤ (i : Int) by omega), if_pos (show (i : Int) < r.l.length by omega), rd_eq, Int.toNat_natCast]
  rfl
theorem free_f (r : R) (q : Int) (hl : r.l.length ≤ 65535) : rundleref12_Free.f r.l r.c r.lv r.st q = some ((r.free q).1.l, (r.free q).1.c, (r.free q).1.lv, (r.free q).1.st, (r.free q).2) := by
  obtain ⟨l, c, lv, st⟩ := r
  unfold rundleref12_Free.f
  rw [place_f l _ lv st q hl]
  simp only [Option.bind_some]
  cases hf : (R.mk l c lv st).find q with
  | none =>
    have e2 : (R.mk l c lv st).free q = (⟨l, wrap64 (c + 1), lv, wrap64 (st + 1)⟩, 5) := by unfold R.free; rw [hf]
    rw [R.place_none (r := R.mk l (wrap64 (c + 1)) lv st) hf, if_pos (by omega), e2]
  | some i =>
    have hi : i < l.length := R.find_lt hf
    have e2 : (R.mk l c lv st).free q = ((R.mk l c lv st).tick.freed i, 0) := by unfold R.free; rw [hf]
    have e3 := freed_f ⟨l, wrap64 (c + 1), lv, st⟩ i hl hi
    simp only at e3
    rw [R.place_some (r := R.mk l (wrap64 (c + 1)) lv st) hf, if_neg (by omega), e3, e2]
    rfl
/-- What a call of the document's makes of the world: the row that was there may be another one's still. -/
def RS (w0 w w' : World) (v : Value) : Prop := Below w0.heap.size w0 w' ∧ Kept w w' (fun k => some k = v.ownBlock)
def RV.own (x : Value) : Value := match x with
  | .agg a => a[0]?.getD .nilIface
  | _ => .nilIface
theorem RV.toR {w : World} {B : Nat} {x : Value} {r : R} (h : RV w B x r) : ∃ v, x = agg4 v r.c r.lv r.st ∧ Kd.R k108 108 w B (fun k => some k = v.ownBlock) v r.l := by
  obtain ⟨h1, h2, v, h3, h4⟩ := h
  exact ⟨v, h3, R_of_own h4 (fun k hk => hk.symm)⟩
theorem RV.ofR {w : World} {B : Nat} {v : Value} {l : List S108} {c lv st : Int} {ok : Nat → Prop} (h1 : l.length ≤ 65535) (h2 : 0 < l.length) (h : Kd.R k108 108 w B ok v l) : RV w B (agg4 v c lv st) ⟨l, c, lv, st⟩ := ⟨h1, h2, v, rfl, own_of_R h⟩
theorem R.look_len (r : R) (q k : Int) : (r.look q k).1.l = r.l := by
  unfold R.look
  split
  · rfl
  · split <;> rfl
theorem R.swap_len (r : R) (q o n : Int) (a : Bool) : (r.swap q o n a).1.l.length = r.l.length := by
  unfold R.swap
  split
  · rfl
  · split
    · split
      · simp
      · rfl
    · rfl
theorem R.free_len (r : R) (q : Int) : (r.free q).1.l.length = r.l.length := by
  unfold R.free
  split
  · rfl
  · simp [R.freed, R.tick]
theorem look_calls {w0 w : World} {x : Value} {r : R} (hB : Below w0.heap.size w0 w) (h : RV w w0.heap.size x r) (q k : Int) : Calls Try.prog 42 #[x, .int .i64 q, .int .i64 k] w fun e w' => ∃ x', e = .returned (.tuple #[x', .int .i64 (r.look q k).2.1, .int .i64 (r.look q k).2.2]) ∧ RV w' w0.heap.size x' (r.look q k).1 ∧ RS w0 w w' (RV.own x) := by
  obtain ⟨v, rfl, hr⟩ := h.toR
  refine (rundleref12_Look.calls _ v r.l r.c r.lv r.st q k _ _ _ _ _ _ w0 w hB hr (look_f r q k h.1)).mono ?_
  rintro e w' ⟨v', rfl, h1, h2, h3⟩
  exact ⟨_, rfl, RV.ofR (by rw [R.look_len]; exact h.1) (by rw [R.look_len]; exact h.2.1) h1, h2, h3⟩
theorem swap_calls {w0 w : World} {x : Value} {r : R} (hB : Below w0.heap.size w0 w) (h : RV w w0.heap.size x r) (q o n : Int) (a : Bool) : Calls Try.prog 43 #[x, .int .i64 q, .int .i64 o, .int .i64 n, .bool a] w fun e w' => ∃ x', e = .returned (.tuple #[x', .bool (r.swap q o n a).2.1, .int .i64 (r.swap q o n a).2.2]) ∧ RV w' w0.heap.size x' (r.swap q o n a).1 ∧ RS w0 w w' (RV.own x) := by
  obtain ⟨v, rfl, hr⟩ := h.toR
  refine (rundleref12_Swap.calls _ v r.l r.c r.lv r.st q o n a _ _ _ _ _ _ w0 w hB hr (swap_f r q o n a h.1)).mono ?_
  rintro e w' ⟨v', rfl, h1, h2, h3⟩
  exact ⟨_, rfl, RV.ofR (by rw [R.swap_len]; exact h.1) (by rw [R.swap_len]; exact h.2.1) h1, h2, h3⟩
theorem free_calls {w0 w : World} {x : Value} {r : R} (hB : Below w0.heap.size w0 w) (h : RV w w0.heap.size x r) (q : Int) : Calls Try.prog 45 #[x, .int .i64 q] w fun e w' => ∃ x', e = .returned (.tuple #[x', .int .i64 (r.free q).2]) ∧ RV w' w0.heap.size x' (r.free q).1 ∧ RS w0 w w' (RV.own x) := by
  obtain ⟨v, rfl, hr⟩ := h.toR
  refine (rundleref12_Free.calls _ v r.l r.c r.lv r.st q _ _ _ _ _ w0 w hB hr (free_f r q h.1)).mono ?_
  rintro e w' ⟨v', rfl, h1, h2, h3⟩
  exact ⟨_, rfl, RV.ofR (by rw [R.free_len]; exact h.1) (by rw [R.free_len]; exact h.2.1) h1, h2, h3⟩
theorem rowR_set2 : ∀ (l : List S108) (i : Nat), i < l.length → ∀ (s : Int) (b : Bool), (rowR l).set (i * 5 + 3) (.int .i64 s) = rowR (l.set i { l.getD i z108 with f3 := s }) ∧ (rowR l).set (i * 5 + 4) (.bool b) = rowR (l.set i { l.getD i z108 with f4 := b })
  | [], i, h, _, _ => by simp at h
  | y :: l, 0, _, s, b => ⟨rfl, rfl⟩
  | y :: l, i + 1, h, s, b => by
    have ih := rowR_set2 l i (by simpa using h) s b
    have e0 : (i + 1) * 5 + 3 = (i * 5 + 3) + 5 := by omega
    have e1 : (i + 1) * 5 + 4 = (i * 5 + 4) + 5 := by omega
    have z : ∀ j u, (rowR (y :: l)).set (j + 5) u = cel y ++ (rowR l).set j u := fun j u => rfl
    refine ⟨?_, ?_⟩
    · rw [e0, z, ih.1]; rfl
    · rw [e1, z, ih.2]; rfl
theorem getD_set {l : List S108} {i : Nat} (hi : i < l.length) (x : S108) : (l.set i x).getD i z108 = x := by simp [List.getD_eq_getElem?_getD, List.getElem?_set_self hi]
def S108.retire (x : S108) (s : Int) : S108 := if x.f4 = false ∨ x.f3 < s then { x with f3 := s, f4 := true } else { x with f4 := true }
def R.retire (r : R) (q s : Int) : R × Int := match r.find q with
  | none => (⟨r.l, wrap64 (r.c + 1), r.lv, wrap64 (r.st + 1)⟩, 5)
  | some i => (⟨r.l.set i (S108.retire (r.at i) s), wrap64 (r.c + 1), r.lv, r.st⟩, 0)
set_option maxHeartbeats 6400000 in
set_option maxRecDepth 100000 in
theorem retire_calls {w : World} {B : Nat} {x : Value} {r : R} (h : RV w B x r) (hBw : B ≤ w.heap.size) (q s : Int) : Calls Try.prog 46 #[x, .int .i64 q, .int .i64 s] w fun e w' => ∃ x', e = .returned (.tuple #[x', .int .i64 (r.retire q s).2]) ∧ RV w' B x' (r.retire q s).1 ∧ Below w.heap.size w w' := by
  obtain ⟨g, cap, tl, rfl, hbg, hg, hcp, hcm, hlt⟩ := h.open
  have hlen := h.1
  have hpos := h.2.1
  have hlt0 := blk_lt hg
  obtain ⟨W, hW, K0, K1, hB, hz⟩ := boxed w (.slice (some ⟨g, 0, none⟩) r.l.length cap) (wrap64 (r.c + 1)) r.lv r.st
  have HW := Lib.hid hW
  have HG := Lib.hid (blk_below hg hB)
  have HV := Lib.hid ((RV.mk hlen hpos hbg (blk_below hg hB) hcp hcm hlt : RV W B (agg4 (.slice (some ⟨g, 0, none⟩) r.l.length cap) (wrap64 (r.c + 1)) r.lv r.st) ⟨r.l, (wrap64 (r.c + 1)), r.lv, r.st⟩))
  have HK0 := Lib.hid K0
  have HK1 := Lib.hid K1
  have n0 : g ≠ w.heap.size := by omega
  have n1 : g ≠ w.heap.size + 1 := by omega
  clear hg hW K0 K1 h
  obtain ⟨l, c, lv, st⟩ := r
  simp only at HW HG HV HK0 HK1 hcp hlt hlen hpos ⊢
  cases hf : (R.mk l c lv st).find q with
  | none =>
    have HP := Lib.hid (R.place_none (r := R.mk l (wrap64 (c + 1)) lv st) hf)
    have e2 : (R.mk l c lv st).retire q s = (⟨l, wrap64 (c + 1), lv, wrap64 (st + 1)⟩, 5) := by unfold R.retire; rw [hf]
    rw [e2]
    clear e2 hf
    go_enter Try.func46, Try.ntmps46
    go_upto_region 2 with fail
    rw [← HW.out]
    obtain ⟨q0, q1, q2, q3⟩ := box_cells HK0.out
    go_wp2_with fail
    refine (place_calls HV.out q).mono ?_
    rw [HP.out]
    rintro e w1 ⟨rfl, hB1⟩
    have hz1 : w.heap.size + 1 < w1.heap.size := Nat.lt_of_lt_of_le hz hB1.size
    have k0 := blk_below HK0.out hB1
    have k1 := blk_below HK1.out hB1
    have kg := blk_below HG.out hB1
    have hB2 := below_then hB hB.size hB1
    obtain ⟨q0, q1, q2, q3⟩ := box_cells k0
    obtain ⟨p0, p1, p2, p3⟩ := box_cells k1
    have t0 := blk_frozen k1 0
    have t1 := blk_frozen k1 1
    have t2 := blk_frozen k1 2
    have t3 := blk_frozen k1 3
    have z0 := blk_frozen k0 0
    have z1 := blk_frozen k0 1
    have z2 := blk_frozen k0 2
    have z3 := blk_frozen k0 3
    clear hB1
    go_wp2
    refine bodyPost_ret (v := .tuple #[agg4 (.slice (some ⟨g, 0, none⟩) l.length cap) (wrap64 (c + 1)) lv (wrap64 (st + 1)), .int .i64 5]) (by simp [results, Try.results46, go_sem, p0, p1, p2, p3]) rfl ⟨_, rfl, ?_, ?_⟩
    · exact RV.mk hlen hpos hbg (by repeat (first | (with_reducible exact kg) | (with_reducible refine blk_far ?_ n1 _) | (with_reducible refine blk_far ?_ n0 _) | (with_reducible refine blk_drew ?_))) hcp hcm hlt
    · repeat (first | (with_reducible exact hB2) | (with_reducible refine below_set ?_ (by simp)) | (with_reducible refine below_drew ?_))
  | some i =>
    have hi : i < l.length := R.find_lt hf
    have HP := Lib.hid (R.place_some (r := R.mk l (wrap64 (c + 1)) lv st) hf)
    obtain ⟨x, hx⟩ : ∃ x, l.getD i z108 = x := ⟨_, rfl⟩
    have HX := Lib.hid hx
    obtain ⟨x0, x1, x2, x3, x4⟩ := x
    cases x4 with
    | false =>
      have hs4 : (false = false ∨ x3 < s) := Or.inl rfl
      have e2 : (R.mk l c lv st).retire q s = (⟨l.set i ⟨x0, x1, x2, s, true⟩, wrap64 (c + 1), lv, st⟩, 0) := by unfold R.retire R.at; rw [hf]; simp only [hx]; rw [show S108.retire ⟨x0, x1, x2, x3, false⟩ s = _ from if_pos hs4]
      rw [e2]
      clear e2 hf hx hs4
      go_enter Try.func46, Try.ntmps46
      go_upto_region 2 with fail
      rw [← HW.out]
      obtain ⟨q0, q1, q2, q3⟩ := box_cells HK0.out
      go_wp2_with fail
      refine (place_calls HV.out q).mono ?_
      rw [HP.out]
      rintro e w1 ⟨rfl, hB1⟩
      have hz1 : w.heap.size + 1 < w1.heap.size := Nat.lt_of_lt_of_le hz hB1.size
      have k0 := blk_below HK0.out hB1
      have k1 := blk_below HK1.out hB1
      have kg := blk_below HG.out hB1
      have hB2 := below_then hB hB.size hB1
      obtain ⟨q0, q1, q2, q3⟩ := box_cells k0
      obtain ⟨p0, p1, p2, p3⟩ := box_cells k1
      have t0 := blk_frozen k1 0
      have t1 := blk_frozen k1 1
      have t2 := blk_frozen k1 2
      have t3 := blk_frozen k1 3
      have z0 := blk_frozen k0 0
      have z1 := blk_frozen k0 1
      have z2 := blk_frozen k0 2
      have z3 := blk_frozen k0 3
      clear hB1
      have hn := row_news kg
      have k0a := blk_alloc k0 (.cells #[] 108)
      have k1a := blk_alloc k1 (.cells #[] 108)
      have kga := blk_alloc kg (.cells #[] 108)
      have kd := blk_new w1 (.cells #[] 108)
      have hBa := hB2.alloc hB2.size (.cells #[] 108)
      have qa0 := (box_cells k0a).1
      have HK0a := Lib.hid k0a
      have HK1a := Lib.hid k1a
      have HKd := Lib.hid kd
      have HBa := Lib.hid hBa
      have HN := Lib.hid (row_news kga)
      have hw1s : w.heap.size ≤ w1.heap.size := hB2.size
      clear hn k0a k1a kga kd hBa
      go_wp2_with (at_builtin; refine copy_C rfl _ _ rfl w.heap.size w1.heap.size HKd.out (by omega) ⟨g, 0, none⟩ cap l HN.out hpos hlen HBa.out (by simp; omega) rfl rfl ?_)
      intro g' cp' tl' w7 hg' hbg' hcp' hcm' hlt' hB7 hgrow
      have k0 := blk_grown HK0a.out hgrow (by intro e; injection e with e; omega)
      have k1 := blk_grown HK1a.out hgrow (by intro e; injection e with e; omega)
      have m0 : g' ≠ w.heap.size := blk_ne hg' k0 (by decide)
      have m1 : g' ≠ w.heap.size + 1 := blk_ne hg' k1 (by decide)
      have m0' := Ne.symm m0
      have m1' := Ne.symm m1
      have m01 : w.heap.size ≠ w.heap.size + 1 := by omega
      have m10 := Ne.symm m01
      clear q0 q1 q2 q3 p0 p1 p2 p3 t0 t1 t2 t3 z0 z1 z2 z3
      obtain ⟨q0, q1, q2, q3⟩ := box_cells k0
      obtain ⟨p0, p1, p2, p3⟩ := box_cells k1
      have t0 := blk_frozen k1 0
      have t1 := blk_frozen k1 1
      have t2 := blk_frozen k1 2
      have t3 := blk_frozen k1 3
      have z0 := blk_frozen k0 0
      obtain ⟨r0, r1, r2, r3, r4⟩ := row_cells hg' i hi
      rw [HX.out] at r0 r1 r2 r3 r4
      have f3 := blk_frozen hg' (i * 5 + 3)
      have f4 := blk_frozen hg' (i * 5 + 4)
      have HG' := Lib.hid hg'
      clear hgrow hg' k0 k1 HK0a HK1a HKd HBa HN
      go_wp2
      refine bodyPost_ret (v := .tuple #[agg4 (.slice (some ⟨g', 0, none⟩) l.length cp') (wrap64 (c + 1)) lv st, .int .i64 0]) (by simp [results, Try.results46, go_sem, p0, p1, p2, p3]) rfl ⟨_, rfl, ?_, ?_⟩
      · have hle : l.length = (l.set i ⟨x0, x1, x2, s, true⟩).length := by simp
        rw [hle]
        refine RV.mk (by simpa using hlen) (by simpa using hpos) (Nat.le_trans hBw hbg') (tl := tl') (cap := cp') ?_ (by simpa using hcp') hcm' (by simpa [rowR_len] using hlt')
        refine blk_far (blk_far (blk_far (blk_far (blk_put (blk_put (blk_far HG'.out m0 _) (i * 5 + 3) _ (row_put _ _ _ _ (by rw [rowR_len]; omega))) (i * 5 + 4) _ ?_) m1 _) m1 _) m1 _) m1 _
        rw [(rowR_set2 l i hi s true).1, row_put _ _ _ _ (by rw [rowR_len, List.length_set]; omega), (rowR_set2 _ i (by rw [List.length_set]; exact hi) s true).2, List.set_set, getD_set hi, HX.out]
      · repeat (first | (with_reducible exact hB7) | (with_reducible refine below_set ?_ (by first | exact hbg' | simp)) | (with_reducible refine below_drew ?_))
    | true =>
      by_cases hs3 : x3 < s
      · have hs4 : (true = false ∨ x3 < s) := Or.inr hs3
        have d1 : decide (x3 < s) = true := decide_eq_true hs3
        have e2 : (R.mk l c lv st).retire q s = (⟨l.set i ⟨x0, x1, x2, s, true⟩, wrap64 (c + 1), lv, st⟩, 0) := by unfold R.retire R.at; rw [hf]; simp only [hx]; rw [show S108.retire ⟨x0, x1, x2, x3, true⟩ s = _ from if_pos hs4]
        rw [e2]
        clear e2 hf hx hs4 hs3
        go_enter Try.func46, Try.ntmps46
        go_upto_region 2 with fail
        rw [← HW.out]
        obtain ⟨q0, q1, q2, q3⟩ := box_cells HK0.out
        go_wp2_with fail
        refine (place_calls HV.out q).mono ?_
        rw [HP.out]
        rintro e w1 ⟨rfl, hB1⟩
        have hz1 : w.heap.size + 1 < w1.heap.size := Nat.lt_of_lt_of_le hz hB1.size
        have k0 := blk_below HK0.out hB1
        have k1 := blk_below HK1.out hB1
        have kg := blk_below HG.out hB1
        have hB2 := below_then hB hB.size hB1
        obtain ⟨q0, q1, q2, q3⟩ := box_cells k0
        obtain ⟨p0, p1, p2, p3⟩ := box_cells k1
        have t0 := blk_frozen k1 0
        have t1 := blk_frozen k1 1
        have t2 := blk_frozen k1 2
        have t3 := blk_frozen k1 3
        have z0 := blk_frozen k0 0
        have z1 := blk_frozen k0 1
        have z2 := blk_frozen k0 2
        have z3 := blk_frozen k0 3
        clear hB1
        have hn := row_news kg
        have k0a := blk_alloc k0 (.cells #[] 108)
        have k1a := blk_alloc k1 (.cells #[] 108)
        have kga := blk_alloc kg (.cells #[] 108)
        have kd := blk_new w1 (.cells #[] 108)
        have hBa := hB2.alloc hB2.size (.cells #[] 108)
        have qa0 := (box_cells k0a).1
        have HK0a := Lib.hid k0a
        have HK1a := Lib.hid k1a
        have HKd := Lib.hid kd
        have HBa := Lib.hid hBa
        have HN := Lib.hid (row_news kga)
        have hw1s : w.heap.size ≤ w1.heap.size := hB2.size
        clear hn k0a k1a kga kd hBa
        go_wp2_with (at_builtin; refine copy_C rfl _ _ rfl w.heap.size w1.heap.size HKd.out (by omega) ⟨g, 0, none⟩ cap l HN.out hpos hlen HBa.out (by simp; omega) rfl rfl ?_)
        intro g' cp' tl' w7 hg' hbg' hcp' hcm' hlt' hB7 hgrow
        have k0 := blk_grown HK0a.out hgrow (by intro e; injection e with e; omega)
        have k1 := blk_grown HK1a.out hgrow (by intro e; injection e with e; omega)
        have m0 : g' ≠ w.heap.size := blk_ne hg' k0 (by decide)
        have m1 : g' ≠ w.heap.size + 1 := blk_ne hg' k1 (by decide)
        have m0' := Ne.symm m0
        have m1' := Ne.symm m1
        have m01 : w.heap.size ≠ w.heap.size + 1 := by omega
        have m10 := Ne.symm m01
        clear q0 q1 q2 q3 p0 p1 p2 p3 t0 t1 t2 t3 z0 z1 z2 z3
        obtain ⟨q0, q1, q2, q3⟩ := box_cells k0
        obtain ⟨p0, p1, p2, p3⟩ := box_cells k1
        have t0 := blk_frozen k1 0
        have t1 := blk_frozen k1 1
        have t2 := blk_frozen k1 2
        have t3 := blk_frozen k1 3
        have z0 := blk_frozen k0 0
        obtain ⟨r0, r1, r2, r3, r4⟩ := row_cells hg' i hi
        rw [HX.out] at r0 r1 r2 r3 r4
        have f3 := blk_frozen hg' (i * 5 + 3)
        have f4 := blk_frozen hg' (i * 5 + 4)
        have HG' := Lib.hid hg'
        clear hgrow hg' k0 k1 HK0a HK1a HKd HBa HN
        go_wp2
        refine bodyPost_ret (v := .tuple #[agg4 (.slice (some ⟨g', 0, none⟩) l.length cp') (wrap64 (c + 1)) lv st, .int .i64 0]) (by simp [results, Try.results46, go_sem, p0, p1, p2, p3]) rfl ⟨_, rfl, ?_, ?_⟩
        · have hle : l.length = (l.set i ⟨x0, x1, x2, s, true⟩).length := by simp
          rw [hle]
          refine RV.mk (by simpa using hlen) (by simpa using hpos) (Nat.le_trans hBw hbg') (tl := tl') (cap := cp') ?_ (by simpa using hcp') hcm' (by simpa [rowR_len] using hlt')
          refine blk_far (blk_far (blk_far (blk_far (blk_put (blk_put (blk_far HG'.out m0 _) (i * 5 + 3) _ (row_put _ _ _ _ (by rw [rowR_len]; omega))) (i * 5 + 4) _ ?_) m1 _) m1 _) m1 _) m1 _
          rw [(rowR_set2 l i hi s true).1, row_put _ _ _ _ (by rw [rowR_len, List.length_set]; omega), (rowR_set2 _ i (by rw [List.length_set]; exact hi) s true).2, List.set_set, getD_set hi, HX.out]
        · repeat (first | (with_reducible exact hB7) | (with_reducible refine below_set ?_ (by first | exact hbg' | simp)) | (with_reducible refine below_drew ?_))
      · have hs4 : ¬ (true = false ∨ x3 < s) := fun z => z.elim (by simp) hs3
        have d1 : decide (x3 < s) = false := decide_eq_false hs3
        have e2 : (R.mk l c lv st).retire q s = (⟨l.set i ⟨x0, x1, x2, x3, true⟩, wrap64 (c + 1), lv, st⟩, 0) := by unfold R.retire R.at; rw [hf]; simp only [hx]; rw [show S108.retire ⟨x0, x1, x2, x3, true⟩ s = _ from if_neg hs4]
        rw [e2]
        clear e2 hf hx hs4 hs3
        go_enter Try.func46, Try.ntmps46
        go_upto_region 2 with fail
        rw [← HW.out]
        obtain ⟨q0, q1, q2, q3⟩ := box_cells HK0.out
        go_wp2_with fail
        refine (place_calls HV.out q).mono ?_
        rw [HP.out]
        rintro e w1 ⟨rfl, hB1⟩
        have hz1 : w.heap.size + 1 < w1.heap.size := Nat.lt_of_lt_of_le hz hB1.size
        have k0 := blk_below HK0.out hB1
        have k1 := blk_below HK1.out hB1
        have kg := blk_below HG.out hB1
        have hB2 := below_then hB hB.size hB1
        obtain ⟨q0, q1, q2, q3⟩ := box_cells k0
        obtain ⟨p0, p1, p2, p3⟩ := box_cells k1
        have t0 := blk_frozen k1 0
        have t1 := blk_frozen k1 1
        have t2 := blk_frozen k1 2
        have t3 := blk_frozen k1 3
        have z0 := blk_frozen k0 0
        have z1 := blk_frozen k0 1
        have z2 := blk_frozen k0 2
        have z3 := blk_frozen k0 3
        clear hB1
        have hn := row_news kg
        have k0a := blk_alloc k0 (.cells #[] 108)
        have k1a := blk_alloc k1 (.cells #[] 108)
        have kga := blk_alloc kg (.cells #[] 108)
        have kd := blk_new w1 (.cells #[] 108)
        have hBa := hB2.alloc hB2.size (.cells #[] 108)
        have qa0 := (box_cells k0a).1
        have HK0a := Lib.hid k0a
        have HK1a := Lib.hid k1a
        have HKd := Lib.hid kd
        have HBa := Lib.hid hBa
        have HN := Lib.hid (row_news kga)
        have hw1s : w.heap.size ≤ w1.heap.size := hB2.size
        clear hn k0a k1a kga kd hBa
        go_wp2_with (at_builtin; refine copy_C rfl _ _ rfl w.heap.size w1.heap.size HKd.out (by omega) ⟨g, 0, none⟩ cap l HN.out hpos hlen HBa.out (by simp; omega) rfl rfl ?_)
        intro g' cp' tl' w7 hg' hbg' hcp' hcm' hlt' hB7 hgrow
        have k0 := blk_grown HK0a.out hgrow (by intro e; injection e with e; omega)
        have k1 := blk_grown HK1a.out hgrow (by intro e; injection e with e; omega)
        have m0 : g' ≠ w.heap.size := blk_ne hg' k0 (by decide)
        have m1 : g' ≠ w.heap.size + 1 := blk_ne hg' k1 (by decide)
        have m0' := Ne.symm m0
        have m1' := Ne.symm m1
        have m01 : w.heap.size ≠ w.heap.size + 1 := by omega
        have m10 := Ne.symm m01
        clear q0 q1 q2 q3 p0 p1 p2 p3 t0 t1 t2 t3 z0 z1 z2 z3
        obtain ⟨q0, q1, q2, q3⟩ := box_cells k0
        obtain ⟨p0, p1, p2, p3⟩ := box_cells k1
        have t0 := blk_frozen k1 0
        have t1 := blk_frozen k1 1
        have t2 := blk_frozen k1 2
        have t3 := blk_frozen k1 3
        have z0 := blk_frozen k0 0
        obtain ⟨r0, r1, r2, r3, r4⟩ := row_cells hg' i hi
        rw [HX.out] at r0 r1 r2 r3 r4
        have f3 := blk_frozen hg' (i * 5 + 3)
        have f4 := blk_frozen hg' (i * 5 + 4)
        have HG' := Lib.hid hg'
        clear hgrow hg' k0 k1 HK0a HK1a HKd HBa HN
        go_wp2
        refine bodyPost_ret (v := .tuple #[agg4 (.slice (some ⟨g', 0, none⟩) l.length cp') (wrap64 (c + 1)) lv st, .int .i64 0]) (by simp [results, Try.results46, go_sem, p0, p1, p2, p3]) rfl ⟨_, rfl, ?_, ?_⟩
        · have hle : l.length = (l.set i ⟨x0, x1, x2, x3, true⟩).length := by simp
          rw [hle]
          refine RV.mk (by simpa using hlen) (by simpa using hpos) (Nat.le_trans hBw hbg') (tl := tl') (cap := cp') ?_ (by simpa using hcp') hcm' (by simpa [rowR_len] using hlt')
          refine blk_far (blk_far (blk_far (blk_far (blk_put (blk_far HG'.out m0 _) (i * 5 + 4) _ ?_) m1 _) m1 _) m1 _) m1 _
          rw [row_put _ _ _ _ (by rw [rowR_len]; omega), (rowR_set2 l i hi s true).2, HX.out]
        · repeat (first | (with_reducible exact hB7) | (with_reducible refine below_set ?_ (by first | exact hbg' | simp)) | (with_reducible refine below_drew ?_))
def R.reap (r : R) (p b : Int) : R × Bool × Int :=
  if p < 0 ∨ (r.l.length : Int) ≤ p then (r.tick, false, 10)
  else if (r.at p.toNat).f4 = false ∨ b ≤ (r.at p.toNat).f3 then (r.tick, false, 0) else (r.tick.freed p.toNat, true, 0)
set_option maxHeartbeats 6400000 in
set_option maxRecDepth 100000 in
theorem reap_calls {w : World} {B : Nat} {x : Value} {r : R} (h : RV w B x r) (hBw : B ≤ w.heap.size) (p b : Int) : Calls Try.prog 47 #[x, .int .i64 p, .int .i64 b] w fun e w' => ∃ x', e = .returned (.tuple #[x', .bool (r.reap p b).2.1, .int .i64 (r.reap p b).2.2]) ∧ RV w' B x' (r.reap p b).1 ∧ Below w.heap.size w w' := by
  obtain ⟨g, cap, tl, rfl, hbg, hg, hcp, hcm, hlt⟩ := h.open
  have hlen := h.1
  have hpos := h.2.1
  have hlt0 := blk_lt hg
  obtain ⟨W, hW, K0, K1, hB, hz⟩ := boxed w (.slice (some ⟨g, 0, none⟩) r.l.length cap) (wrap64 (r.c + 1)) r.lv r.st
  have HW := Lib.hid hW
  have HG := Lib.hid (blk_below hg hB)
  have HV := Lib.hid ((RV.mk hlen hpos hbg (blk_below hg hB) hcp hcm hlt : RV W B (agg4 (.slice (some ⟨g, 0, none⟩) r.l.length cap) (wrap64 (r.c + 1)) r.lv r.st) ⟨r.l, (wrap64 (r.c + 1)), r.lv, r.st⟩))
  have HK0 := Lib.hid K0
  have HK1 := Lib.hid K1
  have n0 : g ≠ w.heap.size := by omega
  have n1 : g ≠ w.heap.size + 1 := by omega
  clear hg hW K0 K1 h
  obtain ⟨l, c, lv, st⟩ := r
  simp only at HW HG HV HK0 HK1 hcp hlt hlen hpos ⊢
  by_cases hp : p < 0
  · have e2 : (R.mk l c lv st).reap p b = (⟨l, wrap64 (c + 1), lv, st⟩, false, 10) := by unfold R.reap; rw [if_pos (Or.inl hp)]; rfl
    rw [e2]
    have d0 : decide (p < 0) = true := decide_eq_true hp
    clear e2
    go_enter Try.func47, Try.ntmps47
    go_upto_region 2 with fail
    rw [← HW.out]
    obtain ⟨q0, q1, q2, q3⟩ := box_cells HK0.out
    have k0 := HK0.out
    have k1 := HK1.out
    have kg := HG.out
    have hB2 := hB
    obtain ⟨q0, q1, q2, q3⟩ := box_cells k0
    obtain ⟨p0, p1, p2, p3⟩ := box_cells k1
    have t0 := blk_frozen k1 0
    have t1 := blk_frozen k1 1
    have t2 := blk_frozen k1 2
    have t3 := blk_frozen k1 3
    go_wp2
    refine bodyPost_ret (v := .tuple #[agg4 (.slice (some ⟨g, 0, none⟩) l.length cap) (wrap64 (c + 1)) lv st, .bool false, .int .i64 10]) (by simp [results, Try.results47, go_sem, p0, p1, p2, p3]) rfl ⟨_, rfl, ?_, ?_⟩
    · exact RV.mk hlen hpos hbg (by repeat (first | (with_reducible exact kg) | (with_reducible refine blk_far ?_ n1 _) | (with_reducible refine blk_far ?_ n0 _) | (with_reducible refine blk_drew ?_))) hcp hcm hlt
    · repeat (first | (with_reducible exact hB2) | (with_reducible refine below_set ?_ (by simp)) | (with_reducible refine below_drew ?_))
  · obtain ⟨i, rfl⟩ := Int.eq_ofNat_of_zero_le (Int.not_lt.1 hp)
    have d0 : decide ((i : Int) < 0) = false := decide_eq_false hp
    by_cases hi : i < l.length
    · have d1 : decide (l.length ≤ i) = false := decide_eq_false (by omega)
      have en : ¬ ((i : Int) < 0 ∨ (l.length : Int) ≤ i) := by omega
      obtain ⟨x, hx⟩ : ∃ x, l.getD i z108 = x := ⟨_, rfl⟩
      have HX := Lib.hid hx
      obtain ⟨x0, x1, x2, x3, x4⟩ := x
      have eb : (R.mk l c lv st).reap i b = if x4 = false ∨ b ≤ x3 then (⟨l, wrap64 (c + 1), lv, st⟩, false, 0) else ((R.mk l (wrap64 (c + 1)) lv st).freed i, true, 0) := by
        unfold R.reap R.at
        rw [if_neg en, Int.toNat_natCast]
        simp only [hx]
        rfl
      clear en hx
      cases x4 with
      | false =>
        have e2 : (R.mk l c lv st).reap i b = (⟨l, wrap64 (c + 1), lv, st⟩, false, 0) := eb.trans (if_pos (Or.inl rfl))
        rw [e2]
        clear eb
        clear e2
        go_enter Try.func47, Try.ntmps47
        go_upto_region 2 with fail
        rw [← HW.out]
        obtain ⟨q0, q1, q2, q3⟩ := box_cells HK0.out
        have k0 := HK0.out
        have k1 := HK1.out
        have kg := HG.out
        have hB2 := hB
        obtain ⟨q0, q1, q2, q3⟩ := box_cells k0
        obtain ⟨p0, p1, p2, p3⟩ := box_cells k1
        have t0 := blk_frozen k1 0
        have t1 := blk_frozen k1 1
        have t2 := blk_frozen k1 2
        have t3 := blk_frozen k1 3
        obtain ⟨r0, r1, r2, r3, r4⟩ := row_cells kg i hi
        rw [HX.out] at r0 r1 r2 r3 r4
        go_wp2
        refine bodyPost_ret (v := .tuple #[agg4 (.slice (some ⟨g, 0, none⟩) l.length cap) (wrap64 (c + 1)) lv st, .bool false, .int .i64 0]) (by simp [results, Try.results47, go_sem, p0, p1, p2, p3]) rfl ⟨_, rfl, ?_, ?_⟩
        · exact RV.mk hlen hpos hbg (by repeat (first | (with_reducible exact kg) | (with_reducible refine blk_far ?_ n1 _) | (with_reducible refine blk_far ?_ n0 _) | (with_reducible refine blk_drew ?_))) hcp hcm hlt
        · repeat (first | (with_reducible exact hB2) | (with_reducible refine below_set ?_ (by simp)) | (with_reducible refine below_drew ?_))
      | true =>
        by_cases hs : b ≤ x3
        · have e2 : (R.mk l c lv st).reap i b = (⟨l, wrap64 (c + 1), lv, st⟩, false, 0) := eb.trans (if_pos (Or.inr hs))
          rw [e2]
          have d2 : decide (b ≤ x3) = true := decide_eq_true hs
          clear eb
          clear e2
          go_enter Try.func47, Try.ntmps47
          go_upto_region 2 with fail
          rw [← HW.out]
          obtain ⟨q0, q1, q2, q3⟩ := box_cells HK0.out
          have k0 := HK0.out
          have k1 := HK1.out
          have kg := HG.out
          have hB2 := hB
          obtain ⟨q0, q1, q2, q3⟩ := box_cells k0
          obtain ⟨p0, p1, p2, p3⟩ := box_cells k1
          have t0 := blk_frozen k1 0
          have t1 := blk_frozen k1 1
          have t2 := blk_frozen k1 2
          have t3 := blk_frozen k1 3
          obtain ⟨r0, r1, r2, r3, r4⟩ := row_cells kg i hi
          rw [HX.out] at r0 r1 r2 r3 r4
          go_wp2
          refine bodyPost_ret (v := .tuple #[agg4 (.slice (some ⟨g, 0, none⟩) l.length cap) (wrap64 (c + 1)) lv st, .bool false, .int .i64 0]) (by simp [results, Try.results47, go_sem, p0, p1, p2, p3]) rfl ⟨_, rfl, ?_, ?_⟩
          · exact RV.mk hlen hpos hbg (by repeat (first | (with_reducible exact kg) | (with_reducible refine blk_far ?_ n1 _) | (with_reducible refine blk_far ?_ n0 _) | (with_reducible refine blk_drew ?_))) hcp hcm hlt
          · repeat (first | (with_reducible exact hB2) | (with_reducible refine below_set ?_ (by simp)) | (with_reducible refine below_drew ?_))
        · have e2 : (R.mk l c lv st).reap i b = ((R.mk l (wrap64 (c + 1)) lv st).freed i, true, 0) := eb.trans (if_neg (fun z => z.elim (by simp) hs))
          have d2 : decide (b ≤ x3) = false := decide_eq_false hs
          have ef := freed_f ⟨l, wrap64 (c + 1), lv, st⟩ i hlen hi
          simp only at ef
          obtain ⟨fl, hfl⟩ : ∃ z, (R.mk l (wrap64 (c + 1)) lv st).freed i = z := ⟨_, rfl⟩
          have hfll : fl.l.length = l.length := by rw [← hfl]; simp [R.freed]
          rw [e2, hfl]
          rw [hfl] at ef
          obtain ⟨fl, fc, flv, fst⟩ := fl
          simp only at ef hfll
          have EF := Lib.hid ef
          have HFL := Lib.hid hfll
          have hfl1 : fl.length ≤ 65535 := by omega
          have hfl2 : 0 < fl.length := by omega
          clear eb e2 hfl ef hfll
          go_enter Try.func47, Try.ntmps47
          go_upto_region 2 with fail
          rw [← HW.out]
          obtain ⟨q0, q1, q2, q3⟩ := box_cells HK0.out
          have k0 := HK0.out
          have k1 := HK1.out
          have kg := HG.out
          have hB2 := hB
          obtain ⟨q0, q1, q2, q3⟩ := box_cells k0
          obtain ⟨p0, p1, p2, p3⟩ := box_cells k1
          have t0 := blk_frozen k1 0
          have t1 := blk_frozen k1 1
          have t2 := blk_frozen k1 2
          have t3 := blk_frozen k1 3
          obtain ⟨r0, r1, r2, r3, r4⟩ := row_cells kg i hi
          rw [HX.out] at r0 r1 r2 r3 r4
          have hC : Kd.C k108 W (some ⟨g, 0, none⟩) l.length l := (Kd.R_reads' (R_of_own (own_of_blk5 (base := B) (rowR_len l) hbg kg hcp hcm hlt) (fun _ _ => trivial) : Kd.R k108 108 W B (fun _ => True) (.slice (some ⟨g, 0, none⟩) l.length cap) l)).2.2
          have HC := Lib.hid hC
          clear hC
          go_wp2_with fail
          refine (rundleref12_free.calls (some ⟨g, 0, none⟩) cap l (wrap64 (c + 1)) lv st i fl fc flv fst W HC.out hcp EF.out).mono ?_
          rintro e w3 ⟨v3, rfl, hR3, hB3⟩
          have k1' := blk_below k1 hB3
          obtain ⟨p0, p1, p2, p3⟩ := box_cells k1'
          have t0 := blk_frozen k1' 0
          have t1 := blk_frozen k1' 1
          have t2 := blk_frozen k1' 2
          have t3 := blk_frozen k1' 3
          have ho := own_of_R hR3
          obtain ⟨g3, c3, tl3, rfl, hb3, hg3, hc3, hm3, hl3⟩ := own_blk5 ho hfl2
          have hB4 := below_then hB hB.size hB3
          have n3 : g3 ≠ w.heap.size + 1 := by omega
          clear ho hR3 hB3
          go_wp2
          refine bodyPost_ret (v := .tuple #[agg4 (.slice (some ⟨g3, 0, none⟩) fl.length c3) fc flv fst, .bool true, .int .i64 0]) (by simp [results, Try.results47, go_sem, p0, p1, p2, p3]) rfl ⟨_, rfl, ?_, ?_⟩
          · exact RV.mk hfl1 hfl2 (by have := hB.size; omega) (blk_far (blk_far (blk_far (blk_far hg3 n3 _) n3 _) n3 _) n3 _) hc3 hm3 hl3
          · exact below_set (below_set (below_set (below_set hB4 (by simp)) (by simp)) (by simp)) (by simp)
    · have e2 : (R.mk l c lv st).reap i b = (⟨l, wrap64 (c + 1), lv, st⟩, false, 10) := by unfold R.reap; rw [if_pos (Or.inr (by show (l.length : Int) ≤ i; omega))]; rfl
      rw [e2]
      have d1 : decide (l.length ≤ i) = true := decide_eq_true (by omega)
      clear e2
      go_enter Try.func47, Try.ntmps47
      go_upto_region 2 with fail
      rw [← HW.out]
      obtain ⟨q0, q1, q2, q3⟩ := box_cells HK0.out
      have k0 := HK0.out
      have k1 := HK1.out
      have kg := HG.out
      have hB2 := hB
      obtain ⟨q0, q1, q2, q3⟩ := box_cells k0
      obtain ⟨p0, p1, p2, p3⟩ := box_cells k1
      have t0 := blk_frozen k1 0
      have t1 := blk_frozen k1 1
      have t2 := blk_frozen k1 2
      have t3 := blk_frozen k1 3
      go_wp2
      refine bodyPost_ret (v := .tuple #[agg4 (.slice (some ⟨g, 0, none⟩) l.length cap) (wrap64 (c + 1)) lv st, .bool false, .int .i64 10]) (by simp [results, Try.results47, go_sem, p0, p1, p2, p3]) rfl ⟨_, rfl, ?_, ?_⟩
      · exact RV.mk hlen hpos hbg (by repeat (first | (with_reducible exact kg) | (with_reducible refine blk_far ?_ n1 _) | (with_reducible refine blk_far ?_ n0 _) | (with_reducible refine blk_drew ?_))) hcp hcm hlt
      · repeat (first | (with_reducible exact hB2) | (with_reducible refine below_set ?_ (by simp)) | (with_reducible refine below_drew ?_))
end
end Go.Proofs.Ythgbgflpjggpmaa.RefAlloc
