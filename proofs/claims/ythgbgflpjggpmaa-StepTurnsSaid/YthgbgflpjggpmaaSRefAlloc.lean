/- The document's memory: a word or a block is put, by hand. (The other functions are printed.) -/
import Derived.Test.YthgbgflpjggpmaaPStepAlonex1
import Derived.Lib.Hide
import Derived.Outline
import Derived.StillTailTactics
import Derived.Laws.OwnMore
namespace Go.Proofs.Ythgbgflpjggpmaa.RefAlloc
open Go.RowKit Go.Proofs.YthgbgflpjggpmaaW.PrintWords Go.Proofs.Ythgbgflpjggpmaa.PStepAlone
set_option linter.unusedVariables false
set_option linter.unusedSimpArgs false
section
def cel (x : S108) : List Value := [.int .i64 x.f0, .int .i64 x.f1, .int .i64 x.f2, .int .i64 x.f3, .bool x.f4]
def rowR : List S108 → List Value
  | [] => []
  | x :: l => cel x ++ rowR l
theorem rowR_len : ∀ l : List S108, (rowR l).length = l.length * 5
  | [] => rfl
  | x :: l => by
    have := rowR_len l
    simp only [rowR, List.length_append, this, List.length_cons, cel, List.length_nil]
    omega
theorem rowR_at : ∀ (l : List S108) (i : Nat) (x : S108), l[i]? = some x → ((rowR l).drop (i * 5)).take 5 = cel x
  | [], i, x, h => by simp at h
  | y :: l, 0, x, h => by
    simp at h
    subst h
    rfl
  | y :: l, i + 1, x, h => by
    have ih := rowR_at l i x (by simpa using h)
    have e : (i + 1) * 5 = (cel y).length + i * 5 := by simp [cel]; omega
    show ((cel y ++ rowR l).drop ((i + 1) * 5)).take 5 = _
    rw [e, ← List.drop_drop, List.drop_left]
    exact ih
theorem rowR_of : ∀ (l : List S108) (cs : List Value), cs.length = l.length * 5 → (∀ i x, l[i]? = some x → (cs.drop (i * 5)).take 5 = cel x) → cs = rowR l
  | [], cs, h, _ => by
    have : cs.length = 0 := by simpa using h
    exact List.eq_nil_of_length_eq_zero this
  | y :: l, cs, h, k => by
    have h0 := k 0 y rfl
    rw [Nat.zero_mul, List.drop_zero] at h0
    have h1 := rowR_of l (cs.drop 5) (by simp at h ⊢; omega) (fun i x hx => by
      have := k (i + 1) x (by simpa using hx)
      rw [List.drop_drop]
      rw [show (i + 1) * 5 = 5 + i * 5 from by omega] at this
      exact this)
    show cs = cel y ++ rowR l
    rw [← h0, ← h1, List.take_append_drop]
theorem own_of_R {w : World} {base : Nat} {ok : Nat → Prop} {v : Value} {l : List S108} (h : Kd.R k108 108 w base ok v l) : w.ownsRow base 108 5 v l.length (rowR l) := by
  obtain ⟨_, inner, ho, hr⟩ := h
  have e : inner = rowR l := by
    refine rowR_of l inner hr.1 (fun i x hx => ?_)
    exact k108_openM (hr.2 i x hx)
  rw [← e]
  exact ho
theorem R_of_own {w : World} {base : Nat} {ok : Nat → Prop} {v : Value} {l : List S108} (h : w.ownsRow base 108 5 v l.length (rowR l)) (hok : ∀ k, v.ownBlock = some k → ok k) : Kd.R k108 108 w base ok v l := by
  refine ⟨hok, rowR l, h, rowR_len l, fun i x hx => ?_⟩
  have e := rowR_at l i x hx
  show k108.M w base _ x (((rowR l).drop (i * 5)).take 5)
  rw [e]
  exact k108_mkM w base _ x
theorem rowR_get (l : List S108) (i j : Nat) (x : S108) (h : l[i]? = some x) (hj : j < 5) : (rowR l)[i * 5 + j]? = (cel x)[j]? := by
  have e := rowR_at l i x h
  rw [← e, List.getElem?_take_of_lt hj, List.getElem?_drop]
theorem rowR_set : ∀ (l : List S108) (i : Nat), i < l.length → ∀ (k n : Int), (rowR l).set (i * 5) (.int .i64 k) = rowR (l.set i { l.getD i z108 with f0 := k }) ∧ (rowR l).set (i * 5 + 1) (.int .i64 n) = rowR (l.set i { l.getD i z108 with f1 := n })
  | [], i, h, _, _ => by simp at h
  | y :: l, 0, _, k, n => ⟨rfl, rfl⟩
  | y :: l, i + 1, h, k, n => by
    have ih := rowR_set l i (by simpa using h) k n
    have e0 : (i + 1) * 5 = i * 5 + 5 := by omega
    have e1 : (i + 1) * 5 + 1 = (i * 5 + 1) + 5 := by omega
    have s : ∀ j u, (rowR (y :: l)).set (j + 5) u = cel y ++ (rowR l).set j u := fun j u => rfl
    refine ⟨?_, ?_⟩
    · rw [e0, s, ih.1]; rfl
    · rw [e1, s, ih.2]; rfl
/-- What the document's Alloc makes of a list: the first free place holds (kind, n). -/
def may (x : S108) : Bool := decide (x.f0 = 0) && decide (x.f2 ≤ 16383)
def put (l : List S108) (i : Nat) (k n : Int) : List S108 := l.set i { l.getD i z108 with f0 := k, f1 := n }
theorem put_eq (l : List S108) (i : Nat) (k n : Int) (hi : i < l.length) : put l i k n = (l.set i { l.getD i z108 with f0 := k }).set i { (l.set i { l.getD i z108 with f0 := k }).getD i z108 with f1 := n } := by
  unfold put
  rw [List.set_set]
  congr 1
  simp [List.getD_eq_getElem?_getD, List.getElem?_set_self hi]
set_option maxHeartbeats 1600000 in
set_option maxRecDepth 100000 in
theorem full (A : Option Addr) (cap : Nat) (l : List S108) (c lv st k n : Int) (w : World) (hr : Kd.C k108 w A l.length l) (hlen : l.length ≤ 65535) (hf : ∀ i, i < l.length → may (l.getD i z108) = false) :
    Calls Try.prog 41 #[.agg #[.slice A l.length cap, .int .i64 c, .int .i64 lv, .int .i64 st], .int .i64 k, .int .i64 n] w fun e w' => e = .returned (.tuple #[.agg #[.slice A l.length cap, .int .i64 (wrap64 (c + 1)), .int .i64 lv, .int .i64 st], .int .i64 0, .int .i64 3]) ∧ Below w.heap.size w w' := by
  have HR := Lib.hid hr
  have HF := Lib.hid hf
  clear hr hf
  go_enter Try.func41, Try.ntmps41
  go_wp2
  go_loopw [9] (fun i wr => ∃ j : Nat, j ≤ l.length ∧ i = .int .i64 j ∧ wr = (w.alloc (.cells #[.slice A l.length cap, .int .i64 (wrap64 (c + 1)), .int .i64 lv, .int .i64 st] 52)).alloc (.cells #[.slice none 0 0, .int .i64 0, .int .i64 0, .int .i64 0] 52)) (fun i _ => l.length - (intOf i).toNat)
  case atStart => exact ⟨0, by omega, rfl, rfl⟩
  case round =>
    obtain ⟨j, hj, rfl, rfl⟩ := hrel
    by_cases hlt : j < l.length
    · have hB : Below w.heap.size w ((w.alloc (.cells #[.slice A l.length cap, .int .i64 (wrap64 (c + 1)), .int .i64 lv, .int .i64 st] 52)).alloc (.cells #[.slice none 0 0, .int .i64 0, .int .i64 0, .int .i64 0] 52)) := below_alloc (below_alloc (Below.refl _ _) _) _
      obtain ⟨ad, eA, x0, x1, x2, x3, x4⟩ := at_T108 HR.out (j : Int) (by omega) (by omega)
      rw [Int.toNat_natCast] at x0 x1 x2 x3 x4
      have ex : rd_T108 l (j : Int) = l.getD j z108 := by unfold rd_T108; rw [Int.toNat_natCast]
      rw [ex] at x0 x1 x2 x3 x4
      have hm := HF.out j hlt
      have y0 := (hB.cell (World.block_lt_of_cell? _ _ x0)).trans x0
      have y2 := (hB.cell (World.block_lt_of_cell? _ _ x2)).trans x2
      clear x0 x1 x2 x3 x4 ex hB
      generalize l.getD j z108 = x at *
      subst eA
      unfold may at hm
      by_cases c0 : x.f0 = 0
      · have g0 : (x.f0 == 0) = true := by simp [c0]
        have g2 : decide (x.f2 ≤ 16383) = false := by simpa [c0] using hm
        clear c0 hm
        go_wp2
        go_roundw
        case rel => exact ⟨j + 1, by omega, by go_num, by first | rfl | trivial⟩
        case measure => simp [intOf]; omega
      · have g0 : (x.f0 == 0) = false := by simp [c0]
        clear c0 hm
        go_wp2
        go_roundw
        case rel => exact ⟨j + 1, by omega, by go_num, by first | rfl | trivial⟩
        case measure => simp [intOf]; omega
    · go_wp2
      exact bodyPost_ret (v := .tuple #[.agg #[.slice A l.length cap, .int .i64 (wrap64 (c + 1)), .int .i64 lv, .int .i64 st], .int .i64 0, .int .i64 3]) (by simp [results, Try.results41, go_sem]) rfl ⟨rfl, below_alloc (below_alloc (Below.refl _ _) _) _⟩
theorem own_blk5 {w : World} {base n : Nat} {v : Value} {xs : List Value} (h : w.ownsRow base 108 5 v n xs) (hn : 0 < n) : ∃ g cap tl, v = .slice (some ⟨g, 0, none⟩) n cap ∧ base ≤ g ∧ w.heap[g]? = some (.cells (xs ++ tl).toArray 108 (0, 0)) ∧ n ≤ cap ∧ cap ≤ maxLen ∧ (xs ++ tl).length = cap * 5 := by
  rcases h.2 with ⟨_, h0⟩ | ⟨g, cap, cur, e, hg, hh, h1, h2, h3, h4⟩
  · omega
  · refine ⟨g, cap, cur.toList.drop (n * 5), e, hg, ?_, h1, h2, ?_⟩
    · rw [hh, ← h4, List.take_append_drop]
    · rw [← h4, List.take_append_drop]
      simpa using h3
theorem own_of_blk5 {w : World} {base n g cap : Nat} {xs tl : List Value} (hx : xs.length = n * 5) (hg : base ≤ g) (hh : w.heap[g]? = some (.cells (xs ++ tl).toArray 108 (0, 0))) (h1 : n ≤ cap) (h2 : cap ≤ maxLen) (h3 : (xs ++ tl).length = cap * 5) : w.ownsRow base 108 5 (.slice (some ⟨g, 0, none⟩) n cap) n xs := by
  refine ⟨hx, Or.inr ⟨g, cap, _, rfl, hg, hh, h1, h2, by simpa using h3, ?_⟩⟩
  rw [← hx]
  simp
theorem reads_row {w : World} {ad : Addr} {l : List S108} (h : Kd.C k108 w (some ad) l.length l) : ∀ j u, (rowR l)[j]? = some u → w.cell? (ad.add j) = some u := by
  intro j u hj
  have hl := (List.getElem?_eq_some_iff.1 hj).1
  rw [rowR_len] at hl
  obtain ⟨ad', e, hc⟩ := h.2.2 (by omega)
  injection e with e
  subst e
  have hq : j / 5 < l.length := by omega
  obtain ⟨c, h1, h2, h3⟩ := hc (j / 5) _ (List.getElem?_eq_getElem hq)
  have ec := k108_open h2
  have e2 := rowR_get l (j / 5) (j % 5) _ (List.getElem?_eq_getElem hq) (by omega)
  have ej : j / 5 * 5 + j % 5 = j := by omega
  rw [ej, hj] at e2
  have h4 := h3 (j % 5) u (by rw [ec]; exact e2.symm)
  have h5 : w.cell? (ad.add (j / 5 * 5 + j % 5)) = some u := h4
  rw [ej] at h5
  exact h5
theorem row_one {l : List S108} : ∀ u ∈ rowR l, u.oneCell' = true := by
  induction l with
  | nil => intro u hu; simp [rowR] at hu
  | cons x l ih =>
    intro u hu
    rcases List.mem_append.1 hu with hu | hu
    · simp only [cel, List.mem_cons, List.not_mem_nil, or_false] at hu
      rcases hu with rfl | rfl | rfl | rfl | rfl <;> rfl
    · exact ih u hu
section
variable {ops : Array Oper} {rest : List Oper} {o : Oper} {a : Act} {Q : Exit → Act → World → Prop}
/-- 'append([]Cell{}, l...)', l not empty: a row of one's own that holds l; all that was there, but for the literal's empty block, is as it was. -/
theorem copy_C {w0 W : World} (hgd : o.guard = none) (s x : Operand) (ho : o.op = .call { callee := .builtin .append, args := #[s, x], argTypes := #[50, 50] }) (base d : Nat) (hd : W.heap[d]? = some (.cells #[] 108 (0, 0))) (hbd : base ≤ d)
    (ad : Addr) (cap : Nat) (l : List S108) (hR : ∀ j u, (rowR l)[j]? = some u → W.cell? (ad.add j) = some u) (hpos : 0 < l.length) (hl : l.length ≤ 65535) (hB : Below base w0 W) (hbase : base ≤ W.heap.size)
    (hs : a.eval s = .slice (some ⟨d, 0, none⟩) 0 0) (hx : a.eval x = .slice (some ad) l.length cap)
    (h : ∀ g cp tl w1, w1.heap[g]? = some (.cells (rowR l ++ tl).toArray 108 (0, 0)) → base ≤ g → l.length ≤ cp → cp ≤ maxLen → (rowR l ++ tl).length = cp * 5 → Below base w0 w1 → W.grownBy w1 (some d) → wpList Try.prog ops Q rest (a.put o.dst (.slice (some ⟨g, 0, none⟩) l.length cp)) w1) :
    wpList Try.prog ops Q (o :: rest) a W := by
  obtain ⟨i0, hi0, hz0, hz1, hz2⟩ := info_parts info108
  have hown := own_of_blk5 (base := base) (n := 0) (g := d) (cap := 0) (xs := []) (tl := []) rfl hbd hd (Nat.le_refl _) (by decide) rfl
  refine wpList_append_own _ hgd s x 50 ho base 108 i0 _ 5 40 Try.underlying50 hi0 hz0 hz1 hz2 rfl (by decide) _ 0 [] hs hown ad l.length cap (rowR l) hx (rowR_len l) hR row_one (by unfold maxLen; omega) (by omega) hbase ?_
  intro v' w1 hown' hgrow _
  rw [Nat.zero_add] at hown'
  obtain ⟨g, cp, tl, rfl, h1, h2, h3, h4, h5⟩ := own_blk5 hown' hpos
  exact h g cp tl w1 h2 h1 h3 h4 h5 (hB.grown hgrow hbase (fun k hk => by simp [Value.ownBlock] at hk; omega)) hgrow
end
theorem still_tail {id : Nat} {Q : Exit → Act → World → Prop} {a : Act} {w : World} {l : List Oper} (n : Nat) (hm : Try.prog.follows .mixedOrders = true) (hB : Region.lexTailB .any l.toArray n = true)
    (h : wpStill Try.prog l.toArray w.drew (fun a' => wpList Try.prog l.toArray Q (l.drop n) a' w.drew) (l.take n) a) : (Code.region id l.toArray true).wp Try.prog Q a w := wp_region_still_tail n hm hB h
theorem row_put (l tl : List Value) (j : Nat) (u : Value) (h : j < l.length) : (l ++ tl).toArray.setIfInBounds j u = (l.set j u ++ tl).toArray := by
  rw [List.setIfInBounds_toArray, List.set_append_left _ _ h]
set_option maxHeartbeats 800000 in
theorem handle_calls (i g : Int) (h0 : 0 ≤ i) (h1 : i ≤ 65534) (h2 : 0 ≤ g) (h3 : g ≤ 16383) (w : World) : Calls Try.prog 57 #[.int .i64 i, .int .i64 g] w fun e w'' => e = .returned (.int .i64 (g * 65536 + i + 1)) ∧ w'' = w := by
  have g1 : decide (i < 0) = false := decide_eq_false (by omega)
  have g2 : decide (65534 < i) = false := decide_eq_false (by omega)
  have g3 : decide (g < 0) = false := decide_eq_false (by omega)
  have g4 : decide (16383 < g) = false := decide_eq_false (by omega)
  go_enter Try.func57, Try.ntmps57
  go_wp2
  go_ret
  exact ⟨rfl, rfl⟩
set_option maxHeartbeats 3200000 in
set_option maxRecDepth 100000 in
theorem hit (A : Option Addr) (cap : Nat) (l : List S108) (c lv st k n : Int) (i : Nat) (w : World) (hr : Kd.C k108 w A l.length l) (hlen : l.length ≤ 65535) (hi : i < l.length) (hm : may (l.getD i z108) = true) (hf : ∀ j, j < i → may (l.getD j z108) = false) (hg0 : 0 ≤ (l.getD i z108).f2) :
    Calls Try.prog 41 #[.agg #[.slice A l.length cap, .int .i64 c, .int .i64 lv, .int .i64 st], .int .i64 k, .int .i64 n] w fun e w' => ∃ v, e = .returned (.tuple #[.agg #[v, .int .i64 (wrap64 (c + 1)), .int .i64 (wrap64 (lv + 1)), .int .i64 st], .int .i64 ((l.getD i z108).f2 * 65536 + i + 1), .int .i64 0]) ∧ w'.ownsRow w.heap.size 108 5 v l.length (rowR (put l i k n)) ∧ Below w.heap.size w w' := by
  have HR := Lib.hid hr
  have HF := Lib.hid hf
  have HM := Lib.hid hm
  have HH := Lib.hid hg0
  obtain ⟨i0, hi0, hz0, hz1, hz2⟩ := info_parts info108
  clear hr hf hm hg0
  go_enter Try.func41, Try.ntmps41
  go_wp2
  go_loopw [9] (fun i' wr => ∃ j : Nat, j ≤ i ∧ i' = .int .i64 j ∧ wr = (w.alloc (.cells #[.slice A l.length cap, .int .i64 (wrap64 (c + 1)), .int .i64 lv, .int .i64 st] 52)).alloc (.cells #[.slice none 0 0, .int .i64 0, .int .i64 0, .int .i64 0] 52)) (fun i' _ => l.length - (intOf i').toNat)
  case atStart => exact ⟨0, by omega, rfl, rfl⟩
  case round =>
    obtain ⟨j, hj, rfl, rfl⟩ := hrel
    have hlt : j < l.length := by omega
    have hB : Below w.heap.size w ((w.alloc (.cells #[.slice A l.length cap, .int .i64 (wrap64 (c + 1)), .int .i64 lv, .int .i64 st] 52)).alloc (.cells #[.slice none 0 0, .int .i64 0, .int .i64 0, .int .i64 0] 52)) := below_alloc (below_alloc (Below.refl _ _) _) _
    obtain ⟨ad, eA, x0, x1, x2, x3, x4⟩ := at_T108 HR.out (j : Int) (by omega) (by omega)
    rw [Int.toNat_natCast] at x0 x1 x2 x3 x4
    have ex : rd_T108 l (j : Int) = l.getD j z108 := by unfold rd_T108; rw [Int.toNat_natCast]
    rw [ex] at x0 x1 x2 x3 x4
    have y0 := (hB.cell (World.block_lt_of_cell? _ _ x0)).trans x0
    have y2 := (hB.cell (World.block_lt_of_cell? _ _ x2)).trans x2
    clear x0 x1 x2 x3 x4 ex
    by_cases hji : j = i
    · subst hji
      obtain ⟨x, hx⟩ : ∃ x, l.getD j z108 = x := ⟨_, rfl⟩
      have HX := Lib.hid hx
      have HXV := Lib.hid (congrArg S108.f2 hx)
      have hm := HM.out
      have hh := HH.out
      rw [hx] at y0 y2 hm hh
      subst eA
      unfold may at hm
      rw [Bool.and_eq_true, decide_eq_true_eq, decide_eq_true_eq] at hm
      have g0 : (x.f0 == 0) = true := by simp [hm.1]
      have g2 : decide (x.f2 ≤ 16383) = true := decide_eq_true hm.2
      have hm2 := hm.2
      clear hm hx HM HH
      have hB3 := below_alloc hB (.cells #[] 108)
      have hK0 := blk_alloc (blk_alloc (blk_new w (.cells #[.slice (some ad) l.length cap, .int .i64 (wrap64 (c + 1)), .int .i64 lv, .int .i64 st] 52)) (.cells #[.slice none 0 0, .int .i64 0, .int .i64 0, .int .i64 0] 52)) (.cells #[] 108)
      have hK1 := blk_alloc (blk_new (w.alloc (.cells #[.slice (some ad) l.length cap, .int .i64 (wrap64 (c + 1)), .int .i64 lv, .int .i64 st] 52)) (.cells #[.slice none 0 0, .int .i64 0, .int .i64 0, .int .i64 0] 52)) (.cells #[] 108)
      have hK2 := blk_new ((w.alloc (.cells #[.slice (some ad) l.length cap, .int .i64 (wrap64 (c + 1)), .int .i64 lv, .int .i64 st] 52)).alloc (.cells #[.slice none 0 0, .int .i64 0, .int .i64 0, .int .i64 0] 52)) (.cells #[] 108)
      have hsz : ((w.alloc (.cells #[.slice (some ad) l.length cap, .int .i64 (wrap64 (c + 1)), .int .i64 lv, .int .i64 st] 52)).alloc (.cells #[.slice none 0 0, .int .i64 0, .int .i64 0, .int .i64 0] 52)).heap.size = w.heap.size + 1 + 1 := by simp
      rw [hsz] at hK2
      have hsz1 : (w.alloc (.cells #[.slice (some ad) l.length cap, .int .i64 (wrap64 (c + 1)), .int .i64 lv, .int .i64 st] 52)).heap.size = w.heap.size + 1 := by simp
      rw [hsz1] at hK1
      have HK0 := Lib.hid hK0
      have HK1 := Lib.hid hK1
      have HK2 := Lib.hid hK2
      have HB3 := Lib.hid hB3
      have HR3 := Lib.hid (reads_row (Kd.C_below HR.out hB3))
      clear hK0 hK1 hK2 hsz hsz1 hB3 hB
      go_wp2_with (at_builtin; refine copy_C rfl _ _ rfl w.heap.size (w.heap.size + 1 + 1) HK2.out (by omega) ad cap l HR3.out (by omega) hlen HB3.out HB3.out.size rfl rfl ?_)
      intro g cp tl w7 hg hbg hcp hcm hlt2 hB7 hgrow
      have k0 := blk_grown HK0.out hgrow (by intro e; injection e with e; omega)
      have k1 := blk_grown HK1.out hgrow (by intro e; injection e with e; omega)
      have q0 := (blk_cell k0 0).trans rfl
      have q1 := (blk_cell k0 1).trans rfl
      have q2 := (blk_cell k0 2).trans rfl
      have q3 := (blk_cell k0 3).trans rfl
      have z0 := blk_frozen k0 0
      have z2 := blk_frozen k0 2
      have p0 := (blk_cell k1 0).trans rfl
      have p1 := (blk_cell k1 1).trans rfl
      have p2 := (blk_cell k1 2).trans rfl
      have p3 := (blk_cell k1 3).trans rfl
      have t0 := blk_frozen k1 0
      have t1 := blk_frozen k1 1
      have t2 := blk_frozen k1 2
      have t3 := blk_frozen k1 3
      have n0 : g ≠ w.heap.size := blk_ne hg k0 (by decide)
      have n1 : g ≠ w.heap.size + 1 := blk_ne hg k1 (by decide)
      have n0' := Ne.symm n0
      have n1' := Ne.symm n1
      have hrow : ∀ q, q < 5 → w7.cell? ⟨g, j * 5 + q, none⟩ = (cel x)[q]? := fun q hq => by
        rw [blk_cell hg, List.getElem?_toArray, List.getElem?_append_left (by rw [rowR_len]; omega), rowR_get l j q x (by rw [← HX.out, List.getD_eq_getElem?_getD, List.getElem?_eq_getElem hlt]; rfl) hq]
      have r0 : w7.cell? ⟨g, j * 5, none⟩ = some (.int .i64 x.f0) := hrow 0 (by omega)
      have r1 : w7.cell? ⟨g, j * 5 + 1, none⟩ = some (.int .i64 x.f1) := hrow 1 (by omega)
      have r2 : w7.cell? ⟨g, j * 5 + 2, none⟩ = some (.int .i64 x.f2) := hrow 2 (by omega)
      have f0 := blk_frozen hg (j * 5)
      have f1 := blk_frozen hg (j * 5 + 1)
      have HG := Lib.hid hg
      have HKK0 := Lib.hid k0
      have HKK1 := Lib.hid k1
      clear hgrow hrow hg k0 k1
      have hjr : j * 5 < (rowR l).length := by rw [rowR_len]; omega
      have hs1 := (rowR_set l j hlt k 0).1
      have hlt' : j < (l.set j { l.getD j z108 with f0 := k }).length := by rw [List.length_set]; exact hlt
      have hs2 := (rowR_set (l.set j { l.getD j z108 with f0 := k }) j hlt' 0 n).2
      rw [← put_eq l j k n hlt] at hs2
      have hjr2 : j * 5 + 1 < (rowR (l.set j { l.getD j z108 with f0 := k })).length := by rw [rowR_len, List.length_set]; omega
      obtain ⟨W8, hW8⟩ : ∃ W, W = (((w7.setCell ⟨w.heap.size, 0, none⟩ (.slice (some ⟨g, 0, none⟩) l.length cp)).setCell ⟨g, j * 5, none⟩ (.int .i64 k)).setCell ⟨g, j * 5 + 1, none⟩ (.int .i64 n)).setCell ⟨w.heap.size, 2, none⟩ (.int .i64 (wrap64 (lv + 1))) := ⟨_, rfl⟩
      have K0 : W8.heap[w.heap.size]? = some (.cells #[.slice (some ⟨g, 0, none⟩) l.length cp, .int .i64 (wrap64 (c + 1)), .int .i64 (wrap64 (lv + 1)), .int .i64 st] 52 (0, 0)) := by
        rw [hW8]
        exact blk_put (blk_far (blk_far (blk_put HKK0.out 0 _ rfl) n0' _) n0' _) 2 _ rfl
      have K1 : W8.heap[w.heap.size + 1]? = some (.cells #[.slice none 0 0, .int .i64 0, .int .i64 0, .int .i64 0] 52 (0, 0)) := by
        rw [hW8]
        exact blk_far (blk_far (blk_far (blk_far HKK1.out (by simp) _) n1' _) n1' _) (by simp) _
      have KG : W8.heap[g]? = some (.cells (rowR (put l j k n) ++ tl).toArray 108 (0, 0)) := by
        rw [hW8]
        refine blk_far (blk_put (blk_put (blk_far HG.out n0 _) (j * 5) (.int .i64 k) (row_put _ _ _ _ hjr)) (j * 5 + 1) (.int .i64 n) ?_) n0 _
        rw [hs1, row_put _ _ _ _ hjr2, hs2]
      have hB8 : Below w.heap.size w W8 := by
        rw [hW8]
        exact below_set (below_set (below_set (below_set hB7 (Nat.le_refl _)) hbg) hbg) (Nat.le_refl _)
      clear hs1 hs2 hjr hjr2 hlt'
      go_wp2_with fail
      rw [← hW8]
      clear hW8 q0 q1 q2 q3 z0 z2 p0 p1 p2 p3 t0 t1 t2 t3 r0 r1 r2 f0 f1
      have q0 := (blk_cell K0 0).trans rfl
      have q1 := (blk_cell K0 1).trans rfl
      have q2 := (blk_cell K0 2).trans rfl
      have q3 := (blk_cell K0 3).trans rfl
      have r2 : W8.cell? ⟨g, j * 5 + 2, none⟩ = some (.int .i64 x.f2) := by
        have e : (put l j k n)[j]? = some { x with f0 := k, f1 := n } := by
          unfold put
          rw [List.getElem?_set_self hlt, HX.out]
        rw [blk_cell KG, List.getElem?_toArray, List.getElem?_append_left (by rw [rowR_len]; simp [put]; omega), rowR_get _ j 2 _ e (by omega)]
        rfl
      refine still_tail 9 (by kernel_rfl) (by kernel_rfl) ?_
      simp only [List.take_succ_cons, List.take_zero, List.drop_succ_cons, List.drop_zero]
      repeat (refine wpStill_step (fun K hK => ?_); go_simp; refine hK _ ?_; clear hK K)
      refine wpStill_step (fun K hK => ?_)
      go_simp
      refine ⟨_, handle_calls j x.f2 (by omega) (by omega) hh hm2 _, ?_⟩
      refine hK _ ?_
      clear hK K
      refine wpStill_nil ?_
      have p0 := (blk_cell K1 0).trans rfl
      have p1 := (blk_cell K1 1).trans rfl
      have p2 := (blk_cell K1 2).trans rfl
      have p3 := (blk_cell K1 3).trans rfl
      have t0 := blk_frozen K1 0
      have t1 := blk_frozen K1 1
      have t2 := blk_frozen K1 2
      have t3 := blk_frozen K1 3
      have hxv := HXV.out
      have HP := Lib.hid (show (l.getD j z108).f2 * 65536 + (j : Int) + 1 = x.f2 * 65536 + (j : Int) + 1 from by rw [hxv])
      clear hxv
      go_wp2
      refine bodyPost_ret (v := .tuple #[.agg #[.slice (some ⟨g, 0, none⟩) l.length cp, .int .i64 (wrap64 (c + 1)), .int .i64 (wrap64 (lv + 1)), .int .i64 st], .int .i64 (x.f2 * 65536 + (j : Int) + 1), .int .i64 0]) (by simp [results, Try.results41, go_sem, p0, p1, p2, p3]) rfl ⟨_, by rw [HP.out], ?_, ?_⟩
      · refine own_of_blk5 (tl := tl) (by rw [rowR_len]; simp [put]) hbg (blk_drew (blk_far (blk_far (blk_far (blk_far KG n1 _) n1 _) n1 _) n1 _)) hcp hcm ?_
        simp only [List.length_append, rowR_len] at hlt2 ⊢
        simpa [put] using hlt2
      · exact below_drew (below_set (below_set (below_set (below_set hB8 (by simp)) (by simp)) (by simp)) (by simp))
    · have hm := HF.out j (by omega)
      clear hB
      generalize l.getD j z108 = x at *
      subst eA
      unfold may at hm
      by_cases c0 : x.f0 = 0
      · have g0 : (x.f0 == 0) = true := by simp [c0]
        have g2 : decide (x.f2 ≤ 16383) = false := by simpa [c0] using hm
        clear c0 hm
        go_wp2
        go_roundw
        case rel => exact ⟨j + 1, by omega, by go_num, by first | rfl | trivial⟩
        case measure => simp [intOf]; omega
      · have g0 : (x.f0 == 0) = false := by simp [c0]
        clear c0 hm
        go_wp2
        go_roundw
        case rel => exact ⟨j + 1, by omega, by go_num, by first | rfl | trivial⟩
        case measure => simp [intOf]; omega
end
end Go.Proofs.Ythgbgflpjggpmaa.RefAlloc
