/- The document's register (chapter 15): its functions, by hand. -/
import Derived.Test.YtahnmklofgnagaaRef15
import Derived.IntWalk
namespace Go.Proofs.Ytahnmklofgnagaa.Mem
open Go.RowKit Go.Proofs.YtahnmklofgnagaaW.PrintWords Go.Proofs.YtahnmklofgnagaaW.PrintLast Go.Proofs.Ytahnmklofgnagaa.Tags
set_option linter.unusedVariables false
set_option linter.unusedSimpArgs false
def Rg.slot (r : Rg) (c v : Int) : Rg × Int := if 0 ≤ c ∧ c < (r.S.length : Int) then (⟨r.V, r.S.set c.toNat v, r.P⟩, 0) else (r, 10)
def oldF (c : Int) : Nat → Int → List Int → Int
  | _, n, [] => n
  | i, n, x :: l => oldF c (i + 1) (if (i : Int) ≠ c ∧ 0 ≤ x ∧ x < n then x else n) l
def Rg.oldest (r : Rg) (c : Int) : Int := oldF c 0 1073741825 r.S
def snF : Int → List (Int × Int) → Int
  | n, [] => n
  | n, p :: l => snF (if 0 ≤ p.2 ∧ p.2 < n then p.2 else n) l
def Rg.least (r : Rg) (c : Int) : Int := snF (if r.V < r.oldest c then r.V else r.oldest c) r.P
def Rg.open_ (r : Rg) (v : Int) : Rg × Int × Int :=
  if v < 0 ∨ 1073741824 < v then (r, 0, 10)
  else match r.P.findIdx? (fun p => decide (p.2 < 0)) with
    | some i => (⟨r.V, r.S, r.P.set i ((r.P.getD i (0, 0)).1, v)⟩, (r.P.getD i (0, 0)).1 * 64 + i, 0)
    | none => (r, 0, 3)
def Rg.find (r : Rg) (id : Int) : Int := if id < 0 ∨ (r.P.length : Int) ≤ id % 64 ∨ (r.P.getD (id % 64).toNat (0, 0)).2 < 0 ∨ (r.P.getD (id % 64).toNat (0, 0)).1 ≠ id / 64 then -1 else id % 64
def Rg.close (r : Rg) (id : Int) : Rg × Int := if r.find id < 0 then (r, 2) else (⟨r.V, r.S, r.P.set (id % 64).toNat ((r.P.getD (id % 64).toNat (0, 0)).1 + 1, -1)⟩, 0)
section
variable {w w' w0 : World} {x : Value} {r : Rg}
theorem box3s {g : Nat} {t : TypeId} {a b c : Value} {w : World} (h : w.heap[g]? = some (.cells #[a, b, c] t (0, 0))) : w.cell? ⟨g, 0, none⟩ = some a ∧ w.cell? ⟨g, 1, none⟩ = some b ∧ w.cell? ⟨g, 2, none⟩ = some c := ⟨(blk_cell h 0).trans rfl, (blk_cell h 1).trans rfl, (blk_cell h 2).trans rfl⟩
theorem oldF_step (c : Int) {l : List Int} {k : Nat} (hk : k < l.length) (n : Int) : oldF c k n (l.drop k) = oldF c (k + 1) (if (k : Int) ≠ c ∧ 0 ≤ l.getD k 0 ∧ l.getD k 0 < n then l.getD k 0 else n) (l.drop (k + 1)) := by
  rw [List.drop_eq_getElem_cons hk]
  have e : l.getD k 0 = l[k] := by rw [List.getD_eq_getElem?_getD, List.getElem?_eq_getElem hk]; rfl
  rw [e]
  rfl
theorem snF_step {l : List (Int × Int)} {k : Nat} (hk : k < l.length) (n : Int) : snF n (l.drop k) = snF (if 0 ≤ (l.getD k (0, 0)).2 ∧ (l.getD k (0, 0)).2 < n then (l.getD k (0, 0)).2 else n) (l.drop (k + 1)) := by
  rw [List.drop_eq_getElem_cons hk]
  have e : l.getD k (0, 0) = l[k] := by rw [List.getD_eq_getElem?_getD, List.getElem?_eq_getElem hk]; rfl
  rw [e]
  rfl
set_option maxHeartbeats 3200000 in
set_option maxRecDepth 100000 in
theorem rgoldest_calls (h : RgV w x r) (c : Int) : Calls Try.prog 107 #[x, .int .i64 c] w fun e w' => e = .returned (.int .i64 (r.oldest c)) ∧ Below w.heap.size w w' := by
  obtain ⟨hl1, hl2, vs, vp, rfl, hI, hP⟩ := h
  obtain ⟨A, ca, rfl⟩ := hI.slice
  obtain ⟨B, cb, rfl⟩ := hP.slice
  obtain ⟨V, S, P⟩ := r
  simp only at hl1 hl2 hI hP
  obtain ⟨W, hW⟩ : ∃ W : World, W = w.alloc (.cells #[.int .i64 V, .slice A S.length ca, .slice B P.length cb] 97) := ⟨_, rfl⟩
  have hb : Below w.heap.size w W := hW ▸ below_alloc (Below.refl _ _) _
  have hk : W.heap[w.heap.size]? = some (.cells #[.int .i64 V, .slice A S.length ca, .slice B P.length cb] 97 (0, 0)) := hW ▸ blk_new _ _
  obtain ⟨k0, k1, k2⟩ := box3s hk
  have HI := Lib.hid (hI.below hb)
  have HW := Lib.hid hW
  have HB := Lib.hid hb
  have HO := Lib.hid (show Rg.oldest ⟨V, S, P⟩ c = oldF c 0 1073741825 S from rfl)
  clear hW hb hk hI hP
  go_enter Try.func107, Try.ntmps107
  go_upto_region 1 with fail
  rw [← HW.out]
  clear HW
  go_wp2_with fail
  go_loopw [5, 6] (fun n i wr => ∃ (k : Nat) (z : Int), k ≤ S.length ∧ i = .int .i64 k ∧ n = .int .i64 z ∧ wr = W ∧ Rg.oldest ⟨V, S, P⟩ c = oldF c k z (S.drop k)) (fun _ i _ => S.length - (intOf i).toNat)
  case atStart => exact ⟨0, 1073741825, Nat.zero_le _, rfl, rfl, rfl, HO.out⟩
  case round =>
    obtain ⟨k, z, hk, rfl, rfl, rfl, he⟩ := hrel
    by_cases hlt : k < S.length
    · have g1 : decide ((k : Int) < (S.length : Int)) = true := decide_eq_true (by omega)
      obtain ⟨g, eg, hc⟩ := HI.out.cell k hlt
      subst eg
      have HE := Lib.hid (he.trans (oldF_step c hlt z))
      obtain ⟨y, hy⟩ : ∃ y, S.getD k 0 = y := ⟨_, rfl⟩
      rw [hy] at hc HE
      clear he hy
      by_cases h1 : (k : Int) = c
      · have d1 : ((k : Int) != c) = false := by simp [h1]
        rw [if_neg (by rintro ⟨a, _⟩; exact a h1)] at HE
        have H1 := Lib.hid h1
        clear h1
        go_wp2_with fail
        go_roundw
        case rel => exact ⟨k + 1, z, by omega, by go_num, rfl, by first | rfl | trivial, HE.out⟩
        case measure => simp [intOf]; omega
      · have d1 : ((k : Int) != c) = true := by simp [h1]
        by_cases h2 : 0 ≤ y
        · have d2 : decide (0 ≤ y) = true := decide_eq_true h2
          by_cases h3 : y < z
          · have d3 : decide (y < z) = true := decide_eq_true h3
            rw [if_pos ⟨h1, h2, h3⟩] at HE
            go_wp2_with fail
            go_roundw
            case rel => exact ⟨k + 1, y, by omega, by go_num, rfl, by first | rfl | trivial, HE.out⟩
            case measure => simp [intOf]; omega
          · have d3 : decide (y < z) = false := decide_eq_false h3
            rw [if_neg (by rintro ⟨_, _, a⟩; exact h3 a)] at HE
            go_wp2_with fail
            go_roundw
            case rel => exact ⟨k + 1, z, by omega, by go_num, rfl, by first | rfl | trivial, HE.out⟩
            case measure => simp [intOf]; omega
        · have d2 : decide (0 ≤ y) = false := decide_eq_false h2
          rw [if_neg (by rintro ⟨_, a, _⟩; exact h2 a)] at HE
          go_wp2_with fail
          go_roundw
          case rel => exact ⟨k + 1, z, by omega, by go_num, rfl, by first | rfl | trivial, HE.out⟩
          case measure => simp [intOf]; omega
    · obtain rfl : k = S.length := by omega
      have g1 : decide ((S.length : Int) < (S.length : Int)) = false := decide_eq_false (by omega)
      rw [List.drop_length] at he
      have HE := Lib.hid (show Rg.oldest ⟨V, S, P⟩ c = z from he)
      clear he
      go_wp2_with fail
      go_ret
      rw [HE.out]
      exact ⟨rfl, HB.out⟩
set_option maxHeartbeats 3200000 in
set_option maxRecDepth 100000 in
theorem rgleast_calls (h : RgV w x r) (c : Int) : Calls Try.prog 106 #[x, .int .i64 c] w fun e w' => e = .returned (.int .i64 (r.least c)) ∧ Below w.heap.size w w' := by
  have h' := h
  obtain ⟨hl1, hl2, vs, vp, rfl, hI, hP⟩ := h
  obtain ⟨A, ca, rfl⟩ := hI.slice
  obtain ⟨B, cb, rfl⟩ := hP.slice
  obtain ⟨W, hW⟩ : ∃ W : World, W = w.alloc (.cells #[.int .i64 r.V, .slice A r.S.length ca, .slice B r.P.length cb] 97) := ⟨_, rfl⟩
  have hb : Below w.heap.size w W := hW ▸ below_alloc (Below.refl _ _) _
  have hk : W.heap[w.heap.size]? = some (.cells #[.int .i64 r.V, .slice A r.S.length ca, .slice B r.P.length cb] 97 (0, 0)) := hW ▸ blk_new _ _
  obtain ⟨k0, k1, k2⟩ := box3s hk
  have HCALL := Lib.hid (rgoldest_calls (h'.below hb) c)
  have HP := Lib.hid (hP.below hb)
  have HW := Lib.hid hW
  have HB := Lib.hid hb
  have HK := Lib.hid hk
  have HO := Lib.hid (show r.least c = snF (if r.V < r.oldest c then r.V else r.oldest c) r.P from rfl)
  obtain ⟨V, S, P⟩ := r
  obtain ⟨od, hod⟩ : ∃ y, Rg.oldest ⟨V, S, P⟩ c = y := ⟨_, rfl⟩
  rw [hod] at HCALL HO
  simp only at hl1 hl2 HCALL HP HW HK HO k0 k1 k2
  clear hW hb hk hI hP h' hod
  go_enter Try.func106, Try.ntmps106
  go_upto_region 1 with fail
  rw [← HW.out]
  clear HW
  go_wp2_with fail
  refine HCALL.out.mono ?_
  clear HCALL
  rintro e W2 ⟨rfl, hb2⟩
  have hk2 := blk_below HK.out hb2
  have HP2 := Lib.hid (HP.out.below hb2)
  have HB2 := Lib.hid (below_then HB.out HB.out.size hb2)
  clear k0 k1 k2 HK HP HB hb2
  obtain ⟨k0, k1, k2⟩ := box3s hk2
  have HK2 := Lib.hid hk2
  clear hk2
  by_cases hv : V < od
  all_goals
    first | (have gv : decide (V < od) = true := decide_eq_true hv; rw [if_pos hv] at HO) | (have gv : decide (V < od) = false := decide_eq_false hv; rw [if_neg hv] at HO)
    have HV := Lib.hid hv
    clear hv
    go_wp2_with fail
    go_loopw [5, 6] (fun n i wr => ∃ (k : Nat) (z : Int), k ≤ P.length ∧ i = .int .i64 k ∧ n = .int .i64 z ∧ wr = W2 ∧ Rg.least ⟨V, S, P⟩ c = snF z (P.drop k)) (fun _ i _ => P.length - (intOf i).toNat)
    case atStart => exact ⟨0, _, Nat.zero_le _, rfl, rfl, rfl, HO.out⟩
    case round =>
      obtain ⟨k, z, hk, rfl, rfl, rfl, he⟩ := hrel
      by_cases hlt : k < P.length
      · have g1 : decide ((k : Int) < (P.length : Int)) = true := decide_eq_true (by omega)
        obtain ⟨g, eg, hc0, hc⟩ := HP2.out.cell k hlt
        subst eg
        have HE := Lib.hid (he.trans (snF_step hlt z))
        obtain ⟨y0, hy0⟩ : ∃ y, P.getD k (0, 0) = y := ⟨_, rfl⟩
        rw [hy0] at hc hc0 HE
        obtain ⟨y, hy⟩ : ∃ q, y0.2 = q := ⟨_, rfl⟩
        rw [hy] at hc HE
        clear he hy hy0 hc0
        by_cases h2 : 0 ≤ y
        · have d2 : decide (0 ≤ y) = true := decide_eq_true h2
          by_cases h3 : y < z
          · have d3 : decide (y < z) = true := decide_eq_true h3
            rw [if_pos ⟨h2, h3⟩] at HE
            go_wp2_with fail
            go_roundw
            case rel => exact ⟨k + 1, y, by omega, by go_num, rfl, by first | rfl | trivial, HE.out⟩
            case measure => simp [intOf]; omega
          · have d3 : decide (y < z) = false := decide_eq_false h3
            rw [if_neg (by rintro ⟨_, a⟩; exact h3 a)] at HE
            go_wp2_with fail
            go_roundw
            case rel => exact ⟨k + 1, z, by omega, by go_num, rfl, by first | rfl | trivial, HE.out⟩
            case measure => simp [intOf]; omega
        · have d2 : decide (0 ≤ y) = false := decide_eq_false h2
          rw [if_neg (by rintro ⟨a, _⟩; exact h2 a)] at HE
          go_wp2_with fail
          go_roundw
          case rel => exact ⟨k + 1, z, by omega, by go_num, rfl, by first | rfl | trivial, HE.out⟩
          case measure => simp [intOf]; omega
      · obtain rfl : k = P.length := by omega
        have g1 : decide ((P.length : Int) < (P.length : Int)) = false := decide_eq_false (by omega)
        rw [List.drop_length] at he
        have HE := Lib.hid (show Rg.least ⟨V, S, P⟩ c = z from he)
        clear he
        go_wp2_with fail
        go_ret
        rw [HE.out]
        exact ⟨rfl, HB2.out⟩
set_option maxHeartbeats 3200000 in
set_option maxRecDepth 100000 in
theorem rgfind_calls (h : RgV w x r) (id : Int) (hid : id ≤ 9223372036854775807) : Calls Try.prog 104 #[x, .int .i64 id] w fun e w' => e = .returned (.int .i64 (r.find id)) ∧ Below w.heap.size w w' := by
  obtain ⟨hl1, hl2, vs, vp, rfl, hI, hP⟩ := h
  obtain ⟨A, ca, rfl⟩ := hI.slice
  obtain ⟨B, cb, rfl⟩ := hP.slice
  obtain ⟨V, S, P⟩ := r
  simp only at hl1 hl2 hI hP
  obtain ⟨W, hW⟩ : ∃ W : World, W = w.alloc (.cells #[.int .i64 V, .slice A S.length ca, .slice B P.length cb] 97) := ⟨_, rfl⟩
  have hb : Below w.heap.size w W := hW ▸ below_alloc (Below.refl _ _) _
  have hk : W.heap[w.heap.size]? = some (.cells #[.int .i64 V, .slice A S.length ca, .slice B P.length cb] 97 (0, 0)) := hW ▸ blk_new _ _
  obtain ⟨k0, k1, k2⟩ := box3s hk
  have HP := Lib.hid (hP.below hb)
  have HW := Lib.hid hW
  have HB := Lib.hid hb
  clear hW hb hk hI hP
  by_cases h0 : id < 0
  · have g0 : decide (id < 0) = true := decide_eq_true h0
    have HF := Lib.hid (show Rg.find ⟨V, S, P⟩ id = -1 from if_pos (Or.inl h0))
    clear h0
    go_enter Try.func104, Try.ntmps104
    go_upto_region 1 with fail
    rw [← HW.out]
    clear HW
    go_wp2_with fail
    go_ret
    rw [HF.out]
    exact ⟨rfl, HB.out⟩
  · have g0 : decide (id < 0) = false := decide_eq_false h0
    have h0' : 0 ≤ id := by omega
    by_cases h1 : (P.length : Int) ≤ id % 64
    · have g1 : decide ((P.length : Int) ≤ id % 64) = true := decide_eq_true h1
      have HF := Lib.hid (show Rg.find ⟨V, S, P⟩ id = -1 from if_pos (Or.inr (Or.inl h1)))
      clear h1
      go_enter Try.func104, Try.ntmps104
      go_upto_region 1 with fail
      rw [← HW.out]
      clear HW
      go_wp2_with fail
      go_ret
      rw [HF.out]
      exact ⟨rfl, HB.out⟩
    · have g1 : decide ((P.length : Int) ≤ id % 64) = false := decide_eq_false h1
      obtain ⟨k, hk⟩ : ∃ k : Nat, id % 64 = (k : Int) := ⟨(id % 64).toNat, by omega⟩
      obtain ⟨q, hq⟩ : ∃ q : Int, id / 64 = q := ⟨_, rfl⟩
      have hkP : k < P.length := by omega
      have hF0 : Rg.find ⟨V, S, P⟩ id = if (P.getD k (0, 0)).2 < 0 ∨ (P.getD k (0, 0)).1 ≠ q then -1 else (k : Int) := by
        unfold Rg.find
        simp only [hk, hq, Int.toNat_natCast]
        by_cases c : (P.getD k (0, 0)).2 < 0 ∨ (P.getD k (0, 0)).1 ≠ q
        · rw [if_pos c, if_pos (Or.inr (Or.inr c))]
        · rw [if_neg c, if_neg (by rintro (a | a | a); exact h0 a; omega; exact c a)]
      obtain ⟨g, eg, hc0, hc1⟩ := HP.out.cell k hkP
      subst eg
      obtain ⟨⟨pg, pv⟩, hp⟩ : ∃ y, P.getD k (0, 0) = y := ⟨_, rfl⟩
      rw [hp] at hc0 hc1 hF0
      simp only at hc0 hc1 hF0
      rw [hk] at g1
      have t1 : id.tmod 64 = (k : Int) := by rw [Int.tmod_eq_emod_of_nonneg h0']; exact hk
      have t2 : id.tdiv 64 = q := by rw [Int.tdiv_eq_ediv_of_nonneg h0']; exact hq
      have HF := Lib.hid hF0
      have g1' : decide (P.length ≤ k) = false := decide_eq_false (by omega)
      have hw : wrap64 q = q := by unfold wrap64; omega
      have d1 : decide ((k : Int) < 0) = false := decide_eq_false (by omega)
      have d3 : decide ((k : Int) < (P.length : Int)) = true := decide_eq_true (by omega)
      have d4 : decide (k < P.length) = true := decide_eq_true hkP
      have d5 : (k : Int) < (P.length : Int) := by omega
      clear h1 h0 hF0 hp
      by_cases h2 : pv < 0
      · have g2 : decide (pv < 0) = true := decide_eq_true h2
        rw [if_pos (Or.inl h2)] at HF
        clear h2
        go_enter Try.func104, Try.ntmps104
        go_upto_region 1 with fail
        rw [← HW.out]
        clear HW
        go_wp2_with fail
        go_ret
        rw [HF.out]
        exact ⟨rfl, HB.out⟩
      · have g2 : decide (pv < 0) = false := decide_eq_false h2
        by_cases h3 : pg = q
        · have g3 : (pg != q) = false := by simp [h3]
          rw [if_neg (by rintro (a | a); exact h2 a; exact a h3)] at HF
          have H3 := Lib.hid h3
          clear h2 h3
          go_enter Try.func104, Try.ntmps104
          go_upto_region 1 with fail
          rw [← HW.out]
          clear HW
          go_wp2_with fail
          go_ret
          rw [HF.out]
          exact ⟨rfl, HB.out⟩
        · have g3 : (pg != q) = true := by simp [h3]
          rw [if_pos (Or.inr h3)] at HF
          clear h2 h3
          go_enter Try.func104, Try.ntmps104
          go_upto_region 1 with fail
          rw [← HW.out]
          clear HW
          go_wp2_with fail
          go_ret
          rw [HF.out]
          exact ⟨rfl, HB.out⟩
theorem OwnI.put {base g cp : Nat} {xs : List Int} (h : OwnI w base (.slice (some ⟨g, 0, none⟩) xs.length cp) xs) (j : Nat) (y : Int) : OwnI (w.setCell ⟨g, j, none⟩ (.int .i64 y)) base (.slice (some ⟨g, 0, none⟩) (xs.set j y).length cp) (xs.set j y) := by
  obtain ⟨a, b⟩ := World.ownsRow.stored h j (.int .i64 y)
  unfold OwnI
  rw [List.length_set, List.map_set]
  exact a
theorem OwnS.put2 {base g cp : Nat} {P : List (Int × Int)} (h : OwnS w base (.slice (some ⟨g, 0, none⟩) P.length cp) P) (j : Nat) (p : Int × Int) (hj : j < P.length) : OwnS ((w.setCell ⟨g, j * 2, none⟩ (.int .i64 p.1)).setCell ⟨g, j * 2 + 1, none⟩ (.int .i64 p.2)) base (.slice (some ⟨g, 0, none⟩) (P.set j p).length cp) (P.set j p) := by
  have a := (World.ownsRow.stored h (j * 2) (.int .i64 p.1)).1
  have b := (World.ownsRow.stored a (j * 2 + 1) (.int .i64 p.2)).1
  unfold OwnS
  rw [List.length_set, rowS_set P j p hj]
  exact b
theorem OwnS.put1 {base g cp : Nat} {P : List (Int × Int)} (h : OwnS w base (.slice (some ⟨g, 0, none⟩) P.length cp) P) (j : Nat) (y : Int) (hj : j < P.length) : OwnS (w.setCell ⟨g, j * 2 + 1, none⟩ (.int .i64 y)) base (.slice (some ⟨g, 0, none⟩) (P.set j ((P.getD j (0, 0)).1, y)).length cp) (P.set j ((P.getD j (0, 0)).1, y)) := by
  have b := (World.ownsRow.stored h (j * 2 + 1) (.int .i64 y)).1
  have hj2 : j * 2 < (rowS P).length := by rw [rowS_len]; omega
  have e : (rowS P).set (j * 2) (.int .i64 (P.getD j (0, 0)).1) = rowS P := by
    apply List.ext_getElem?
    intro i
    by_cases c : i = j * 2
    · rw [c, List.getElem?_set_self hj2]
      exact (rowS_get P j hj).1.symm
    · rw [List.getElem?_set_ne (Ne.symm c)]
  unfold OwnS
  rw [List.length_set, rowS_set P j _ hj]
  simp only
  rw [e]
  exact b
abbrev set3r (w : World) (b : Nat) (v0 v1 v2 : Value) : World := ((w.setCell ⟨b, 0, none⟩ v0).setCell ⟨b, 1, none⟩ v1).setCell ⟨b, 2, none⟩ v2
theorem only3r (w : World) (b : Nat) (v0 v1 v2 : Value) : Only w (set3r w b v0 v1 v2) b := ((Only.set w ⟨b, 0, none⟩ v0).trans (Only.set _ ⟨b, 1, none⟩ v1)).trans (Only.set _ ⟨b, 2, none⟩ v2)
theorem blk3r {b : Nat} {t : TypeId} {a0 a1 a2 : Value} (h : w.heap[b]? = some (.cells #[a0, a1, a2] t (0, 0))) (v0 v1 v2 : Value) : (set3r w b v0 v1 v2).heap[b]? = some (.cells #[v0, v1, v2] t (0, 0)) := blk_put (blk_put (blk_put h 0 v0 rfl) 1 v1 rfl) 2 v2 rfl
theorem bel_only {B b : Nat} (h : Below B w0 w) (k : Only w w' b) (hb : B ≤ b) : Below B w0 w' := ⟨k.os.trans h.os, k.tape.trans h.tape, k.output.trans h.output, by rw [k.size]; exact h.size, fun i hi => (k.block i (by omega)).trans (h.block i hi)⟩
/-- Two boxes, made one behind the other. -/
theorem boxed2 (w : World) (V : Int) (u v : Value) : ∃ W, W = (w.alloc (.cells #[.int .i64 V, u, v] 97)).alloc (.cells #[.int .i64 0, .slice none 0 0, .slice none 0 0] 97) ∧
    W.heap[w.heap.size]? = some (.cells #[.int .i64 V, u, v] 97 (0, 0)) ∧ W.heap[w.heap.size + 1]? = some (.cells #[.int .i64 0, .slice none 0 0, .slice none 0 0] 97 (0, 0)) ∧ Below w.heap.size w W ∧ W.heap.size = w.heap.size + 2 := by
  refine ⟨_, rfl, blk_alloc (blk_new _ _) _, ?_, below_alloc (below_alloc (Below.refl _ _) _) _, by simp⟩
  have e : w.heap.size + 1 = (w.alloc (.cells #[.int .i64 V, u, v] 97)).heap.size := by simp
  rw [e]
  exact blk_new _ _
set_option maxHeartbeats 3200000 in
set_option maxRecDepth 100000 in
theorem rgslot_calls (h : RgV w x r) (c v : Int) : Calls Try.prog 101 #[x, .int .i64 c, .int .i64 v] w fun e w' => ∃ x', e = .returned (.tuple #[x', .int .i64 (r.slot c v).2]) ∧ RgV w' x' (r.slot c v).1 ∧ Below w.heap.size w w' ∧ ∀ V0 vs0 vp0, x = .agg #[V0, vs0, vp0] → ∃ vs1 vp1, x' = .agg #[V0, vs1, vp1] ∧ (vs1.ownBlock = vs0.ownBlock ∨ ∃ g, vs1.ownBlock = some g ∧ w.heap.size ≤ g) := by
  have h' := h
  obtain ⟨hl1, hl2, vs, vp, rfl, hI, hP⟩ := h
  obtain ⟨A, ca, rfl⟩ := hI.slice
  obtain ⟨B, cb, rfl⟩ := hP.slice
  obtain ⟨V, S, P⟩ := r
  simp only at hl1 hl2 hI hP
  obtain ⟨W, hW, hk3, hk6, hb, hsz⟩ := boxed2 w V (.slice A S.length ca) (.slice B P.length cb)
  obtain ⟨k0, k1, k2⟩ := box3s hk3
  obtain ⟨p0, p1, p2⟩ := box3s hk6
  have z0 := blk_frozen hk6 0
  have z1 := blk_frozen hk6 1
  have z2 := blk_frozen hk6 2
  by_cases hc : 0 ≤ c ∧ c < (S.length : Int)
  · obtain ⟨hc0, hc1⟩ := hc
    have HS := Lib.hid (show Rg.slot ⟨V, S, P⟩ c v = (⟨V, S.set c.toNat v, P⟩, 0) from if_pos ⟨hc0, hc1⟩)
    obtain ⟨k, hk⟩ : ∃ k : Nat, c = (k : Int) := ⟨c.toNat, by omega⟩
    subst hk
    rw [Int.toNat_natCast] at HS
    have hkS : k < S.length := by omega
    have g1 : decide ((k : Int) < 0) = false := decide_eq_false (by omega)
    have g2 : decide ((S.length : Int) ≤ (k : Int)) = false := decide_eq_false (by omega)
    have g3 : decide (S.length ≤ k) = false := decide_eq_false (by omega)
    have g4 : decide ((k : Int) < (S.length : Int)) = true := decide_eq_true (by omega)
    obtain ⟨g0, eg, _⟩ := hI.cell k hkS
    subst eg
    have hb2 : Below W.heap.size W (W.alloc (.cells #[] 3)) := below_alloc (Below.refl _ _) _
    have HW := Lib.hid hW
    have HB2 := Lib.hid (below_then hb hb.size hb2)
    have HI2 := Lib.hid ((hI.below hb).below hb2)
    have HP2 := Lib.hid ((hP.below hb).below hb2)
    have HK3 := Lib.hid (blk_below hk3 hb2)
    have HK6 := Lib.hid (blk_below hk6 hb2)
    have HD := Lib.hid (blk_new W (.cells #[] 3))
    have HSZ := Lib.hid hsz
    obtain ⟨m0, m1, m2⟩ := box3s (blk_below hk3 hb2)
    clear hI hP h' hW hb hsz hk3 hk6 hb2 p0 p1 p2 z0 z1 z2 hc1
    go_enter Try.func101, Try.ntmps101
    go_upto_region 1 with fail
    rw [← HW.out]
    clear HW
    go_upto_region 3 with fail
    go_wp2_with (at_builtin; refine copy_own (w0 := w) rfl _ _ 25 3 (.int .i64 0) 1 8 rfl Try.underlying25 int_info rfl (by decide) (by decide) w.heap.size W.heap.size HD.out (by have := HSZ.out; omega) HI2.out (by intro u hu; simp at hu; obtain ⟨_, _, rfl⟩ := hu; rfl) (by omega) (by omega) HB2.out HB2.out.size rfl rfl ?_)
    intro g cp w7 hO7 hbg hB7 hg7
    have hk37 := blk_grown HK3.out hg7 (by intro e; injection e with e; have := HSZ.out; omega)
    have hk67 := blk_grown HK6.out hg7 (by intro e; injection e with e; have := HSZ.out; omega)
    have hP7 : OwnS w7 0 (.slice B P.length cb) P := HP2.out.move fun i hi => hg7.block i (by obtain ⟨_, hc⟩ := own_typed HP2.out i hi; exact blk_lt hc) (fun e => HP2.out.ne HD.out (by decide) (by rw [hi]; exact e.symm))
    obtain ⟨cur7, hg7k⟩ := own_typed hO7 g rfl
    have ng3 : w.heap.size ≠ g := blk_ne hk37 hg7k (by decide)
    have ng6 : w.heap.size + 1 ≠ g := blk_ne hk67 hg7k (by decide)
    have hOI : OwnI w7 w.heap.size (.slice (some ⟨g, 0, none⟩) S.length cp) S := hO7
    obtain ⟨_, e9, u0⟩ := hOI.cell k hkS
    injection e9 with e9
    injection e9 with e9
    subst e9
    have f0 := World.ownsRow.frozenAt hO7 k
    obtain ⟨W8, hW8⟩ : ∃ y : World, y = (w7.setCell ⟨w.heap.size, 1, none⟩ (.slice (some ⟨g, 0, none⟩) S.length cp)).setCell ⟨g, k, none⟩ (.int .i64 v) := ⟨_, rfl⟩
    have hO1 : Only w7 (w7.setCell ⟨w.heap.size, 1, none⟩ (.slice (some ⟨g, 0, none⟩) S.length cp)) w.heap.size := Only.set _ _ _
    have hO2 : Only (w7.setCell ⟨w.heap.size, 1, none⟩ (.slice (some ⟨g, 0, none⟩) S.length cp)) W8 g := hW8 ▸ Only.set _ _ _
    have K3 : W8.heap[w.heap.size]? = some (.cells #[.int .i64 V, .slice (some ⟨g, 0, none⟩) S.length cp, .slice B P.length cb] 97 (0, 0)) := (hO2.block _ ng3).trans (blk_put hk37 1 _ rfl)
    have K6 : W8.heap[w.heap.size + 1]? = some (.cells #[.int .i64 0, .slice none 0 0, .slice none 0 0] 97 (0, 0)) := (hO2.block _ ng6).trans ((hO1.block _ (by omega)).trans hk67)
    have hI8 : OwnI W8 w.heap.size (.slice (some ⟨g, 0, none⟩) (S.set k v).length cp) (S.set k v) := by
      rw [hW8]
      exact OwnI.put (hOI.only1 hO1 hk37 (by decide)) k v
    have hP8 : OwnS W8 0 (.slice B P.length cb) P := (hP7.only hO1 hk37 (by decide)).only hO2 ((hO1.block g (Ne.symm ng3)).trans hg7k) (by decide)
    have hB8 : Below w.heap.size w W8 := bel_only (bel_only hB7 hO1 (Nat.le_refl _)) hO2 hbg
    obtain ⟨W9, hW9⟩ : ∃ y : World, y = set3r W8 (w.heap.size + 1) (.int .i64 V) (.slice (some ⟨g, 0, none⟩) S.length cp) (.slice B P.length cb) := ⟨_, rfl⟩
    have hO9 : Only W8 W9 (w.heap.size + 1) := hW9 ▸ only3r _ _ _ _ _
    have K69 : W9.heap[w.heap.size + 1]? = some (.cells #[.int .i64 V, .slice (some ⟨g, 0, none⟩) S.length cp, .slice B P.length cb] 97 (0, 0)) := hW9 ▸ blk3r K6 _ _ _
    have hI9 := hI8.only1 hO9 K6 (by decide)
    have hP9 := hP8.only hO9 K6 (by decide)
    rw [List.length_set] at hI9
    have FIN := Lib.hid (show RgV W9 (.agg #[.int .i64 V, .slice (some ⟨g, 0, none⟩) S.length cp, .slice B P.length cb]) ⟨V, S.set k v, P⟩ ∧ Below w.heap.size w W9 from ⟨⟨by rw [List.length_set]; exact hl1, hl2, _, _, rfl, OwnI.lower hI9 (Nat.zero_le _), hP9⟩, bel_only hB8 hO9 (Nat.le_succ _)⟩)
    obtain ⟨a0, a1, a2⟩ := box3s hk37
    obtain ⟨c0, c1, c2⟩ := box3s (blk_put hk37 1 (.slice (some ⟨g, 0, none⟩) S.length cp) rfl)
    have y1 := blk_frozen hk37 1
    obtain ⟨d0, d1, d2⟩ := box3s K3
    obtain ⟨p0, p1, p2⟩ := box3s K6
    have z0 := blk_frozen K6 0
    have z1 := blk_frozen K6 1
    have z2 := blk_frozen K6 2
    obtain ⟨q0, q1, q2⟩ := box3s K69
    have u1 := (hO1.block g (Ne.symm ng3))
    have u0' : (w7.setCell ⟨w.heap.size, 1, none⟩ (.slice (some ⟨g, 0, none⟩) S.length cp)).cell? ⟨g, k, none⟩ = some (.int .i64 (S.getD k 0)) := (cell_far (p := ⟨w.heap.size, 1, none⟩) (Ne.symm ng3) _).trans u0
    have f0' := World.ownsRow.frozenAt (show (w7.setCell ⟨w.heap.size, 1, none⟩ (.slice (some ⟨g, 0, none⟩) S.length cp)).ownsRow w.heap.size 3 1 (.slice (some ⟨g, 0, none⟩) S.length cp) S.length (S.map (Value.int .i64)) from hOI.only1 hO1 hk37 (by decide)) k
    have HW8 := Lib.hid hW8
    have HBG := Lib.hid hbg
    have HW9 := Lib.hid hW9
    clear hO7 hB7 hg7 hk37 hk67 hP7 hg7k hOI hW8 hO1 hO2 K3 K6 hI8 hP8 hB8 hW9 hO9 K69 hI9 hP9 HB2 HI2 HP2 HK3 HK6 HD HSZ m0 m1 m2 k0 k1 k2 u1
    go_upto_region 4 with fail
    go_upto_region 5 with fail
    rw [← HW8.out]
    clear a0 a1 a2 c0 c1 c2 y1 u0 u0' f0 f0' HW8
    go_wp2_with fail
    unfold set3r at HW9
    rw [← HW9.out]
    rw [HS.out]
    refine bodyPost_ret (v := .tuple #[.agg #[.int .i64 V, .slice (some ⟨g, 0, none⟩) S.length cp, .slice B P.length cb], .int .i64 0]) (by simp [results, Try.results101, go_sem, q0, q1, q2]) rfl ⟨_, rfl, FIN.out.1, FIN.out.2, ?_⟩
    first | exact ⟨_, ⟨_, rfl⟩, Or.inr ⟨g, rfl, HBG.out⟩⟩ | exact ⟨_, _, rfl, Or.inr ⟨g, rfl, HBG.out⟩⟩ | (intro V2 vs2 vp2 e; simp at e; obtain ⟨rfl, rfl, rfl⟩ := e; exact ⟨_, _, rfl, Or.inr ⟨g, rfl, HBG.out⟩⟩)
  · have HS := Lib.hid (show Rg.slot ⟨V, S, P⟩ c v = (⟨V, S, P⟩, 10) from if_neg hc)
    obtain ⟨W9, hW9⟩ : ∃ y : World, y = set3r W (w.heap.size + 1) (.int .i64 V) (.slice A S.length ca) (.slice B P.length cb) := ⟨_, rfl⟩
    have hO9 : Only W W9 (w.heap.size + 1) := hW9 ▸ only3r _ _ _ _ _
    have K69 : W9.heap[w.heap.size + 1]? = some (.cells #[.int .i64 V, .slice A S.length ca, .slice B P.length cb] 97 (0, 0)) := hW9 ▸ blk3r hk6 _ _ _
    have FIN := Lib.hid (show RgV W9 (.agg #[.int .i64 V, .slice A S.length ca, .slice B P.length cb]) ⟨V, S, P⟩ ∧ Below w.heap.size w W9 from ⟨(h'.below hb).only hO9 hk6 (by decide) (by decide), bel_only hb hO9 (Nat.le_succ _)⟩)
    obtain ⟨q0, q1, q2⟩ := box3s K69
    have HW := Lib.hid hW
    have HW9 := Lib.hid hW9
    have HC := Lib.hid hc
    unfold set3r at HW9
    clear hI hP h' hW hb hsz hk3 hk6 hW9 hO9 K69 hc
    by_cases h0 : c < 0
    · have g1 : decide (c < 0) = true := decide_eq_true h0
      clear h0
      go_enter Try.func101, Try.ntmps101
      go_upto_region 1 with fail
      rw [← HW.out]
      clear HW
      go_wp2_with fail
      rw [← HW9.out]
      rw [HS.out]
      refine bodyPost_ret (v := .tuple #[.agg #[.int .i64 V, .slice A S.length ca, .slice B P.length cb], .int .i64 10]) (by simp [results, Try.results101, go_sem, q0, q1, q2]) rfl ⟨_, rfl, FIN.out.1, FIN.out.2, ?_⟩
      first | exact ⟨_, ⟨_, rfl⟩, Or.inl rfl⟩ | exact ⟨_, _, rfl, Or.inl rfl⟩ | (intro V2 vs2 vp2 e; simp at e; obtain ⟨rfl, rfl, rfl⟩ := e; exact ⟨_, _, rfl, Or.inl rfl⟩)
    · have g1 : decide (c < 0) = false := decide_eq_false h0
      have g2 : decide ((S.length : Int) ≤ c) = true := decide_eq_true (by have := HC.out; omega)
      clear h0
      go_enter Try.func101, Try.ntmps101
      go_upto_region 1 with fail
      rw [← HW.out]
      clear HW
      go_wp2_with fail
      rw [← HW9.out]
      rw [HS.out]
      refine bodyPost_ret (v := .tuple #[.agg #[.int .i64 V, .slice A S.length ca, .slice B P.length cb], .int .i64 10]) (by simp [results, Try.results101, go_sem, q0, q1, q2]) rfl ⟨_, rfl, FIN.out.1, FIN.out.2, ?_⟩
      first | exact ⟨_, ⟨_, rfl⟩, Or.inl rfl⟩ | exact ⟨_, _, rfl, Or.inl rfl⟩ | (intro V2 vs2 vp2 e; simp at e; obtain ⟨rfl, rfl, rfl⟩ := e; exact ⟨_, _, rfl, Or.inl rfl⟩)
end
end Go.Proofs.Ytahnmklofgnagaa.Mem
