/- The document's register (chapter 15): Open, Close, New, by hand. -/
import Derived.Test.YtahnmklofgnagaaRef15f
namespace Go.Proofs.Ytahnmklofgnagaa.Mem
open Go.RowKit Go.Proofs.YtahnmklofgnagaaW.PrintWords Go.Proofs.YtahnmklofgnagaaW.PrintLast Go.Proofs.Ytahnmklofgnagaa.Tags
set_option linter.unusedVariables false
set_option linter.unusedSimpArgs false
section
variable {w w' w0 : World} {x : Value} {r : Rg}
theorem cell_at_only {b g : Nat} (k : Only w w' b) (h : g ≠ b) (i : Nat) : w'.cell? ⟨g, i, none⟩ = w.cell? ⟨g, i, none⟩ := by unfold World.cell?; rw [k.block g h]
theorem cell_at_below {p : Addr} {v : Value} (hb : Below w.heap.size w w') (h : w.cell? p = some v) : w'.cell? p = some v := cell_later hb h
theorem OwnS.lower {base base' : Nat} {v : Value} {P : List (Int × Int)} (h : OwnS w base v P) (hb : base' ≤ base) : OwnS w base' v P := own_weaken h hb
theorem findIdx_at {P : List (Int × Int)} {k : Nat} (hk : k < P.length) (h : (P.getD k (0, 0)).2 < 0) (hb : ∀ j, j < k → ¬ (P.getD j (0, 0)).2 < 0) : P.findIdx? (fun p => decide (p.2 < 0)) = some k := by
  rw [List.findIdx?_eq_some_iff_getElem]
  rw [List.getD_eq_getElem?_getD, List.getElem?_eq_getElem hk] at h
  refine ⟨hk, by simpa using h, fun j hj => ?_⟩
  have hj' : j < P.length := Nat.lt_trans hj hk
  have := hb j hj
  rw [List.getD_eq_getElem?_getD, List.getElem?_eq_getElem hj'] at this
  simpa using this
theorem findIdx_no {P : List (Int × Int)} (hb : ∀ j, j < P.length → ¬ (P.getD j (0, 0)).2 < 0) : P.findIdx? (fun p => decide (p.2 < 0)) = none := by
  rw [List.findIdx?_eq_none_iff]
  intro p hp
  obtain ⟨j, hj, rfl⟩ := List.getElem_of_mem hp
  have := hb j hj
  rw [List.getD_eq_getElem?_getD, List.getElem?_eq_getElem hj] at this
  simpa using this
set_option maxHeartbeats 6400000 in
set_option maxRecDepth 100000 in
theorem rgopen_calls (h : RgV w x r) (v : Int) (hg : ∀ j, j < r.P.length → 0 ≤ (r.P.getD j (0, 0)).1 ∧ (r.P.getD j (0, 0)).1 ≤ 1000000000) : Calls Try.prog 103 #[x, .int .i64 v] w fun e w' => ∃ x', e = .returned (.tuple #[x', .int .i64 (r.open_ v).2.1, .int .i64 (r.open_ v).2.2]) ∧ RgV w' x' (r.open_ v).1 ∧ Below w.heap.size w w' ∧ ∀ V' vs' vp', x = .agg #[V', vs', vp'] → ∃ vp2, x' = .agg #[V', vs', vp2] := by
  have h' := h
  obtain ⟨hl1, hl2, vs, vp, rfl, hI, hP⟩ := h
  obtain ⟨A, ca, rfl⟩ := hI.slice
  obtain ⟨B, cb, rfl⟩ := hP.slice
  obtain ⟨V, S, P⟩ := r
  simp only at hl1 hl2 hI hP hg
  obtain ⟨W, hW, hk3, hk6, hb, hsz⟩ := boxed2 w V (.slice A S.length ca) (.slice B P.length cb)
  obtain ⟨k0, k1, k2⟩ := box3s hk3
  obtain ⟨p0, p1, p2⟩ := box3s hk6
  have z0 := blk_frozen hk6 0
  have z1 := blk_frozen hk6 1
  have z2 := blk_frozen hk6 2
  have HW := Lib.hid hW
  by_cases hv : v < 0 ∨ 1073741824 < v
  · have HS := Lib.hid (show Rg.open_ ⟨V, S, P⟩ v = (⟨V, S, P⟩, 0, 10) from if_pos hv)
    obtain ⟨W9, hW9⟩ : ∃ y : World, y = set3r W (w.heap.size + 1) (.int .i64 V) (.slice A S.length ca) (.slice B P.length cb) := ⟨_, rfl⟩
    have hO9 : Only W W9 (w.heap.size + 1) := hW9 ▸ only3r _ _ _ _ _
    have K69 : W9.heap[w.heap.size + 1]? = some (.cells #[.int .i64 V, .slice A S.length ca, .slice B P.length cb] 97 (0, 0)) := hW9 ▸ blk3r hk6 _ _ _
    have FIN := Lib.hid (show RgV W9 (.agg #[.int .i64 V, .slice A S.length ca, .slice B P.length cb]) ⟨V, S, P⟩ ∧ Below w.heap.size w W9 from ⟨(h'.below hb).only hO9 hk6 (by decide) (by decide), bel_only hb hO9 (Nat.le_succ _)⟩)
    obtain ⟨q0, q1, q2⟩ := box3s K69
    have HW9 := Lib.hid hW9
    clear hW9 hO9 K69
    clear hI hP h' hW hb hsz hk3 hk6 hg
    by_cases h0 : v < 0
    · have g1 : decide (v < 0) = true := decide_eq_true h0
      clear h0 hv
      go_enter Try.func103, Try.ntmps103
      go_upto_region 1 with fail
      rw [← HW.out]
      clear HW
      go_wp2_with fail
      unfold set3r at HW9
      rw [← HW9.out]
      rw [HS.out]
      refine bodyPost_ret (v := .tuple #[.agg #[.int .i64 V, .slice A S.length ca, .slice B P.length cb], .int .i64 0, .int .i64 10]) (by simp [results, Try.results103, go_sem, q0, q1, q2]) rfl ⟨_, rfl, FIN.out.1, FIN.out.2, ?_⟩
      first | exact ⟨_, rfl⟩ | (intro V2 vs2 vp2 e; simp at e; obtain ⟨rfl, rfl, rfl⟩ := e; exact ⟨_, rfl⟩)
    · have g1 : decide (v < 0) = false := decide_eq_false h0
      have g2 : decide (1073741824 < v) = true := decide_eq_true (by omega)
      clear h0 hv
      go_enter Try.func103, Try.ntmps103
      go_upto_region 1 with fail
      rw [← HW.out]
      clear HW
      go_wp2_with fail
      unfold set3r at HW9
      rw [← HW9.out]
      rw [HS.out]
      refine bodyPost_ret (v := .tuple #[.agg #[.int .i64 V, .slice A S.length ca, .slice B P.length cb], .int .i64 0, .int .i64 10]) (by simp [results, Try.results103, go_sem, q0, q1, q2]) rfl ⟨_, rfl, FIN.out.1, FIN.out.2, ?_⟩
      first | exact ⟨_, rfl⟩ | (intro V2 vs2 vp2 e; simp at e; obtain ⟨rfl, rfl, rfl⟩ := e; exact ⟨_, rfl⟩)
  · have g1 : decide (v < 0) = false := decide_eq_false (by omega)
    have g2 : decide (1073741824 < v) = false := decide_eq_false (by omega)
    have HV := Lib.hid hv
    have HI := Lib.hid (hI.below hb)
    have HP := Lib.hid (hP.below hb)
    have HH := Lib.hid (h'.below hb)
    have HBB := Lib.hid hb
    have HS0 := Lib.hid hsz
    have HKK3 := Lib.hid hk3
    have HKK6 := Lib.hid hk6
    have HG := Lib.hid hg
    clear hI hP h' hW hb hsz hk3 hk6 hg hv
    go_enter Try.func103, Try.ntmps103
    go_upto_region 1 with fail
    rw [← HW.out]
    clear HW
    go_wp2_with fail
    go_loopw [7] (fun i wr => ∃ k : Nat, k ≤ P.length ∧ i = .int .i64 k ∧ wr = W ∧ ∀ j, j < k → ¬ (P.getD j (0, 0)).2 < 0) (fun i _ => P.length - (intOf i).toNat)
    case atStart => exact ⟨0, Nat.zero_le _, rfl, rfl, fun j hj => absurd hj (by omega)⟩
    case round =>
      obtain ⟨k, hk, rfl, hwr, hall⟩ := hrel
      have hwr' := hwr.symm
      clear hwr
      subst hwr'
      have HALL := Lib.hid hall
      clear hall
      by_cases hkP : k < P.length
      · have gk : decide ((k : Int) < (P.length : Int)) = true := decide_eq_true (by omega)
        have gk0 : decide ((k : Int) < 0) = false := decide_eq_false (by omega)
        obtain ⟨g0, eg, c0_, c1_⟩ := HP.out.cell k hkP
        subst eg
        obtain ⟨⟨pg, pv⟩, hp⟩ : ∃ y, P.getD k (0, 0) = y := ⟨_, rfl⟩
        rw [hp] at c0_ c1_
        simp only at c0_ c1_
        have HPP := Lib.hid hp
        have hgk := HG.out k hkP
        rw [hp] at hgk
        simp only at hgk
        clear hp
        by_cases h2 : pv < 0
        · have d2 : decide (pv < 0) = true := decide_eq_true h2
          have HS := Lib.hid (show Rg.open_ ⟨V, S, P⟩ v = (⟨V, S, P.set k (pg, v)⟩, pg * 64 + k, 0) from by
            unfold Rg.open_
            rw [if_neg HV.out]
            simp only
            rw [findIdx_at hkP (by rw [HPP.out]; exact h2) HALL.out]
            simp only [HPP.out])
          have e1 : wrap64 (pg * 64) = pg * 64 := by unfold wrap64; omega
          have e2 : wrap64 (pg * 64 + k) = pg * 64 + k := by unfold wrap64; omega
          clear h2
          have hb2 : Below W.heap.size W (W.alloc (.cells #[] 143)) := below_alloc (Below.refl _ _) _
          have HB2 := Lib.hid (below_then HBB.out HBB.out.size hb2)
          have HI2 := Lib.hid (HI.out.below hb2)
          have HP2 := Lib.hid (HP.out.below hb2)
          have HK3 := Lib.hid (blk_below HKK3.out hb2)
          have HK6 := Lib.hid (blk_below HKK6.out hb2)
          have HD := Lib.hid (blk_new W (.cells #[] 143))
          have HSZ := Lib.hid HS0.out
          obtain ⟨m0, m1, m2⟩ := box3s (blk_below HKK3.out hb2)
          clear hb2 p0 p1 p2 z0 z1 z2
          go_upto_region 7 with fail
          clear k0 k1 k2 c0_ c1_
          go_wp2_with (at_builtin; refine copy_own (w0 := w) rfl _ _ 95 143 (.agg #[.int .i64 0, .int .i64 0]) 2 16 rfl Try.underlying95 snap_info rfl (by decide) (by decide) w.heap.size W.heap.size HD.out (by have := HSZ.out; omega) HP2.out rowS_one (by omega) (by omega) HB2.out HB2.out.size rfl rfl ?_)
          intro g cp w7 hO7 hbg hB7 hg7
          have hk37 := blk_grown HK3.out hg7 (by intro e; injection e with e; have := HSZ.out; omega)
          have hk67 := blk_grown HK6.out hg7 (by intro e; injection e with e; have := HSZ.out; omega)
          have hI7 : OwnI w7 0 (.slice A S.length ca) S := HI2.out.move fun i hi => hg7.block i (by obtain ⟨_, hc⟩ := own_typed HI2.out i hi; exact blk_lt hc) (fun e => HI2.out.ne HD.out (by decide) (by rw [hi]; exact e.symm))
          obtain ⟨cur7, hg7k⟩ := own_typed hO7 g rfl
          have ng3 : w.heap.size ≠ g := blk_ne hk37 hg7k (by decide)
          have ng6 : w.heap.size + 1 ≠ g := blk_ne hk67 hg7k (by decide)
          have hOS : OwnS w7 w.heap.size (.slice (some ⟨g, 0, none⟩) P.length cp) P := hO7
          have hO1 : Only w7 (w7.setCell ⟨w.heap.size, 2, none⟩ (.slice (some ⟨g, 0, none⟩) P.length cp)) w.heap.size := Only.set _ _ _
          have hOS1 := hOS.only hO1 hk37 (by decide)
          obtain ⟨_, e9, u0, u1⟩ := hOS1.cell k hkP
          injection e9 with e9
          injection e9 with e9
          subst e9
          have f0 := World.ownsRow.frozenAt hOS1 (k * 2)
          have f1 := World.ownsRow.frozenAt hOS1 (k * 2 + 1)
          have k31 := blk_put hk37 2 (.slice (some ⟨g, 0, none⟩) P.length cp) rfl
          obtain ⟨W8, hW8⟩ : ∃ y : World, y = (w7.setCell ⟨w.heap.size, 2, none⟩ (.slice (some ⟨g, 0, none⟩) P.length cp)).setCell ⟨g, k * 2 + 1, none⟩ (.int .i64 v) := ⟨_, rfl⟩
          have hO2 : Only (w7.setCell ⟨w.heap.size, 2, none⟩ (.slice (some ⟨g, 0, none⟩) P.length cp)) W8 g := hW8 ▸ Only.set _ _ _
          have K3 : W8.heap[w.heap.size]? = some (.cells #[.int .i64 V, .slice A S.length ca, .slice (some ⟨g, 0, none⟩) P.length cp] 97 (0, 0)) := (hO2.block _ ng3).trans k31
          have K6 : W8.heap[w.heap.size + 1]? = some (.cells #[.int .i64 0, .slice none 0 0, .slice none 0 0] 97 (0, 0)) := (hO2.block _ ng6).trans ((hO1.block _ (by omega)).trans hk67)
          have hS8 : OwnS W8 w.heap.size (.slice (some ⟨g, 0, none⟩) (P.set k ((P.getD k (0, 0)).1, v)).length cp) (P.set k ((P.getD k (0, 0)).1, v)) := by
            rw [hW8]
            exact OwnS.put1 hOS1 k v hkP
          rw [HPP.out] at hS8
          have hS8a := hS8
          rw [List.length_set] at hS8
          have hI8 : OwnI W8 0 (.slice A S.length ca) S := (hI7.only1 hO1 hk37 (by decide)).only1 hO2 ((hO1.block g (Ne.symm ng3)).trans hg7k) (by decide)
          have hB8 : Below w.heap.size w W8 := bel_only (bel_only hB7 hO1 (Nat.le_refl _)) hO2 hbg
          obtain ⟨W9, hW9⟩ : ∃ y : World, y = set3r (W8.drewN 1) (w.heap.size + 1) (.int .i64 V) (.slice A S.length ca) (.slice (some ⟨g, 0, none⟩) P.length cp) := ⟨_, rfl⟩
          have hO9 : Only (W8.drewN 1) W9 (w.heap.size + 1) := hW9 ▸ only3r _ _ _ _ _
          have hd8 : Below W8.heap.size W8 (W8.drewN 1) := pw_below_drewN (Below.refl _ _) 1
          have K68 := blk_below K6 hd8
          have K69 : W9.heap[w.heap.size + 1]? = some (.cells #[.int .i64 V, .slice A S.length ca, .slice (some ⟨g, 0, none⟩) P.length cp] 97 (0, 0)) := hW9 ▸ blk3r K68 _ _ _
          have hI9 := (hI8.below hd8).only1 hO9 K68 (by decide)
          have hS9 := (hS8.below hd8).only hO9 K68 (by decide)
          have FIN := Lib.hid (show RgV W9 (.agg #[.int .i64 V, .slice A S.length ca, .slice (some ⟨g, 0, none⟩) P.length cp]) ⟨V, S, P.set k (pg, v)⟩ ∧ Below w.heap.size w W9 from ⟨⟨hl1, by rw [List.length_set]; exact hl2, _, _, rfl, hI9, hS9.lower (Nat.zero_le _)⟩, bel_only (below_then hB8 hB8.size hd8) hO9 (Nat.le_succ _)⟩)
          obtain ⟨_, e9, v0, _⟩ := hS8a.cell k (by rw [List.length_set]; exact hkP)
          injection e9 with e9
          injection e9 with e9
          subst e9
          rw [show ((P.set k (pg, v)).getD k (0, 0)) = (pg, v) by rw [List.getD_eq_getElem?_getD, List.getElem?_set_self hkP]; rfl] at v0
          simp only at v0
          have v0' := v0
          obtain ⟨a0, a1, a2⟩ := box3s hk37
          obtain ⟨b0, b1, b2⟩ := box3s k31
          have y2 := blk_frozen hk37 2
          obtain ⟨d0, d1, d2'⟩ := box3s K3
          obtain ⟨p0, p1, p2⟩ := box3s K6
          have z0 := blk_frozen K6 0
          have z1 := blk_frozen K6 1
          have z2 := blk_frozen K6 2
          obtain ⟨o0, o1, o2⟩ := box3s ((hO9.block w.heap.size (by omega)).trans (blk_below K3 hd8))
          have o3 := (cell_at_only hO9 (show g ≠ w.heap.size + 1 from Ne.symm ng6) (k * 2)).trans (cell_at_below hd8 v0')
          obtain ⟨q0, q1, q2⟩ := box3s K69
          have HW8 := Lib.hid hW8
          have HW9 := Lib.hid hW9
          clear hO7 hB7 hg7 hk37 hk67 hI7 hg7k hOS hO1 hOS1 k31 hW8 hO2 K3 K6 hS8 hS8a hI8 hB8 hW9 hO9 hd8 K68 K69 hI9 hS9 HB2 HI2 HP2 HK3 HK6 HD HSZ m0 m1 m2 HPP HALL
          go_upto_region 8 with fail
          go_upto_region 9 with fail
          rw [← HW8.out]
          clear a0 a1 a2 b0 b1 b2 y2 u0 u1 f0 f1 HW8
          refine start_ (n := 13) (S := fun w' => w'.cell? ⟨w.heap.size, 0, none⟩ = some (.int .i64 V) ∧ w'.cell? ⟨w.heap.size, 1, none⟩ = some (.slice A S.length ca) ∧ w'.cell? ⟨w.heap.size, 2, none⟩ = some (.slice (some ⟨g, 0, none⟩) P.length cp) ∧ w'.cell? ⟨g, k * 2, none⟩ = some (.int .i64 pg)) (ds := []) #[false, false, false, false, false, false, false, false, false, false, false, false, false] rfl rfl rfl (⟨d0, d1, d2', v0⟩) ?_
          intro hHeld
          refine take_ (i := 0) (N := some 40) (v := ?_) (a' := ?_) #[true, false, false, false, false, false, false, false, false, false, false, false, false] rfl rfl (by kernel_rfl) (fun _ _ _ h => h) (Or.inl ⟨by rfl, ?_⟩) hHeld ?_ ?_
          rotate_left
          · rintro w' hHeld'
            have hHeld'' := hHeld'
            (try obtain ⟨r0_, r1_⟩ := hHeld')
            (try obtain ⟨r1_, r2_⟩ := r1_)
            (try obtain ⟨r2_, r3_⟩ := r2_)
            go_simp
            with_reducible rfl
          rotate_left
          · simp only [Act.put, List.setIfInBounds_toArray, List.set_cons_zero, List.set_cons_succ, i64_w, i32_w]
            rfl
          refine pure_ (i := 1) (N := some 41) (v := ?_) (a' := ?_) #[true, true, false, false, false, false, false, false, false, false, false, false, false] rfl rfl (by kernel_rfl) (fun _ _ _ h => h) (Or.inl ⟨by rfl, ?_⟩) ?_ ?_
          rotate_left
          · intro w'
            go_simp
            with_reducible rfl
          rotate_left
          · simp only [Act.put, List.setIfInBounds_toArray, List.set_cons_zero, List.set_cons_succ, i64_w, i32_w]
            rfl
          refine take_ (i := 2) (N := some 42) (v := ?_) (a' := ?_) #[true, true, true, false, false, false, false, false, false, false, false, false, false] rfl rfl (by kernel_rfl) (fun _ _ _ h => h) (Or.inl ⟨by rfl, ?_⟩) hHeld ?_ ?_
          rotate_left
          · rintro w' hHeld'
            have hHeld'' := hHeld'
            (try obtain ⟨r0_, r1_⟩ := hHeld')
            (try obtain ⟨r1_, r2_⟩ := r1_)
            (try obtain ⟨r2_, r3_⟩ := r2_)
            go_simp
            with_reducible rfl
          rotate_left
          · simp only [Act.put, List.setIfInBounds_toArray, List.set_cons_zero, List.set_cons_succ, i64_w, i32_w]
            rfl
          refine pure_ (i := 3) (N := some 43) (v := ?_) (a' := ?_) #[true, true, true, true, false, false, false, false, false, false, false, false, false] rfl rfl (by kernel_rfl) (fun _ _ _ h => h) (Or.inl ⟨by rfl, ?_⟩) ?_ ?_
          rotate_left
          · intro w'
            go_simp
            with_reducible rfl
          rotate_left
          · simp only [Act.put, List.setIfInBounds_toArray, List.set_cons_zero, List.set_cons_succ, i64_w, i32_w]
            rfl
          refine pure_ (i := 4) (N := some 44) (v := ?_) (a' := ?_) #[true, true, true, true, true, false, false, false, false, false, false, false, false] rfl rfl (by kernel_rfl) (fun _ _ _ h => h) (Or.inl ⟨by rfl, ?_⟩) ?_ ?_
          rotate_left
          · intro w'
            go_simp
            with_reducible rfl
          rotate_left
          · simp only [Act.put, List.setIfInBounds_toArray, List.set_cons_zero, List.set_cons_succ, i64_w, i32_w]
            rfl
          refine pure_ (i := 5) (N := some 45) (v := ?_) (a' := ?_) #[true, true, true, true, true, true, false, false, false, false, false, false, false] rfl rfl (by kernel_rfl) (fun _ _ _ h => h) (Or.inl ⟨by rfl, ?_⟩) ?_ ?_
          rotate_left
          · intro w'
            go_simp
            with_reducible rfl
          rotate_left
          · simp only [Act.put, List.setIfInBounds_toArray, List.set_cons_zero, List.set_cons_succ, i64_w, i32_w]
            rfl
          refine take_ (i := 6) (N := some 46) (v := ?_) (a' := ?_) #[true, true, true, true, true, true, true, false, false, false, false, false, false] rfl rfl (by kernel_rfl) (fun _ _ _ h => h) (Or.inl ⟨by rfl, ?_⟩) hHeld ?_ ?_
          rotate_left
          · rintro w' hHeld'
            have hHeld'' := hHeld'
            (try obtain ⟨r0_, r1_⟩ := hHeld')
            (try obtain ⟨r1_, r2_⟩ := r1_)
            (try obtain ⟨r2_, r3_⟩ := r2_)
            go_simp
            with_reducible rfl
          rotate_left
          · simp only [Act.put, List.setIfInBounds_toArray, List.set_cons_zero, List.set_cons_succ, i64_w, i32_w]
            rfl
          refine pure_ (i := 7) (N := some 47) (v := ?_) (a' := ?_) #[true, true, true, true, true, true, true, true, false, false, false, false, false] rfl rfl (by kernel_rfl) (fun _ _ _ h => h) (Or.inl ⟨by rfl, ?_⟩) ?_ ?_
          rotate_left
          · intro w'
            go_simp
            with_reducible rfl
          rotate_left
          · simp only [Act.put, List.setIfInBounds_toArray, List.set_cons_zero, List.set_cons_succ, i64_w, i32_w]
            rfl
          refine pure_ (i := 8) (N := some 48) (v := ?_) (a' := ?_) #[true, true, true, true, true, true, true, true, true, false, false, false, false] rfl rfl (by kernel_rfl) (fun _ _ _ h => h) (Or.inl ⟨by rfl, ?_⟩) ?_ ?_
          rotate_left
          · intro w'
            go_simp
            with_reducible rfl
          rotate_left
          · simp only [Act.put, List.setIfInBounds_toArray, List.set_cons_zero, List.set_cons_succ, i64_w, i32_w]
            rfl
          refine pure_ (i := 9) (N := some 49) (v := ?_) (a' := ?_) #[true, true, true, true, true, true, true, true, true, true, false, false, false] rfl rfl (by kernel_rfl) (fun _ _ _ h => h) (Or.inl ⟨by rfl, ?_⟩) ?_ ?_
          rotate_left
          · intro w'
            go_simp
            with_reducible rfl
          rotate_left
          · simp only [Act.put, List.setIfInBounds_toArray, List.set_cons_zero, List.set_cons_succ, i64_w, i32_w]
            rfl
          refine one_ (i := 10) (N := none) #[true, true, true, true, true, true, true, true, true, true, true, false, false] rfl rfl (by kernel_rfl) (by decide) (fun K hSh => ?_)
          refine skip_ (w1 := W9) (by rfl) rfl (by rw [HW9.out]; go_simp <;> rfl) ?_
          refine hSh.out _ _ ⟨o0, o1, o2, o3⟩ ?_
          clear hHeld
          intro hHeld
          refine pure_ (i := 11) (N := some 5) (v := ?_) (a' := ?_) #[true, true, true, true, true, true, true, true, true, true, true, true, false] rfl rfl (by kernel_rfl) (fun _ _ _ h => h) (Or.inl ⟨by rfl, ?_⟩) ?_ ?_
          rotate_left
          · intro w'
            go_simp
            with_reducible rfl
          rotate_left
          · simp only [Act.put, List.setIfInBounds_toArray, List.set_cons_zero, List.set_cons_succ, i64_w, i32_w]
            rfl
          refine pure_ (i := 12) (N := some 6) (v := ?_) (a' := ?_) #[true, true, true, true, true, true, true, true, true, true, true, true, true] rfl rfl (by kernel_rfl) (fun _ _ _ h => h) (Or.inl ⟨by rfl, ?_⟩) ?_ ?_
          rotate_left
          · intro w'
            go_simp
            with_reducible rfl
          rotate_left
          · simp only [Act.put, List.setIfInBounds_toArray, List.set_cons_zero, List.set_cons_succ, i64_w, i32_w]
            rfl
          refine done_ (by kernel_rfl) ?_
          clear hHeld
          go_wp2_with fail
          rw [HS.out]
          refine bodyPost_ret (v := .tuple #[.agg #[.int .i64 V, .slice A S.length ca, .slice (some ⟨g, 0, none⟩) P.length cp], .int .i64 (pg * 64 + k), .int .i64 0]) (by simp [results, Try.results103, go_sem, q0, q1, q2]) rfl ⟨_, rfl, FIN.out.1, FIN.out.2, ?_⟩
          first | exact ⟨_, rfl⟩ | (intro V2 vs2 vp2 e; simp at e; obtain ⟨rfl, rfl, rfl⟩ := e; exact ⟨_, rfl⟩)
        · have d2 : decide (pv < 0) = false := decide_eq_false h2
          have hN : ¬ (P.getD k (0, 0)).2 < 0 := by rw [HPP.out]; exact h2
          have HN := Lib.hid hN
          clear h2 hN
          go_wp2_with fail
          go_roundw
          case rel => exact ⟨k + 1, by omega, by go_num, by first | rfl | trivial, fun j hj => by
            by_cases e : j = k
            · exact e ▸ HN.out
            · exact HALL.out j (by omega)⟩
          case measure => simp [intOf]; omega
      · obtain rfl : k = P.length := by omega
        have gk : decide ((P.length : Int) < (P.length : Int)) = false := decide_eq_false (by omega)
        have HS := Lib.hid (show Rg.open_ ⟨V, S, P⟩ v = (⟨V, S, P⟩, 0, 3) from by
          unfold Rg.open_
          rw [if_neg HV.out]
          simp only
          rw [findIdx_no HALL.out])
        obtain ⟨W9, hW9⟩ : ∃ y : World, y = set3r W (w.heap.size + 1) (.int .i64 V) (.slice A S.length ca) (.slice B P.length cb) := ⟨_, rfl⟩
        have hO9 : Only W W9 (w.heap.size + 1) := hW9 ▸ only3r _ _ _ _ _
        have K69 : W9.heap[w.heap.size + 1]? = some (.cells #[.int .i64 V, .slice A S.length ca, .slice B P.length cb] 97 (0, 0)) := hW9 ▸ blk3r HKK6.out _ _ _
        have FIN := Lib.hid (show RgV W9 (.agg #[.int .i64 V, .slice A S.length ca, .slice B P.length cb]) ⟨V, S, P⟩ ∧ Below w.heap.size w W9 from ⟨(HH.out).only hO9 HKK6.out (by decide) (by decide), bel_only HBB.out hO9 (Nat.le_succ _)⟩)
        obtain ⟨q0, q1, q2⟩ := box3s K69
        have HW9 := Lib.hid hW9
        clear hW9 hO9 K69
        go_wp2_with fail
        unfold set3r at HW9
        rw [← HW9.out]
        rw [HS.out]
        refine bodyPost_ret (v := .tuple #[.agg #[.int .i64 V, .slice A S.length ca, .slice B P.length cb], .int .i64 0, .int .i64 3]) (by simp [results, Try.results103, go_sem, q0, q1, q2]) rfl ⟨_, rfl, FIN.out.1, FIN.out.2, ?_⟩
        first | exact ⟨_, rfl⟩ | (intro V2 vs2 vp2 e; simp at e; obtain ⟨rfl, rfl, rfl⟩ := e; exact ⟨_, rfl⟩)
set_option maxHeartbeats 6400000 in
set_option maxRecDepth 100000 in
theorem rgclose_calls (h : RgV w x r) (id : Int) (hid : id ≤ 9223372036854775807) (hg : ∀ j, j < r.P.length → 0 ≤ (r.P.getD j (0, 0)).1 ∧ (r.P.getD j (0, 0)).1 ≤ 1000000000) : Calls Try.prog 105 #[x, .int .i64 id] w fun e w' => ∃ x', e = .returned (.tuple #[x', .int .i64 (r.close id).2]) ∧ RgV w' x' (r.close id).1 ∧ Below w.heap.size w w' ∧ ∀ V' vs' vp', x = .agg #[V', vs', vp'] → ∃ vp2, x' = .agg #[V', vs', vp2] := by
  have h' := h
  obtain ⟨hl1, hl2, vs, vp, rfl, hI, hP⟩ := h
  obtain ⟨A, ca, rfl⟩ := hI.slice
  obtain ⟨B, cb, rfl⟩ := hP.slice
  obtain ⟨V, S, P⟩ := r
  simp only at hl1 hl2 hI hP hg
  obtain ⟨W, hW, hk3, hk6, hb, hsz⟩ := boxed2 w V (.slice A S.length ca) (.slice B P.length cb)
  obtain ⟨k0, k1, k2⟩ := box3s hk3
  obtain ⟨p0, p1, p2⟩ := box3s hk6
  have z0 := blk_frozen hk6 0
  have z1 := blk_frozen hk6 1
  have z2 := blk_frozen hk6 2
  have HW := Lib.hid hW
  have HCALL := Lib.hid (rgfind_calls (h'.below hb) id hid)
  obtain ⟨fi, hfi⟩ : ∃ y, Rg.find ⟨V, S, P⟩ id = y := ⟨_, rfl⟩
  rw [hfi] at HCALL
  have HFI := Lib.hid hfi
  have HI := Lib.hid (hI.below hb)
  have HP := Lib.hid (hP.below hb)
  have HH := Lib.hid (h'.below hb)
  have HBB := Lib.hid hb
  have HS0 := Lib.hid hsz
  have HKK3 := Lib.hid hk3
  have HKK6 := Lib.hid hk6
  have HG := Lib.hid hg
  clear hI hP h' hW hb hsz hk3 hk6 hg hfi p0 p1 p2 z0 z1 z2
  go_enter Try.func105, Try.ntmps105
  go_upto_region 1 with fail
  rw [← HW.out]
  clear HW
  go_wp2_with fail
  refine HCALL.out.mono ?_
  clear HCALL
  rintro e W2 ⟨rfl, hb2⟩
  have HI1 := Lib.hid (HI.out.below hb2)
  have HP1 := Lib.hid (HP.out.below hb2)
  have HH1 := Lib.hid (HH.out.below hb2)
  have HB1 := Lib.hid (below_then HBB.out HBB.out.size hb2)
  have HS1 := Lib.hid (show w.heap.size + 2 ≤ W2.heap.size from by have := HS0.out; have := hb2.size; omega)
  have hkk3 := blk_below HKK3.out hb2
  have hkk6 := blk_below HKK6.out hb2
  have HKK3' := Lib.hid hkk3
  have HKK6' := Lib.hid hkk6
  clear k0 k1 k2 HI HP HH HBB HS0 HKK3 HKK6 hb2
  obtain ⟨k0, k1, k2⟩ := box3s hkk3
  obtain ⟨p0, p1, p2⟩ := box3s hkk6
  have z0 := blk_frozen hkk6 0
  have z1 := blk_frozen hkk6 1
  have z2 := blk_frozen hkk6 2
  clear hkk3 hkk6
  by_cases hf : fi < 0
  · have g1 : decide (fi < 0) = true := decide_eq_true hf
    have HS := Lib.hid (show Rg.close ⟨V, S, P⟩ id = (⟨V, S, P⟩, 2) from if_pos (by rw [HFI.out]; exact hf))
    obtain ⟨W9, hW9⟩ : ∃ y : World, y = set3r W2 (w.heap.size + 1) (.int .i64 V) (.slice A S.length ca) (.slice B P.length cb) := ⟨_, rfl⟩
    have hO9 : Only W2 W9 (w.heap.size + 1) := hW9 ▸ only3r _ _ _ _ _
    have K69 : W9.heap[w.heap.size + 1]? = some (.cells #[.int .i64 V, .slice A S.length ca, .slice B P.length cb] 97 (0, 0)) := hW9 ▸ blk3r HKK6'.out _ _ _
    have FIN := Lib.hid (show RgV W9 (.agg #[.int .i64 V, .slice A S.length ca, .slice B P.length cb]) ⟨V, S, P⟩ ∧ Below w.heap.size w W9 from ⟨(HH1.out).only hO9 HKK6'.out (by decide) (by decide), bel_only HB1.out hO9 (Nat.le_succ _)⟩)
    obtain ⟨q0, q1, q2⟩ := box3s K69
    have HW9 := Lib.hid hW9
    clear hW9 hO9 K69
    clear hf
    go_wp2_with fail
    unfold set3r at HW9
    rw [← HW9.out]
    rw [HS.out]
    refine bodyPost_ret (v := .tuple #[.agg #[.int .i64 V, .slice A S.length ca, .slice B P.length cb], .int .i64 2]) (by simp [results, Try.results105, go_sem, q0, q1, q2]) rfl ⟨_, rfl, FIN.out.1, FIN.out.2, ?_⟩
    first | exact ⟨_, rfl⟩ | (intro V2 vs2 vp2 e; simp at e; obtain ⟨rfl, rfl, rfl⟩ := e; exact ⟨_, rfl⟩)
  · have g1 : decide (fi < 0) = false := decide_eq_false hf
    have hfe := HFI.out
    unfold Rg.find at hfe
    split at hfe
    · exact absurd hfe (by omega)
    rename_i hno
    simp only at hno
    obtain ⟨k, hk⟩ : ∃ k : Nat, fi = (k : Int) := ⟨fi.toNat, by omega⟩
    have hkP : k < P.length := by omega
    have hS : Rg.close ⟨V, S, P⟩ id = (⟨V, S, P.set k ((P.getD k (0, 0)).1 + 1, -1)⟩, 0) := by
      unfold Rg.close
      rw [if_neg (by rw [HFI.out]; exact hf)]
      simp only [hfe, hk, Int.toNat_natCast]
    obtain ⟨⟨pg, pv⟩, hp⟩ : ∃ y, P.getD k (0, 0) = y := ⟨_, rfl⟩
    rw [hp] at hS
    simp only at hS
    have HS := Lib.hid hS
    have HPP := Lib.hid hp
    have hgk := HG.out k hkP
    rw [hp] at hgk
    simp only at hgk
    have e1 : wrap64 (pg + 1) = pg + 1 := by unfold wrap64; omega
    obtain ⟨g0, eg, _, _⟩ := HP1.out.cell k hkP
    subst eg
    subst hk
    have gk0 : decide ((k : Int) < 0) = false := decide_eq_false (by omega)
    have gk : decide ((k : Int) < (P.length : Int)) = true := decide_eq_true (by omega)
    clear hf hfe hno hS hp HFI
    have hb2 : Below W2.heap.size W2 (W2.alloc (.cells #[] 143)) := below_alloc (Below.refl _ _) _
    have HB2 := Lib.hid (below_then HB1.out HB1.out.size hb2)
    have HI2 := Lib.hid (HI1.out.below hb2)
    have HP2 := Lib.hid (HP1.out.below hb2)
    have HK3 := Lib.hid (blk_below HKK3'.out hb2)
    have HK6 := Lib.hid (blk_below HKK6'.out hb2)
    have HD := Lib.hid (blk_new W2 (.cells #[] 143))
    have HSZ := Lib.hid HS1.out
    obtain ⟨m0, m1, m2⟩ := box3s (blk_below HKK3'.out hb2)
    clear hb2 p0 p1 p2 z0 z1 z2
    go_upto_region 4 with fail
    clear k0 k1 k2
    go_wp2_with (at_builtin; refine copy_own (w0 := w) rfl _ _ 95 143 (.agg #[.int .i64 0, .int .i64 0]) 2 16 rfl Try.underlying95 snap_info rfl (by decide) (by decide) w.heap.size W2.heap.size HD.out (by have := HSZ.out; omega) HP2.out rowS_one (by omega) (by omega) HB2.out HB2.out.size rfl rfl ?_)
    intro g cp w7 hO7 hbg hB7 hg7
    have hk37 := blk_grown HK3.out hg7 (by intro e; injection e with e; have := HSZ.out; omega)
    have hk67 := blk_grown HK6.out hg7 (by intro e; injection e with e; have := HSZ.out; omega)
    have hI7 : OwnI w7 0 (.slice A S.length ca) S := HI2.out.move fun i hi => hg7.block i (by obtain ⟨_, hc⟩ := own_typed HI2.out i hi; exact blk_lt hc) (fun e => HI2.out.ne HD.out (by decide) (by rw [hi]; exact e.symm))
    obtain ⟨cur7, hg7k⟩ := own_typed hO7 g rfl
    have ng3 : w.heap.size ≠ g := blk_ne hk37 hg7k (by decide)
    have ng6 : w.heap.size + 1 ≠ g := blk_ne hk67 hg7k (by decide)
    have hOS : OwnS w7 w.heap.size (.slice (some ⟨g, 0, none⟩) P.length cp) P := hO7
    have hO1 : Only w7 (w7.setCell ⟨w.heap.size, 2, none⟩ (.slice (some ⟨g, 0, none⟩) P.length cp)) w.heap.size := Only.set _ _ _
    have hOS1 := hOS.only hO1 hk37 (by decide)
    obtain ⟨_, e9, u0, u1⟩ := hOS1.cell k hkP
    injection e9 with e9
    injection e9 with e9
    subst e9
    have f0 := World.ownsRow.frozenAt hOS1 (k * 2)
    have f1 := World.ownsRow.frozenAt hOS1 (k * 2 + 1)
    have k31 := blk_put hk37 2 (.slice (some ⟨g, 0, none⟩) P.length cp) rfl
    obtain ⟨W7, hW7⟩ : ∃ y : World, y = w7.setCell ⟨w.heap.size, 2, none⟩ (.slice (some ⟨g, 0, none⟩) P.length cp) := ⟨_, rfl⟩
    rw [← hW7] at hO1 hOS1 u0 u1 f0 f1 k31
    have hd7 : Below W7.heap.size W7 (W7.drewN 1) := pw_below_drewN (Below.refl _ _) 1
    have hOS2 := hOS1.below hd7
    obtain ⟨W8, hW8⟩ : ∃ y : World, y = ((W7.drewN 1).setCell ⟨g, k * 2, none⟩ (.int .i64 (pg + 1))).setCell ⟨g, k * 2 + 1, none⟩ (.int .i64 (-1)) := ⟨_, rfl⟩
    have hO2 : Only (W7.drewN 1) W8 g := hW8 ▸ (Only.set _ ⟨g, k * 2, none⟩ _).trans (Only.set _ ⟨g, k * 2 + 1, none⟩ _)
    have k32 := blk_below k31 hd7
    have k62 := blk_below ((hO1.block _ (by omega)).trans hk67) hd7
    have K3 : W8.heap[w.heap.size]? = some (.cells #[.int .i64 V, .slice A S.length ca, .slice (some ⟨g, 0, none⟩) P.length cp] 97 (0, 0)) := (hO2.block _ ng3).trans k32
    have K6 : W8.heap[w.heap.size + 1]? = some (.cells #[.int .i64 0, .slice none 0 0, .slice none 0 0] 97 (0, 0)) := (hO2.block _ ng6).trans k62
    have hS8 : OwnS W8 w.heap.size (.slice (some ⟨g, 0, none⟩) (P.set k (pg + 1, -1)).length cp) (P.set k (pg + 1, -1)) := by
      rw [hW8]
      exact OwnS.put2 hOS2 k (pg + 1, -1) hkP
    rw [List.length_set] at hS8
    have hg7d := blk_below ((hO1.block g (Ne.symm ng3)).trans hg7k) hd7
    have hI8 : OwnI W8 0 (.slice A S.length ca) S := ((hI7.only1 hO1 hk37 (by decide)).below hd7).only1 hO2 hg7d (by decide)
    have hB8 : Below w.heap.size w W8 := bel_only (below_then (bel_only hB7 hO1 (Nat.le_refl _)) (by have := hB7.size; rw [hO1.size]; exact this) hd7) hO2 hbg
    obtain ⟨W9, hW9⟩ : ∃ y : World, y = set3r W8 (w.heap.size + 1) (.int .i64 V) (.slice A S.length ca) (.slice (some ⟨g, 0, none⟩) P.length cp) := ⟨_, rfl⟩
    have hO9 : Only W8 W9 (w.heap.size + 1) := hW9 ▸ only3r _ _ _ _ _
    have K69 : W9.heap[w.heap.size + 1]? = some (.cells #[.int .i64 V, .slice A S.length ca, .slice (some ⟨g, 0, none⟩) P.length cp] 97 (0, 0)) := hW9 ▸ blk3r K6 _ _ _
    have hI9 := hI8.only1 hO9 K6 (by decide)
    have hS9 := hS8.only hO9 K6 (by decide)
    have FIN := Lib.hid (show RgV W9 (.agg #[.int .i64 V, .slice A S.length ca, .slice (some ⟨g, 0, none⟩) P.length cp]) ⟨V, S, P.set k (pg + 1, -1)⟩ ∧ Below w.heap.size w W9 from ⟨⟨hl1, by rw [List.length_set]; exact hl2, _, _, rfl, hI9, hS9.lower (Nat.zero_le _)⟩, bel_only hB8 hO9 (Nat.le_succ _)⟩)
    obtain ⟨a0, a1, a2⟩ := box3s hk37
    have y2 := blk_frozen hk37 2
    obtain ⟨b0, b1, b2⟩ := box3s k31
    obtain ⟨b0', b1', b2'⟩ := box3s k32
    rw [HPP.out] at u0 u1
    simp only at u0 u1
    obtain ⟨d0, d1, d2'⟩ := box3s K3
    obtain ⟨p0, p1, p2⟩ := box3s K6
    have z0 := blk_frozen K6 0
    have z1 := blk_frozen K6 1
    have z2 := blk_frozen K6 2
    obtain ⟨q0, q1, q2⟩ := box3s K69
    have HW7 := Lib.hid hW7
    have HW8 := Lib.hid hW8
    have HW9 := Lib.hid hW9
    clear hO7 hB7 hg7 hk37 hk67 hI7 hg7k hOS hO1 hOS1 k31 hW7 hd7 hOS2 hW8 hO2 k32 k62 K3 K6 hS8 hg7d hI8 hB8 hW9 hO9 K69 hI9 hS9 HB2 HI2 HP2 HK3 HK6 HD HSZ m0 m1 m2 HPP
    go_upto_region 5 with fail
    rw [← HW7.out]
    clear a0 a1 a2 y2 HW7
    refine start_ (n := 13) (S := fun w' => w'.cell? ⟨w.heap.size, 2, none⟩ = some (.slice (some ⟨g, 0, none⟩) P.length cp) ∧ w'.cell? ⟨g, k * 2, none⟩ = some (.int .i64 pg)) (ds := [12]) #[false, false, false, false, false, false, false, false, false, false, false, false, false] rfl rfl rfl (⟨b2, u0⟩) ?_
    intro hHeld
    refine pure_ (i := 0) (N := some 18) (v := ?_) (a' := ?_) #[true, false, false, false, false, false, false, false, false, false, false, false, false] rfl rfl (by kernel_rfl) (fun _ _ _ h => h) (Or.inl ⟨by rfl, ?_⟩) ?_ ?_
    rotate_left
    · intro w'
      go_simp
      with_reducible rfl
    rotate_left
    · simp only [Act.put, List.setIfInBounds_toArray, List.set_cons_zero, List.set_cons_succ, i64_w, i32_w]
      rfl
    refine take_ (i := 1) (N := some 19) (v := ?_) (a' := ?_) #[true, true, false, false, false, false, false, false, false, false, false, false, false] rfl rfl (by kernel_rfl) (fun _ _ _ h => h) (Or.inl ⟨by rfl, ?_⟩) hHeld ?_ ?_
    rotate_left
    · rintro w' hHeld'
      have hHeld'' := hHeld'
      (try obtain ⟨r0_, r1_⟩ := hHeld')
      go_simp
      with_reducible rfl
    rotate_left
    · simp only [Act.put, List.setIfInBounds_toArray, List.set_cons_zero, List.set_cons_succ, i64_w, i32_w]
      rfl
    refine pure_ (i := 2) (N := some 20) (v := ?_) (a' := ?_) #[true, true, true, false, false, false, false, false, false, false, false, false, false] rfl rfl (by kernel_rfl) (fun _ _ _ h => h) (Or.inl ⟨by rfl, ?_⟩) ?_ ?_
    rotate_left
    · intro w'
      go_simp
      with_reducible rfl
    rotate_left
    · simp only [Act.put, List.setIfInBounds_toArray, List.set_cons_zero, List.set_cons_succ, i64_w, i32_w]
      rfl
    refine pure_ (i := 3) (N := some 21) (v := ?_) (a' := ?_) #[true, true, true, true, false, false, false, false, false, false, false, false, false] rfl rfl (by kernel_rfl) (fun _ _ _ h => h) (Or.inl ⟨by rfl, ?_⟩) ?_ ?_
    rotate_left
    · intro w'
      go_simp
      with_reducible rfl
    rotate_left
    · simp only [Act.put, List.setIfInBounds_toArray, List.set_cons_zero, List.set_cons_succ, i64_w, i32_w]
      rfl
    refine take_ (i := 4) (N := some 22) (v := ?_) (a' := ?_) #[true, true, true, true, true, false, false, false, false, false, false, false, false] rfl rfl (by kernel_rfl) (fun _ _ _ h => h) (Or.inl ⟨by rfl, ?_⟩) hHeld ?_ ?_
    rotate_left
    · rintro w' hHeld'
      have hHeld'' := hHeld'
      (try obtain ⟨r0_, r1_⟩ := hHeld')
      go_simp
      with_reducible rfl
    rotate_left
    · simp only [Act.put, List.setIfInBounds_toArray, List.set_cons_zero, List.set_cons_succ, i64_w, i32_w]
      rfl
    refine pure_ (i := 5) (N := some 23) (v := ?_) (a' := ?_) #[true, true, true, true, true, true, false, false, false, false, false, false, false] rfl rfl (by kernel_rfl) (fun _ _ _ h => h) (Or.inl ⟨by rfl, ?_⟩) ?_ ?_
    rotate_left
    · intro w'
      go_simp
      with_reducible rfl
    rotate_left
    · simp only [Act.put, List.setIfInBounds_toArray, List.set_cons_zero, List.set_cons_succ, i64_w, i32_w]
      rfl
    refine pure_ (i := 6) (N := some 24) (v := ?_) (a' := ?_) #[true, true, true, true, true, true, true, false, false, false, false, false, false] rfl rfl (by kernel_rfl) (fun _ _ _ h => h) (Or.inl ⟨by rfl, ?_⟩) ?_ ?_
    rotate_left
    · intro w'
      go_simp
      with_reducible rfl
    rotate_left
    · simp only [Act.put, List.setIfInBounds_toArray, List.set_cons_zero, List.set_cons_succ, i64_w, i32_w]
      rfl
    refine pure_ (i := 7) (N := some 25) (v := ?_) (a' := ?_) #[true, true, true, true, true, true, true, true, false, false, false, false, false] rfl rfl (by kernel_rfl) (fun _ _ _ h => h) (Or.inl ⟨by rfl, ?_⟩) ?_ ?_
    rotate_left
    · intro w'
      go_simp
      with_reducible rfl
    rotate_left
    · simp only [Act.put, List.setIfInBounds_toArray, List.set_cons_zero, List.set_cons_succ, i64_w, i32_w]
      rfl
    refine take_ (i := 8) (N := some 26) (v := ?_) (a' := ?_) #[true, true, true, true, true, true, true, true, true, false, false, false, false] rfl rfl (by kernel_rfl) (fun _ _ _ h => h) (Or.inl ⟨by rfl, ?_⟩) hHeld ?_ ?_
    rotate_left
    · rintro w' hHeld'
      have hHeld'' := hHeld'
      (try obtain ⟨r0_, r1_⟩ := hHeld')
      go_simp
      with_reducible rfl
    rotate_left
    · simp only [Act.put, List.setIfInBounds_toArray, List.set_cons_zero, List.set_cons_succ, i64_w, i32_w]
      rfl
    refine pure_ (i := 9) (N := some 27) (v := ?_) (a' := ?_) #[true, true, true, true, true, true, true, true, true, true, false, false, false] rfl rfl (by kernel_rfl) (fun _ _ _ h => h) (Or.inl ⟨by rfl, ?_⟩) ?_ ?_
    rotate_left
    · intro w'
      go_simp
      with_reducible rfl
    rotate_left
    · simp only [Act.put, List.setIfInBounds_toArray, List.set_cons_zero, List.set_cons_succ, i64_w, i32_w]
      rfl
    refine pure_ (i := 10) (N := some 28) (v := ?_) (a' := ?_) #[true, true, true, true, true, true, true, true, true, true, true, false, false] rfl rfl (by kernel_rfl) (fun _ _ _ h => h) (Or.inl ⟨by rfl, ?_⟩) ?_ ?_
    rotate_left
    · intro w'
      go_simp
      with_reducible rfl
    rotate_left
    · simp only [Act.put, List.setIfInBounds_toArray, List.set_cons_zero, List.set_cons_succ, i64_w, i32_w]
      rfl
    refine pure_ (i := 11) (N := some 29) (v := ?_) (a' := ?_) #[true, true, true, true, true, true, true, true, true, true, true, true, false] rfl rfl (by kernel_rfl) (fun _ _ _ h => h) (Or.inl ⟨by rfl, ?_⟩) ?_ ?_
    rotate_left
    · intro w'
      go_simp
      with_reducible rfl
    rotate_left
    · simp only [Act.put, List.setIfInBounds_toArray, List.set_cons_zero, List.set_cons_succ, i64_w, i32_w]
      rfl
    refine last_ (i := 12) (N := none) #[true, true, true, true, true, true, true, true, true, true, true, true, true] rfl rfl (by kernel_rfl) (by decide) (fun K hSh => ?_)
    refine skip_ (w1 := W8) (by rfl) rfl (by rw [HW8.out]; go_simp <;> rfl) ?_
    refine hSh.out _ _ ?_
    refine done_ (by kernel_rfl) ?_
    clear hHeld b0 b1 b2 b0' b1' b2' u0 u1 f0 f1 HW8
    go_wp2_with fail
    unfold set3r at HW9
    rw [← HW9.out]
    rw [HS.out]
    refine bodyPost_ret (v := .tuple #[.agg #[.int .i64 V, .slice A S.length ca, .slice (some ⟨g, 0, none⟩) P.length cp], .int .i64 0]) (by simp [results, Try.results105, go_sem, q0, q1, q2]) rfl ⟨_, rfl, FIN.out.1, FIN.out.2, ?_⟩
    first | exact ⟨_, rfl⟩ | (intro V2 vs2 vp2 e; simp at e; obtain ⟨rfl, rfl, rfl⟩ := e; exact ⟨_, rfl⟩)
end
end Go.Proofs.Ytahnmklofgnagaa.Mem
