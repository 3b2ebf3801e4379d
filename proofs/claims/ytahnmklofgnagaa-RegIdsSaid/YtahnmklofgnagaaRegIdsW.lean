/- RegIds, by hand: no two snapshots that are opened have one id; one that was closed is never found again. -/
import Derived.Test.YtahnmklofgnagaaAct15
namespace Go.Proofs.Ytahnmklofgnagaa.Mem
open Go.RowKit Go.Proofs.YtahnmklofgnagaaW.PrintWords Go.Proofs.YtahnmklofgnagaaW.PrintLast Go.Proofs.Ytahnmklofgnagaa.Tags Go.ChangeShapes
set_option linter.unusedVariables false
set_option linter.unusedSimpArgs false
section
variable {w0 w w' : World} {pb mb cb : Nat} {m m' : M}
/-- What holds at a round's head. -/
def IdsIn (w0 w : World) (pb mb cb : Nat) (top hd : Int) (d : D) (ts ss us : List Int) (kk k : Nat) (u v : Value) (wr : World) : Prop := ∃ (m : M) (vs ids : List Int) (op : List Bool), Yd m top hd d ts ss us vs 200 kk 0 ∧ Ids ss.length vs ids op k ∧ ids.length ≤ k ∧ OwnI wr w.heap.size u ids ∧ OwnB wr w.heap.size v op ∧ St w0 wr pb mb cb m ∧ Fr w wr mb cb
theorem count_take {op : List Bool} {q : Nat} (h : q < op.length) {b : Bool} (e : op.getD q false = b) : (op.take (q + 1)).count true = (op.take q).count true + (if b = true then 1 else 0) := by
  rw [List.take_succ_eq_append_getElem h, List.count_append]
  rw [List.getD_eq_getElem?_getD, List.getElem?_eq_getElem h] at e
  have e' : op[q] = b := e
  rw [e']
  cases b <;> simp
theorem set_same (op : List Bool) (j : Nat) (h : op.getD j false = false) : op.set j false = op := by
  apply List.ext_getElem?
  intro i
  by_cases e : i = j
  · subst e
    by_cases c : i < op.length
    · rw [List.getElem?_set_self c, List.getElem?_eq_getElem c]
      rw [List.getD_eq_getElem?_getD, List.getElem?_eq_getElem c] at h
      exact congrArg some h.symm
    · rw [List.getElem?_eq_none (by simpa using c), List.getElem?_eq_none (by omega)]
  · rw [List.getElem?_set_ne (Ne.symm e)]
theorem OwnI.cell_at {base g c : Nat} {xs : List Int} (h : OwnI w base (.slice (some ⟨g, 0, none⟩) xs.length c) xs) {j : Nat} (hj : j < xs.length) : w.cell? ⟨g, j, none⟩ = some (.int .i64 (xs.getD j 0)) := by
  obtain ⟨_, e, hc⟩ := h.cell j hj
  injection e with e
  injection e with e
  subst e
  exact hc
theorem OwnB.cell_at {base g c : Nat} {xs : List Bool} (h : OwnB w base (.slice (some ⟨g, 0, none⟩) xs.length c) xs) {j : Nat} (hj : j < xs.length) : w.cell? ⟨g, j, none⟩ = some (.bool (xs.getD j false)) := by
  obtain ⟨_, e, hc⟩ := h.cell j hj
  injection e with e
  injection e with e
  subst e
  exact hc
set_option maxHeartbeats 6400000 in
set_option maxRecDepth 100000 in
theorem RegIds_fn {W0 : World} (h : St w0 w pb mb cb m) {base ca cc : Nat} {A B : Option Addr} {ts ss : List Int} (hR : RegAt w base A ca B cc ts ss) {top hd : Int} {d : D} {us : List Int} {kk : Nat} (hY : Yd m top hd d ts ss us (List.replicate ss.length 0) 200 kk 0) (hn : ss.length ≤ 8)
    {bA bY : Nat} {Al : Option Addr} {cap : Nat} {l : List Act} (hl : l.length ≤ 150) (k1 : w.heap[bA]? = some (.cells #[.slice Al l.length cap] 84 (0, 0))) (k2 : w.heap[bY]? = some (.cells #[ptr mb, .int .i64 top, .slice A ts.length ca, .slice B ss.length cc] 86 (0, 0)))
    (hC : actKd.C W0 Al l.length l) (hok : ∀ x ∈ l, x.ok) (hB0 : Below W0.heap.size W0 w) (hm0 : W0.heap.size ≤ mb) (hc0 : W0.heap.size ≤ cb) :
    Calls Try.prog 51 #[ptr pb, .pointer (some ⟨bA, 0, none⟩), .pointer (some ⟨bY, 0, none⟩)] w fun e w' => e = .returned (.iface 4 (.bool true)) ∧ Fr w w' mb cb := by
  have hw0 : w0.heap.size ≤ w.heap.size := h.F.size
  have hWs := hB0.size
  have HB0 := Lib.hid hB0
  have HA := Lib.hid h.A
  have HR := Lib.hid hR
  have HC := Lib.hid hC
  have HO := Lib.hid hok
  have HK1 := Lib.hid k1
  have HK2 := Lib.hid k2
  have START := Lib.hid (show IdsIn w0 w pb mb cb top hd d ts ss us kk 0 (.slice none 0 0) (.slice none 0 0) w from ⟨m, _, [], [], hY, Ids.start _, Nat.le_refl _, OwnI.nil _ _, OwnB.nil _ _, h, Fr.refl _ _ _⟩)
  clear hB0 hR hC hok k1 k2 hY h
  go_enter Try.func51, Try.ntmps51
  go_wp2_with fail
  go_loopw [5, 6, 7] (fun u v i wr => ∃ k : Nat, k ≤ l.length ∧ i = .int .i64 k ∧ IdsIn w0 w pb mb cb top hd d ts ss us kk k u v wr) (fun _ _ i _ => l.length - (intOf i).toNat)
  case atStart => exact ⟨0, by omega, rfl, START.out⟩
  case round =>
    clear START
    obtain ⟨k, hk, rfl, m, vs, ids, op, hY, hI, hil, hU, hV, hS, hF⟩ := hrel
    have k1 := hF.blk HA.out HK1.out (by decide) (by decide)
    have a0 := box1 k1
    by_cases hlt : k < l.length
    · have g1 : decide (k < l.length) = true := decide_eq_true hlt
      obtain ⟨ad, eA, x0, x1, x2, x3, x4⟩ := act_cells (actC_below (hF.over HB0.out hWs hm0 hc0) HC.out) k hlt
      have hxo := HO.out (l.getD k act0) (by rw [List.getD_eq_getElem?_getD, List.getElem?_eq_getElem hlt]; exact List.getElem_mem hlt)
      obtain ⟨bu, cu, rfl⟩ := hU.slice
      obtain ⟨bv, cv, rfl⟩ := hV.slice
      generalize l.getD k act0 = x at *
      obtain ⟨xd, xp, xn, xm, xr⟩ := x
      simp only at x0 x1 x2 x3 x4
      subst eA
      obtain ⟨d0, d1⟩ := u8_of hxo.1
      have HY := Lib.hid hY
      have HI := Lib.hid hI
      clear hxo hY hI
      go_wp2_with fail
      go_loopw [8, 9] (fun c j w1 => ∃ q : Nat, q ≤ op.length ∧ j = .int .i64 q ∧ c = .int .i64 ((op.take q).count true : Nat) ∧ w1 = wr) (fun _ j _ => op.length - (intOf j).toNat)
      case atStart => exact ⟨0, by omega, rfl, rfl, rfl⟩
      case round =>
        obtain ⟨q, hq, rfl, rfl, rfl⟩ := hrel
        by_cases hqt : q < op.length
        · have g2 : decide (q < op.length) = true := decide_eq_true hqt
          obtain ⟨gb, eg, hcl⟩ := hV.cell q hqt
          subst eg
          have hcb : (op.take q).count true ≤ q := Nat.le_trans List.count_le_length (by rw [List.length_take]; omega)
          have hol := HI.out.lens
          by_cases hb : op.getD q false = true
          · have HCT := Lib.hid (count_take hqt hb)
            rw [hb] at hcl
            clear hb
            go_wp2_with fail
            go_roundw
            case rel => exact ⟨q + 1, by omega, by go_num, by rw [HCT.out, if_pos rfl]; go_num, by first | rfl | trivial⟩
            case measure => simp [intOf]; omega
          · have HCT := Lib.hid (count_take hqt (Bool.eq_false_iff.2 hb))
            rw [Bool.eq_false_iff.2 hb] at hcl
            clear hb
            go_wp2_with fail
            go_roundw
            case rel => exact ⟨q + 1, by omega, by go_num, by rw [HCT.out, if_neg (by decide)]; rfl, by first | rfl | trivial⟩
            case measure => simp [intOf]; omega
        · obtain rfl : q = op.length := by omega
          have g2 : decide (op.length < op.length) = false := decide_eq_false (by omega)
          obtain ⟨cn, hcn⟩ : ∃ cn, op.count true = cn := ⟨_, rfl⟩
          rw [List.take_length, hcn]
          have HCN := Lib.hid hcn
          clear hcn
          go_upto_if 41 with fail
          go_cut [5, 6] (fun u v wx => IdsIn w0 w pb mb cb top hd d ts ss us kk (k + 1) u v wx)
          case first =>
            have k2 := hF.blk HA.out HK2.out (by decide) (by decide)
            have hRr := HR.out.fr HA.out hF
            obtain ⟨y0, y1, y2, y3⟩ := box4 k2
            by_cases hd2 : (xd % 2 == 0) = true
            · go_wp2_with fail
              refine (open_calls hS hRr (HY.out.wp.held fun j hj => ⟨(HI.out.wf j hj).1, by have := (HI.out.wf j hj).2.1; omega⟩) top k (by omega) (by omega) (HY.out.swaps k)).mono ?_
              rintro e W1 ⟨hF1, ⟨m2, hm2, hno, rfl, h1⟩ | ⟨p, m2, hp, hm2, hno, hmay, rfl, h1⟩⟩
              · have hfull : cn = ss.length := HCN.out.symm.trans (HI.out.full.2 fun j hj => by
                  have a := HI.out.may (by omega) hj
                  rw [hno j hj] at a
                  revert a
                  cases opened (vs.getD j 0) <;> simp)
                subst hfull
                have k2' := hF1.blk hS.A k2 (by decide) (by decide)
                have hU1 := hU.fr hS.A hF1
                have hV1 := hV.fr hS.A hF1
                have HF1 := Lib.hid (hF.trans hF1)
                have HY1 := Lib.hid (HY.out.like hm2)
                clear y0 y1 y2 y3 k1 k2 a0 hU hV hS hF hF1 hRr hno hm2 x0 x1 x2 x3 x4
                obtain ⟨y0, y1, y2, y3⟩ := box4 k2'
                go_wp2_with fail
                go_loopw [12] (fun j w1 => ∃ q : Nat, q ≤ ids.length ∧ j = .int .i64 q ∧ w1 = W1) (fun j _ => ids.length - (intOf j).toNat)
                case atStart => exact ⟨0, by omega, rfl, rfl⟩
                case round =>
                  obtain ⟨q, hq, rfl, rfl⟩ := hrel
                  by_cases hqt : q < ids.length
                  · have g2 : decide (q < ids.length) = true := decide_eq_true hqt
                    go_wp2_with fail
                    go_roundw
                    case rel => exact ⟨q + 1, by omega, by go_num, by first | rfl | trivial⟩
                    case measure => simp [intOf]; omega
                  · have g2 : decide (q < ids.length) = false := decide_eq_false hqt
                    go_wp2_with fail
                    go_meet
                    exact ⟨m2, vs, ids, op, HY1.out, HI.out.more, by omega, hU1, hV1, h1, HF1.out⟩
              · have hz : opened (vs.getD p 0) = false := by
                  have a := HI.out.may (by omega) hp
                  rw [hmay] at a
                  revert a
                  cases opened (vs.getD p 0) <;> simp
                have hz0 : vs.getD p 0 % 4294967296 = 0 := by
                  unfold opened at hz
                  simpa using hz
                have hnf : ((cn : Int) == (ss.length : Int)) = false := by
                  rw [beq_eq_false_iff_ne]
                  intro e
                  have := HI.out.full.1 (HCN.out.trans (by omega)) p hp
                  rw [hz] at this
                  cases this
                obtain ⟨m3, e3, hY3⟩ := (HY.out.like hm2).place hp (vs.getD p 0 + k + 1)
                rw [e3] at h1
                have HFR := Lib.hid (HI.out.fresh (by omega) hp hz0)
                have HI3 := Lib.hid (HI.out.open_ (by omega) (by omega) hp hz0)
                have HY3 := Lib.hid hY3
                obtain ⟨id, hid⟩ : ∃ id, vs.getD p 0 / 4294967296 * 64 + (p : Int) = id := ⟨_, rfl⟩
                rw [hid] at HFR HI3 ⊢
                have k2' := hF1.blk hS.A k2 (by decide) (by decide)
                have hU1 := hU.fr hS.A hF1
                have hV1 := hV.fr hS.A hF1
                have HF1 := Lib.hid (hF.trans hF1)
                clear y0 y1 y2 y3 k1 k2 a0 hU hV hS hF hF1 hRr hno hm2 x0 x1 x2 x3 x4 hz hz0 hid e3 hY3 hmay
                obtain ⟨y0, y1, y2, y3⟩ := box4 k2'
                go_wp2_with fail
                go_loopw [12] (fun j w1 => ∃ q : Nat, q ≤ ids.length ∧ j = .int .i64 q ∧ w1 = W1) (fun j _ => ids.length - (intOf j).toNat)
                case atStart => exact ⟨0, by omega, rfl, rfl⟩
                case round =>
                  obtain ⟨q, hq, rfl, rfl⟩ := hrel
                  by_cases hqt : q < ids.length
                  · have g2 : decide (q < ids.length) = true := decide_eq_true hqt
                    obtain ⟨gb, eg, hcl⟩ := hU1.cell q hqt
                    have hne : (ids.getD q 0 == id) = false := by
                      rw [beq_eq_false_iff_ne]
                      intro e
                      exact HFR.out (e ▸ getD_mem hqt)
                    generalize ids.getD q 0 = z at *
                    subst eg
                    go_wp2_with fail
                    go_roundw
                    case rel => exact ⟨q + 1, by omega, by go_num, by first | rfl | trivial⟩
                    case measure => simp [intOf]; omega
                  · have g2 : decide (q < ids.length) = false := decide_eq_false hqt
                    have hs1 := HF1.out.size
                    go_wp2_with (at_builtin; refine append_I (w0 := _) rfl _ _ rfl w.heap.size _ ids id hU1 rfl rfl (Below.refl _ _) hs1 (by omega) ?_)
                    intro v1 w6 hO1 _ hg6 hat
                    have hS6 := h1.grown hU1 hw0 hg6
                    have hV6 := hV1.grownI hU1 hg6
                    have HF6 := Lib.hid (HF1.out.grown hU1 (Nat.le_refl _) hg6)
                    have hs6 := HF6.out.size
                    clear hg6 hat h1 hU1 hV1
                    go_wp2_with (at_builtin; refine append_B (w0 := _) rfl _ _ rfl w.heap.size _ op true hV6 rfl rfl (Below.refl _ _) hs6 (by have := HI.out.lens; omega) ?_)
                    intro v2 w7 hV7 _ hg7 hat
                    have hS7 := hS6.grownB hV6 hw0 hg7
                    have hU7 := hO1.grownB hV6 hg7
                    have HF7 := Lib.hid (HF6.out.grownB hV6 (Nat.le_refl _) hg7)
                    clear hg7 hat hS6 hV6 hO1
                    go_wp2_with fail
                    go_meet
                    exact ⟨m3, _, _, _, HY3.out, HI3.out, by simp; omega, hU7, hV7, hS7, HF7.out⟩
            · have hd3 : (xd % 2 == 0) = false := by simpa using hd2
              clear hd2
              by_cases hp : 0 < ids.length ∧ 0 ≤ xn
              · obtain ⟨hp1, hp2⟩ := hp
                have g3 : decide (0 < ids.length) = true := decide_eq_true hp1
                have g4 : decide (0 ≤ xn) = true := decide_eq_true hp2
                obtain ⟨q, hq⟩ : ∃ q : Nat, xn % (ids.length : Int) = (q : Int) := ⟨(xn % (ids.length : Int)).toNat, by rw [Int.toNat_of_nonneg (Int.emod_nonneg _ (by omega))]⟩
                have hqt : Int.tmod xn (ids.length : Int) = (q : Int) := by rw [Int.tmod_eq_emod_of_nonneg hp2]; exact hq
                have hq2 : q < ids.length := by
                  have := Int.emod_lt_of_pos xn (b := (ids.length : Int)) (by omega)
                  omega
                have hqo : q < op.length := by have := HI.out.lens; omega
                obtain ⟨gq, p, hid, hpn, hqb, hop⟩ := HI.out.tells hq2
                obtain ⟨gu, egu, hcu⟩ := hU.cell q hq2
                obtain ⟨gv, egv, hcv⟩ := hV.cell q hqo
                obtain ⟨v0, v1, v2⟩ := HI.out.wf p hpn
                have hwd := word_val (HY.out.wp.2 p hpn)
                have hpl := HY.out.tick.place hpn ((vs.getD p 0 / 4294967296 + 1) * 4294967296)
                have hcl := HI.out.close_ (j := q) (q := gq) (k := p) (by omega) (by omega) hq2 hid hpn
                have hS1 := hS.drewN 1
                have hR1 := hRr.below (pw_below_drewN (Below.refl _ _) 1)
                have hU1 := hU.below (pw_below_drewN (Below.refl _ _) 1)
                have hV1 := hV.below (pw_below_drewN (Below.refl _ _) 1)
                obtain ⟨id, hidd⟩ : ∃ id, ids.getD q 0 = id := ⟨_, rfl⟩
                obtain ⟨x, hx⟩ : ∃ x, ss.getD p 0 = x := ⟨_, rfl⟩
                obtain ⟨v, hv⟩ : ∃ v, vs.getD p 0 = v := ⟨_, rfl⟩
                rw [hx, hv] at hwd hpl
                rw [hv] at hop v0 v1 v2 hcl
                rw [hidd] at hid hcu
                have hv0 : 0 ≤ v := v0
                have hv1 : v ≤ 4611686018427387904 := by omega
                obtain ⟨m3, hsw, hY3⟩ := hpl
                have HX := Lib.hid hx
                have HV := Lib.hid hv
                have HIDD := Lib.hid hidd
                have HID := Lib.hid hid
                have HWD := Lib.hid hwd
                have HSW := Lib.hid hsw
                have HY3 := Lib.hid hY3
                subst egu egv
                clear hx hv hidd hid hwd hsw hY3 v0 v1 v2
                by_cases ho : op.getD q false = true
                · have HOQ := Lib.hid ho
                  have HOP := Lib.hid (hop.trans ho)
                  have HI3 := Lib.hid (hcl ho)
                  rw [ho] at hcv
                  clear ho hop hcl
                  go_upto_region 26 with fail
                  clear x0 x1 x2 x3 x4 hq hqt g3 g4 hp1 hp2
                  refine start_ (n := 14) (S := fun w' => w'.cell? ⟨bY, 1, none⟩ = some (.int .i64 top) ∧ w'.cell? ⟨bY, 2, none⟩ = some (.slice A ts.length ca) ∧ w'.cell? ⟨bY, 3, none⟩ = some (.slice B ss.length cc) ∧ w'.cell? ⟨gu, q, none⟩ = some (.int .i64 id) ∧ w'.cell? ⟨gv, q, none⟩ = some (.bool true)) (ds := []) #[false, false, false, false, false, false, false, false, false, false, false, false, false, false] rfl rfl rfl (⟨y1, y2, y3, hcu, hcv⟩) ?_
                  intro hHeld
                  refine pure_ (i := 0) (N := some 105) (v := ?_) (a' := ?_) #[true, false, false, false, false, false, false, false, false, false, false, false, false, false] rfl rfl (by kernel_rfl) (fun _ _ _ h => h) (Or.inl ⟨by rfl, ?_⟩) ?_ ?_
                  rotate_left
                  · intro w'
                    go_simp
                    with_reducible rfl
                  rotate_left
                  · simp only [Act.put, List.setIfInBounds_toArray, List.set_cons_zero, List.set_cons_succ, i64_w, i32_w]
                    rfl
                  refine pure_ (i := 1) (N := some 106) (v := ?_) (a' := ?_) #[true, true, false, false, false, false, false, false, false, false, false, false, false, false] rfl rfl (by kernel_rfl) (fun _ _ _ h => h) (Or.inl ⟨by rfl, ?_⟩) ?_ ?_
                  rotate_left
                  · intro w'
                    go_simp
                    with_reducible rfl
                  rotate_left
                  · simp only [Act.put, List.setIfInBounds_toArray, List.set_cons_zero, List.set_cons_succ, i64_w, i32_w]
                    rfl
                  refine take_ (i := 2) (N := some 107) (v := ?_) (a' := ?_) #[true, true, true, false, false, false, false, false, false, false, false, false, false, false] rfl rfl (by kernel_rfl) (fun _ _ _ h => h) (Or.inl ⟨by rfl, ?_⟩) hHeld ?_ ?_
                  rotate_left
                  · rintro w' hHeld'
                    have hHeld'' := hHeld'
                    (try obtain ⟨r0_, r1_⟩ := hHeld')
                    (try obtain ⟨r1_, r2_⟩ := r1_)
                    (try obtain ⟨r2_, r3_⟩ := r2_)
                    (try obtain ⟨r3_, r4_⟩ := r3_)
                    (try obtain ⟨r4_, r5_⟩ := r4_)
                    go_simp
                    with_reducible rfl
                  rotate_left
                  · simp only [Act.put, List.setIfInBounds_toArray, List.set_cons_zero, List.set_cons_succ, i64_w, i32_w]
                    rfl
                  refine pure_ (i := 3) (N := some 108) (v := ?_) (a' := ?_) #[true, true, true, true, false, false, false, false, false, false, false, false, false, false] rfl rfl (by kernel_rfl) (fun _ _ _ h => h) (Or.inl ⟨by rfl, ?_⟩) ?_ ?_
                  rotate_left
                  · intro w'
                    go_simp
                    with_reducible rfl
                  rotate_left
                  · simp only [Act.put, List.setIfInBounds_toArray, List.set_cons_zero, List.set_cons_succ, i64_w, i32_w]
                    rfl
                  refine pure_ (i := 4) (N := some 109) (v := ?_) (a' := ?_) #[true, true, true, true, true, false, false, false, false, false, false, false, false, false] rfl rfl (by kernel_rfl) (fun _ _ _ h => h) (Or.inl ⟨by rfl, ?_⟩) ?_ ?_
                  rotate_left
                  · intro w'
                    go_simp
                    with_reducible rfl
                  rotate_left
                  · simp only [Act.put, List.setIfInBounds_toArray, List.set_cons_zero, List.set_cons_succ, i64_w, i32_w]
                    rfl
                  refine pure_ (i := 5) (N := some 110) (v := ?_) (a' := ?_) #[true, true, true, true, true, true, false, false, false, false, false, false, false, false] rfl rfl (by kernel_rfl) (fun _ _ _ h => h) (Or.inl ⟨by rfl, ?_⟩) ?_ ?_
                  rotate_left
                  · intro w'
                    go_simp
                    with_reducible rfl
                  rotate_left
                  · simp only [Act.put, List.setIfInBounds_toArray, List.set_cons_zero, List.set_cons_succ, i64_w, i32_w]
                    rfl
                  refine take_ (i := 6) (N := some 111) (v := ?_) (a' := ?_) #[true, true, true, true, true, true, true, false, false, false, false, false, false, false] rfl rfl (by kernel_rfl) (fun _ _ _ h => h) (Or.inl ⟨by rfl, ?_⟩) hHeld ?_ ?_
                  rotate_left
                  · rintro w' hHeld'
                    have hHeld'' := hHeld'
                    (try obtain ⟨r0_, r1_⟩ := hHeld')
                    (try obtain ⟨r1_, r2_⟩ := r1_)
                    (try obtain ⟨r2_, r3_⟩ := r2_)
                    (try obtain ⟨r3_, r4_⟩ := r3_)
                    (try obtain ⟨r4_, r5_⟩ := r4_)
                    go_simp
                    with_reducible rfl
                  rotate_left
                  · simp only [Act.put, List.setIfInBounds_toArray, List.set_cons_zero, List.set_cons_succ, i64_w, i32_w]
                    rfl
                  refine pure_ (i := 9) (N := some 114) (v := ?_) (a' := ?_) #[true, true, true, true, true, true, true, false, false, true, false, false, false, false] rfl rfl (by kernel_rfl) (fun _ _ _ h => h) (Or.inl ⟨by rfl, ?_⟩) ?_ ?_
                  rotate_left
                  · intro w'
                    go_simp
                    with_reducible rfl
                  rotate_left
                  · simp only [Act.put, List.setIfInBounds_toArray, List.set_cons_zero, List.set_cons_succ, i64_w, i32_w]
                    rfl
                  refine pure_ (i := 10) (N := some 115) (v := ?_) (a' := ?_) #[true, true, true, true, true, true, true, false, false, true, true, false, false, false] rfl rfl (by kernel_rfl) (fun _ _ _ h => h) (Or.inl ⟨by rfl, ?_⟩) ?_ ?_
                  rotate_left
                  · intro w'
                    go_simp
                    with_reducible rfl
                  rotate_left
                  · simp only [Act.put, List.setIfInBounds_toArray, List.set_cons_zero, List.set_cons_succ, i64_w, i32_w]
                    rfl
                  refine pure_ (i := 11) (N := some 116) (v := ?_) (a' := ?_) #[true, true, true, true, true, true, true, false, false, true, true, true, false, false] rfl rfl (by kernel_rfl) (fun _ _ _ h => h) (Or.inl ⟨by rfl, ?_⟩) ?_ ?_
                  rotate_left
                  · intro w'
                    go_simp
                    with_reducible rfl
                  rotate_left
                  · simp only [Act.put, List.setIfInBounds_toArray, List.set_cons_zero, List.set_cons_succ, i64_w, i32_w]
                    rfl
                  refine take_ (i := 12) (N := some 117) (v := ?_) (a' := ?_) #[true, true, true, true, true, true, true, false, false, true, true, true, true, false] rfl rfl (by kernel_rfl) (fun _ _ _ h => h) (Or.inl ⟨by rfl, ?_⟩) hHeld ?_ ?_
                  rotate_left
                  · rintro w' hHeld'
                    have hHeld'' := hHeld'
                    (try obtain ⟨r0_, r1_⟩ := hHeld')
                    (try obtain ⟨r1_, r2_⟩ := r1_)
                    (try obtain ⟨r2_, r3_⟩ := r2_)
                    (try obtain ⟨r3_, r4_⟩ := r3_)
                    (try obtain ⟨r4_, r5_⟩ := r4_)
                    go_simp
                    with_reducible rfl
                  rotate_left
                  · simp only [Act.put, List.setIfInBounds_toArray, List.set_cons_zero, List.set_cons_succ, i64_w, i32_w]
                    rfl
                  refine one_ (i := 7) (N := some 112) #[true, true, true, true, true, true, true, true, false, true, true, true, true, false] rfl rfl (by kernel_rfl) (by decide) (fun K hSh => ?_)
                  refine goes_ Try.func53 (by kernel_rfl) rfl #[ptr pb, .agg #[.int .i64 top, .slice A ts.length ca, .slice B ss.length cc], .int .i64 id] (by rfl) rfl rfl (by (try simp only [List.map_toArray, List.map_cons, List.map_nil]); rfl) ?_
                  refine (close_ok hS1 top id hv0 hv1 (place_yes hS1 hR1 top gq p (by omega) hpn (by omega) HX.out HWD.out HOP.out HID.out) HSW.out).mono ?_
                  rintro e W3 ⟨rfl, h3, hF3⟩
                  have k23 := hF3.blk hS1.A (show (wr.drewN 1).heap[bY]? = _ from k2) (by decide) (by decide)
                  have hU3 := hU1.fr hS1.A hF3
                  have hV3 := hV1.fr hS1.A hF3
                  have HF3 := Lib.hid ((hF.drewN 1).trans hF3)
                  have c3 := hU3.cell_at hq2
                  have d3 := hV3.cell_at hqo
                  rw [HIDD.out] at c3
                  rw [HOQ.out] at d3
                  obtain ⟨y13, y23, y33⟩ := (box4 k23).2
                  refine ⟨_, rfl, ?_⟩
                  refine hSh.out _ _ ⟨y13, y23, y33, c3, d3⟩ ?_
                  clear hHeld y0 y1 y2 y3 hcu hcv k1 k2 a0 hU hV hS hF hRr hU1 hV1 hS1 hR1 hF3
                  intro hHeld
                  refine norm_ (a' := ?_) ?_ ?_
                  rotate_left
                  · simp only [Act.put, List.setIfInBounds_toArray, List.set_cons_zero, List.set_cons_succ, i64_w, i32_w]
                    rfl
                  refine pure_ (i := 8) (N := some 113) (v := ?_) (a' := ?_) #[true, true, true, true, true, true, true, true, true, true, true, true, true, false] rfl rfl (by kernel_rfl) (fun _ _ _ h => h) (Or.inl ⟨by rfl, ?_⟩) ?_ ?_
                  rotate_left
                  · intro w'
                    go_simp
                    with_reducible rfl
                  rotate_left
                  · simp only [Act.put, List.setIfInBounds_toArray, List.set_cons_zero, List.set_cons_succ, i64_w, i32_w]
                    rfl
                  refine pure_ (i := 13) (N := some 118) (v := ?_) (a' := ?_) #[true, true, true, true, true, true, true, true, true, true, true, true, true, true] rfl rfl (by kernel_rfl) (fun _ _ _ h => h) (Or.inl ⟨by rfl, ?_⟩) ?_ ?_
                  rotate_left
                  · intro w'
                    go_simp
                    with_reducible rfl
                  rotate_left
                  · simp only [Act.put, List.setIfInBounds_toArray, List.set_cons_zero, List.set_cons_succ, i64_w, i32_w]
                    rfl
                  refine done_ (by kernel_rfl) ?_
                  clear hHeld
                  obtain ⟨hV4, hg4, hz4⟩ := hV3.stored q false
                  have hU4 := hU3.grownB hV3 hg4
                  have hS4 := h3.grownB hV3 hw0 hg4
                  have HF4 := Lib.hid (HF3.out.grownB hV3 (Nat.le_refl _) hg4)
                  have HV4 := Lib.hid hV4
                  have HU4 := Lib.hid hU4
                  have HS4 := Lib.hid hS4
                  clear hg4 hV4 hU4 hS4
                  go_wp2_with fail
                  go_meet
                  exact ⟨m3, _, ids, _, HY3.out, HI3.out, by omega, HU4.out, HV4.out, HS4.out, HF4.out⟩

                · have ho' : op.getD q false = false := Bool.eq_false_iff.2 ho
                  have HOQ := Lib.hid ho'
                  have HOP := Lib.hid (hop.trans ho')
                  rw [ho'] at hcv
                  clear ho ho' hop hcl
                  go_upto_region 26 with fail
                  clear x0 x1 x2 x3 x4 hq hqt g3 g4 hp1 hp2
                  refine start_ (n := 14) (S := fun w' => w'.cell? ⟨bY, 1, none⟩ = some (.int .i64 top) ∧ w'.cell? ⟨bY, 2, none⟩ = some (.slice A ts.length ca) ∧ w'.cell? ⟨bY, 3, none⟩ = some (.slice B ss.length cc) ∧ w'.cell? ⟨gu, q, none⟩ = some (.int .i64 id) ∧ w'.cell? ⟨gv, q, none⟩ = some (.bool false)) (ds := []) #[false, false, false, false, false, false, false, false, false, false, false, false, false, false] rfl rfl rfl (⟨y1, y2, y3, hcu, hcv⟩) ?_
                  intro hHeld
                  refine pure_ (i := 0) (N := some 105) (v := ?_) (a' := ?_) #[true, false, false, false, false, false, false, false, false, false, false, false, false, false] rfl rfl (by kernel_rfl) (fun _ _ _ h => h) (Or.inl ⟨by rfl, ?_⟩) ?_ ?_
                  rotate_left
                  · intro w'
                    go_simp
                    with_reducible rfl
                  rotate_left
                  · simp only [Act.put, List.setIfInBounds_toArray, List.set_cons_zero, List.set_cons_succ, i64_w, i32_w]
                    rfl
                  refine pure_ (i := 1) (N := some 106) (v := ?_) (a' := ?_) #[true, true, false, false, false, false, false, false, false, false, false, false, false, false] rfl rfl (by kernel_rfl) (fun _ _ _ h => h) (Or.inl ⟨by rfl, ?_⟩) ?_ ?_
                  rotate_left
                  · intro w'
                    go_simp
                    with_reducible rfl
                  rotate_left
                  · simp only [Act.put, List.setIfInBounds_toArray, List.set_cons_zero, List.set_cons_succ, i64_w, i32_w]
                    rfl
                  refine take_ (i := 2) (N := some 107) (v := ?_) (a' := ?_) #[true, true, true, false, false, false, false, false, false, false, false, false, false, false] rfl rfl (by kernel_rfl) (fun _ _ _ h => h) (Or.inl ⟨by rfl, ?_⟩) hHeld ?_ ?_
                  rotate_left
                  · rintro w' hHeld'
                    have hHeld'' := hHeld'
                    (try obtain ⟨r0_, r1_⟩ := hHeld')
                    (try obtain ⟨r1_, r2_⟩ := r1_)
                    (try obtain ⟨r2_, r3_⟩ := r2_)
                    (try obtain ⟨r3_, r4_⟩ := r3_)
                    (try obtain ⟨r4_, r5_⟩ := r4_)
                    go_simp
                    with_reducible rfl
                  rotate_left
                  · simp only [Act.put, List.setIfInBounds_toArray, List.set_cons_zero, List.set_cons_succ, i64_w, i32_w]
                    rfl
                  refine pure_ (i := 3) (N := some 108) (v := ?_) (a' := ?_) #[true, true, true, true, false, false, false, false, false, false, false, false, false, false] rfl rfl (by kernel_rfl) (fun _ _ _ h => h) (Or.inl ⟨by rfl, ?_⟩) ?_ ?_
                  rotate_left
                  · intro w'
                    go_simp
                    with_reducible rfl
                  rotate_left
                  · simp only [Act.put, List.setIfInBounds_toArray, List.set_cons_zero, List.set_cons_succ, i64_w, i32_w]
                    rfl
                  refine pure_ (i := 4) (N := some 109) (v := ?_) (a' := ?_) #[true, true, true, true, true, false, false, false, false, false, false, false, false, false] rfl rfl (by kernel_rfl) (fun _ _ _ h => h) (Or.inl ⟨by rfl, ?_⟩) ?_ ?_
                  rotate_left
                  · intro w'
                    go_simp
                    with_reducible rfl
                  rotate_left
                  · simp only [Act.put, List.setIfInBounds_toArray, List.set_cons_zero, List.set_cons_succ, i64_w, i32_w]
                    rfl
                  refine pure_ (i := 5) (N := some 110) (v := ?_) (a' := ?_) #[true, true, true, true, true, true, false, false, false, false, false, false, false, false] rfl rfl (by kernel_rfl) (fun _ _ _ h => h) (Or.inl ⟨by rfl, ?_⟩) ?_ ?_
                  rotate_left
                  · intro w'
                    go_simp
                    with_reducible rfl
                  rotate_left
                  · simp only [Act.put, List.setIfInBounds_toArray, List.set_cons_zero, List.set_cons_succ, i64_w, i32_w]
                    rfl
                  refine take_ (i := 6) (N := some 111) (v := ?_) (a' := ?_) #[true, true, true, true, true, true, true, false, false, false, false, false, false, false] rfl rfl (by kernel_rfl) (fun _ _ _ h => h) (Or.inl ⟨by rfl, ?_⟩) hHeld ?_ ?_
                  rotate_left
                  · rintro w' hHeld'
                    have hHeld'' := hHeld'
                    (try obtain ⟨r0_, r1_⟩ := hHeld')
                    (try obtain ⟨r1_, r2_⟩ := r1_)
                    (try obtain ⟨r2_, r3_⟩ := r2_)
                    (try obtain ⟨r3_, r4_⟩ := r3_)
                    (try obtain ⟨r4_, r5_⟩ := r4_)
                    go_simp
                    with_reducible rfl
                  rotate_left
                  · simp only [Act.put, List.setIfInBounds_toArray, List.set_cons_zero, List.set_cons_succ, i64_w, i32_w]
                    rfl
                  refine pure_ (i := 9) (N := some 114) (v := ?_) (a' := ?_) #[true, true, true, true, true, true, true, false, false, true, false, false, false, false] rfl rfl (by kernel_rfl) (fun _ _ _ h => h) (Or.inl ⟨by rfl, ?_⟩) ?_ ?_
                  rotate_left
                  · intro w'
                    go_simp
                    with_reducible rfl
                  rotate_left
                  · simp only [Act.put, List.setIfInBounds_toArray, List.set_cons_zero, List.set_cons_succ, i64_w, i32_w]
                    rfl
                  refine pure_ (i := 10) (N := some 115) (v := ?_) (a' := ?_) #[true, true, true, true, true, true, true, false, false, true, true, false, false, false] rfl rfl (by kernel_rfl) (fun _ _ _ h => h) (Or.inl ⟨by rfl, ?_⟩) ?_ ?_
                  rotate_left
                  · intro w'
                    go_simp
                    with_reducible rfl
                  rotate_left
                  · simp only [Act.put, List.setIfInBounds_toArray, List.set_cons_zero, List.set_cons_succ, i64_w, i32_w]
                    rfl
                  refine pure_ (i := 11) (N := some 116) (v := ?_) (a' := ?_) #[true, true, true, true, true, true, true, false, false, true, true, true, false, false] rfl rfl (by kernel_rfl) (fun _ _ _ h => h) (Or.inl ⟨by rfl, ?_⟩) ?_ ?_
                  rotate_left
                  · intro w'
                    go_simp
                    with_reducible rfl
                  rotate_left
                  · simp only [Act.put, List.setIfInBounds_toArray, List.set_cons_zero, List.set_cons_succ, i64_w, i32_w]
                    rfl
                  refine take_ (i := 12) (N := some 117) (v := ?_) (a' := ?_) #[true, true, true, true, true, true, true, false, false, true, true, true, true, false] rfl rfl (by kernel_rfl) (fun _ _ _ h => h) (Or.inl ⟨by rfl, ?_⟩) hHeld ?_ ?_
                  rotate_left
                  · rintro w' hHeld'
                    have hHeld'' := hHeld'
                    (try obtain ⟨r0_, r1_⟩ := hHeld')
                    (try obtain ⟨r1_, r2_⟩ := r1_)
                    (try obtain ⟨r2_, r3_⟩ := r2_)
                    (try obtain ⟨r3_, r4_⟩ := r3_)
                    (try obtain ⟨r4_, r5_⟩ := r4_)
                    go_simp
                    with_reducible rfl
                  rotate_left
                  · simp only [Act.put, List.setIfInBounds_toArray, List.set_cons_zero, List.set_cons_succ, i64_w, i32_w]
                    rfl
                  refine one_ (i := 7) (N := some 112) #[true, true, true, true, true, true, true, true, false, true, true, true, true, false] rfl rfl (by kernel_rfl) (by decide) (fun K hSh => ?_)
                  refine goes_ Try.func53 (by kernel_rfl) rfl #[ptr pb, .agg #[.int .i64 top, .slice A ts.length ca, .slice B ss.length cc], .int .i64 id] (by rfl) rfl rfl (by (try simp only [List.map_toArray, List.map_cons, List.map_nil]); rfl) ?_
                  refine (close_no hS1 top id (by decide) (place_not hS1 hR1 top gq p (by omega) hpn (by omega) HX.out HWD.out HOP.out HID.out)).mono ?_
                  rintro e W3 ⟨rfl, h3, hF3⟩
                  have k23 := hF3.blk hS1.A (show (wr.drewN 1).heap[bY]? = _ from k2) (by decide) (by decide)
                  have hU3 := hU1.fr hS1.A hF3
                  have hV3 := hV1.fr hS1.A hF3
                  have HF3 := Lib.hid ((hF.drewN 1).trans hF3)
                  have c3 := hU3.cell_at hq2
                  have d3 := hV3.cell_at hqo
                  rw [HIDD.out] at c3
                  rw [HOQ.out] at d3
                  obtain ⟨y13, y23, y33⟩ := (box4 k23).2
                  refine ⟨_, rfl, ?_⟩
                  refine hSh.out _ _ ⟨y13, y23, y33, c3, d3⟩ ?_
                  clear hHeld y0 y1 y2 y3 hcu hcv k1 k2 a0 hU hV hS hF hRr hU1 hV1 hS1 hR1 hF3
                  intro hHeld
                  refine norm_ (a' := ?_) ?_ ?_
                  rotate_left
                  · simp only [Act.put, List.setIfInBounds_toArray, List.set_cons_zero, List.set_cons_succ, i64_w, i32_w]
                    rfl
                  refine pure_ (i := 8) (N := some 113) (v := ?_) (a' := ?_) #[true, true, true, true, true, true, true, true, true, true, true, true, true, false] rfl rfl (by kernel_rfl) (fun _ _ _ h => h) (Or.inl ⟨by rfl, ?_⟩) ?_ ?_
                  rotate_left
                  · intro w'
                    go_simp
                    with_reducible rfl
                  rotate_left
                  · simp only [Act.put, List.setIfInBounds_toArray, List.set_cons_zero, List.set_cons_succ, i64_w, i32_w]
                    rfl
                  refine pure_ (i := 13) (N := some 118) (v := ?_) (a' := ?_) #[true, true, true, true, true, true, true, true, true, true, true, true, true, true] rfl rfl (by kernel_rfl) (fun _ _ _ h => h) (Or.inl ⟨by rfl, ?_⟩) ?_ ?_
                  rotate_left
                  · intro w'
                    go_simp
                    with_reducible rfl
                  rotate_left
                  · simp only [Act.put, List.setIfInBounds_toArray, List.set_cons_zero, List.set_cons_succ, i64_w, i32_w]
                    rfl
                  refine done_ (by kernel_rfl) ?_
                  clear hHeld
                  obtain ⟨hV4, hg4, hz4⟩ := hV3.stored q false
                  have hU4 := hU3.grownB hV3 hg4
                  have hS4 := h3.grownB hV3 hw0 hg4
                  have HF4 := Lib.hid (HF3.out.grownB hV3 (Nat.le_refl _) hg4)
                  have HV4 := Lib.hid hV4
                  have HU4 := Lib.hid hU4
                  have HS4 := Lib.hid hS4
                  clear hg4 hV4 hU4 hS4
                  go_wp2_with fail
                  go_meet
                  exact ⟨m.tick, vs, ids, _, HY.out.tick, by rw [set_same op q HOQ.out]; exact HI.out.more, by omega, HU4.out, HV4.out, HS4.out, HF4.out⟩

              · by_cases hp1 : 0 < ids.length
                · have g3 : decide (0 < ids.length) = true := decide_eq_true hp1
                  have g4 : decide (0 ≤ xn) = false := decide_eq_false (fun c => hp ⟨hp1, c⟩)
                  go_wp2_with fail
                  go_meet
                  exact ⟨m, vs, ids, op, HY.out, HI.out.more, by omega, hU, hV, hS, hF⟩
                · have g3 : decide (0 < ids.length) = false := decide_eq_false hp1
                  go_wp2_with fail
                  go_meet
                  exact ⟨m, vs, ids, op, HY.out, HI.out.more, by omega, hU, hV, hS, hF⟩
          case rest =>
            clear x0 x1 x2 x3 x4 a0 k1 hU hV hS hF HY HI HCN
            obtain ⟨m, vs, ids, op, hY, hI, hil, hU, hV, hS, hF⟩ := hcut
            obtain ⟨bu, cu, rfl⟩ := hU.slice
            obtain ⟨bv, cv, rfl⟩ := hV.slice
            have HI := Lib.hid hI
            clear hI
            go_wp2_with fail
            go_loopw [14] (fun j w1 => ∃ (q : Nat) (m : M), q ≤ ids.length ∧ j = .int .i64 q ∧ Yd m top hd d ts ss us vs 200 kk 0 ∧ OwnI w1 w.heap.size (.slice bu ids.length cu) ids ∧ OwnB w1 w.heap.size (.slice bv op.length cv) op ∧ St w0 w1 pb mb cb m ∧ Fr w w1 mb cb) (fun j _ => ids.length - (intOf j).toNat)
            case atStart => exact ⟨0, m, by omega, rfl, hY, hU, hV, hS, hF⟩
            case round =>
              clear hY hU hV hS hF
              obtain ⟨q, m, hq, rfl, hY, hU, hV, hS, hF⟩ := hrel
              by_cases hq2 : q < ids.length
              · have g2 : decide (q < ids.length) = true := decide_eq_true hq2
                have hqo : q < op.length := by have := HI.out.lens; omega
                have k2 := hF.blk HA.out HK2.out (by decide) (by decide)
                obtain ⟨y0, y1, y2, y3⟩ := box4 k2
                obtain ⟨gq, p, hid, hpn, hqb, hop⟩ := HI.out.tells hq2
                obtain ⟨gu, egu, hcu⟩ := hU.cell q hq2
                obtain ⟨gv, egv, hcv⟩ := hV.cell q hqo
                have hwd := word_val (hY.wp.2 p hpn)
                have hS1 := hS.drewN 1
                have hR1 := (HR.out.fr HA.out hF).below (pw_below_drewN (Below.refl _ _) 1)
                have hU1 := hU.below (pw_below_drewN (Below.refl _ _) 1)
                have hV1 := hV.below (pw_below_drewN (Below.refl _ _) 1)
                obtain ⟨id, hidd⟩ : ∃ id, ids.getD q 0 = id := ⟨_, rfl⟩
                obtain ⟨x, hx⟩ : ∃ x, ss.getD p 0 = x := ⟨_, rfl⟩
                obtain ⟨v, hv⟩ : ∃ v, vs.getD p 0 = v := ⟨_, rfl⟩
                rw [hx, hv] at hwd
                rw [hv] at hop
                rw [hidd] at hid hcu
                have HX := Lib.hid hx
                have HIDD := Lib.hid hidd
                have HID := Lib.hid hid
                have HWD := Lib.hid hwd
                have HY := Lib.hid hY
                subst egu egv
                clear hx hv hidd hid hwd hY
                by_cases ho : op.getD q false = true
                · have HOQ := Lib.hid ho
                  have HOP := Lib.hid (hop.trans ho)
                  rw [ho] at hcv
                  clear ho hop
                  go_upto_region 32 with fail
                  refine start_ (n := 13) (S := fun w' => w'.cell? ⟨bY, 1, none⟩ = some (.int .i64 top) ∧ w'.cell? ⟨bY, 2, none⟩ = some (.slice A ts.length ca) ∧ w'.cell? ⟨bY, 3, none⟩ = some (.slice B ss.length cc) ∧ w'.cell? ⟨gu, q, none⟩ = some (.int .i64 id)) (ds := []) #[false, false, false, false, false, false, false, false, false, false, false, false, false] rfl rfl rfl (⟨y1, y2, y3, hcu⟩) ?_
                  intro hHeld
                  refine pure_ (i := 0) (N := some 130) (v := ?_) (a' := ?_) #[true, false, false, false, false, false, false, false, false, false, false, false, false] rfl rfl (by kernel_rfl) (fun _ _ _ h => h) (Or.inl ⟨by rfl, ?_⟩) ?_ ?_
                  rotate_left
                  · intro w'
                    go_simp
                    with_reducible rfl
                  rotate_left
                  · simp only [Act.put, List.setIfInBounds_toArray, List.set_cons_zero, List.set_cons_succ, i64_w, i32_w]
                    rfl
                  refine pure_ (i := 1) (N := some 131) (v := ?_) (a' := ?_) #[true, true, false, false, false, false, false, false, false, false, false, false, false] rfl rfl (by kernel_rfl) (fun _ _ _ h => h) (Or.inl ⟨by rfl, ?_⟩) ?_ ?_
                  rotate_left
                  · intro w'
                    go_simp
                    with_reducible rfl
                  rotate_left
                  · simp only [Act.put, List.setIfInBounds_toArray, List.set_cons_zero, List.set_cons_succ, i64_w, i32_w]
                    rfl
                  refine take_ (i := 2) (N := some 132) (v := ?_) (a' := ?_) #[true, true, true, false, false, false, false, false, false, false, false, false, false] rfl rfl (by kernel_rfl) (fun _ _ _ h => h) (Or.inl ⟨by rfl, ?_⟩) hHeld ?_ ?_
                  rotate_left
                  · rintro w' hHeld'
                    have hHeld'' := hHeld'
                    (try obtain ⟨r0_, r1_⟩ := hHeld')
                    (try obtain ⟨r1_, r2_⟩ := r1_)
                    (try obtain ⟨r2_, r3_⟩ := r2_)
                    (try obtain ⟨r3_, r4_⟩ := r3_)
                    (try obtain ⟨r4_, r5_⟩ := r4_)
                    go_simp
                    with_reducible rfl
                  rotate_left
                  · simp only [Act.put, List.setIfInBounds_toArray, List.set_cons_zero, List.set_cons_succ, i64_w, i32_w]
                    rfl
                  refine pure_ (i := 3) (N := some 133) (v := ?_) (a' := ?_) #[true, true, true, true, false, false, false, false, false, false, false, false, false] rfl rfl (by kernel_rfl) (fun _ _ _ h => h) (Or.inl ⟨by rfl, ?_⟩) ?_ ?_
                  rotate_left
                  · intro w'
                    go_simp
                    with_reducible rfl
                  rotate_left
                  · simp only [Act.put, List.setIfInBounds_toArray, List.set_cons_zero, List.set_cons_succ, i64_w, i32_w]
                    rfl
                  refine pure_ (i := 4) (N := some 134) (v := ?_) (a' := ?_) #[true, true, true, true, true, false, false, false, false, false, false, false, false] rfl rfl (by kernel_rfl) (fun _ _ _ h => h) (Or.inl ⟨by rfl, ?_⟩) ?_ ?_
                  rotate_left
                  · intro w'
                    go_simp
                    with_reducible rfl
                  rotate_left
                  · simp only [Act.put, List.setIfInBounds_toArray, List.set_cons_zero, List.set_cons_succ, i64_w, i32_w]
                    rfl
                  refine pure_ (i := 5) (N := some 135) (v := ?_) (a' := ?_) #[true, true, true, true, true, true, false, false, false, false, false, false, false] rfl rfl (by kernel_rfl) (fun _ _ _ h => h) (Or.inl ⟨by rfl, ?_⟩) ?_ ?_
                  rotate_left
                  · intro w'
                    go_simp
                    with_reducible rfl
                  rotate_left
                  · simp only [Act.put, List.setIfInBounds_toArray, List.set_cons_zero, List.set_cons_succ, i64_w, i32_w]
                    rfl
                  refine take_ (i := 6) (N := some 136) (v := ?_) (a' := ?_) #[true, true, true, true, true, true, true, false, false, false, false, false, false] rfl rfl (by kernel_rfl) (fun _ _ _ h => h) (Or.inl ⟨by rfl, ?_⟩) hHeld ?_ ?_
                  rotate_left
                  · rintro w' hHeld'
                    have hHeld'' := hHeld'
                    (try obtain ⟨r0_, r1_⟩ := hHeld')
                    (try obtain ⟨r1_, r2_⟩ := r1_)
                    (try obtain ⟨r2_, r3_⟩ := r2_)
                    (try obtain ⟨r3_, r4_⟩ := r3_)
                    (try obtain ⟨r4_, r5_⟩ := r4_)
                    go_simp
                    with_reducible rfl
                  rotate_left
                  · simp only [Act.put, List.setIfInBounds_toArray, List.set_cons_zero, List.set_cons_succ, i64_w, i32_w]
                    rfl
                  refine one_ (i := 7) (N := some 137) #[true, true, true, true, true, true, true, true, false, false, false, false, false] rfl rfl (by kernel_rfl) (by decide) (fun K hSh => ?_)
                  refine goes_ Try.func54 (by kernel_rfl) rfl #[ptr pb, .agg #[.int .i64 top, .slice A ts.length ca, .slice B ss.length cc], .int .i64 id] (by rfl) rfl rfl (by (try simp only [List.map_toArray, List.map_cons, List.map_nil]); rfl) ?_
                  refine (find_of hS1 top id (place_yes hS1 hR1 top gq p (by omega) hpn (by omega) HX.out HWD.out HOP.out HID.out)).mono ?_
                  rintro e W3 ⟨rfl, h3, hF3⟩
                  have hU3 := hU1.fr hS1.A hF3
                  have hV3 := hV1.fr hS1.A hF3
                  have HF3 := Lib.hid ((hF.drewN 1).trans hF3)
                  have c3 := hU3.cell_at hq2
                  have d3 := hV3.cell_at hqo
                  rw [HIDD.out] at c3
                  rw [HOQ.out] at d3
                  obtain ⟨y13, y23, y33⟩ := (box4 (hF3.blk hS1.A (show (wr.drewN 1).heap[bY]? = _ from k2) (by decide) (by decide))).2
                  refine ⟨_, rfl, ?_⟩
                  refine hSh.out _ _ ⟨y13, y23, y33, c3⟩ ?_
                  clear hHeld y0 y1 y2 y3 hcu hcv k2 hU hV hS hF hU1 hV1 hS1 hR1 hF3
                  intro hHeld
                  refine norm_ (a' := ?_) ?_ ?_
                  rotate_left
                  · simp only [Act.put, List.setIfInBounds_toArray, List.set_cons_zero, List.set_cons_succ, i64_w, i32_w]
                    rfl
                  refine pure_ (i := 8) (N := some 129) (v := ?_) (a' := ?_) #[true, true, true, true, true, true, true, true, true, false, false, false, false] rfl rfl (by kernel_rfl) (fun _ _ _ h => h) (Or.inl ⟨by rfl, ?_⟩) ?_ ?_
                  rotate_left
                  · intro w'
                    go_simp
                    with_reducible rfl
                  rotate_left
                  · simp only [Act.put, List.setIfInBounds_toArray, List.set_cons_zero, List.set_cons_succ, i64_w, i32_w]
                    rfl
                  refine pure_ (i := 9) (N := some 138) (v := ?_) (a' := ?_) #[true, true, true, true, true, true, true, true, true, true, false, false, false] rfl rfl (by kernel_rfl) (fun _ _ _ h => h) (Or.inl ⟨by rfl, ?_⟩) ?_ ?_
                  rotate_left
                  · intro w'
                    go_simp
                    with_reducible rfl
                  rotate_left
                  · simp only [Act.put, List.setIfInBounds_toArray, List.set_cons_zero, List.set_cons_succ, i64_w, i32_w]
                    rfl
                  refine pure_ (i := 10) (N := some 139) (v := ?_) (a' := ?_) #[true, true, true, true, true, true, true, true, true, true, true, false, false] rfl rfl (by kernel_rfl) (fun _ _ _ h => h) (Or.inl ⟨by rfl, ?_⟩) ?_ ?_
                  rotate_left
                  · intro w'
                    go_simp
                    with_reducible rfl
                  rotate_left
                  · simp only [Act.put, List.setIfInBounds_toArray, List.set_cons_zero, List.set_cons_succ, i64_w, i32_w]
                    rfl
                  refine pure_ (i := 11) (N := some 15) (v := ?_) (a' := ?_) #[true, true, true, true, true, true, true, true, true, true, true, true, false] rfl rfl (by kernel_rfl) (fun _ _ _ h => h) (Or.inl ⟨by rfl, ?_⟩) ?_ ?_
                  rotate_left
                  · intro w'
                    go_simp
                    with_reducible rfl
                  rotate_left
                  · simp only [Act.put, List.setIfInBounds_toArray, List.set_cons_zero, List.set_cons_succ, i64_w, i32_w]
                    rfl
                  refine pure_ (i := 12) (N := some 16) (v := ?_) (a' := ?_) #[true, true, true, true, true, true, true, true, true, true, true, true, true] rfl rfl (by kernel_rfl) (fun _ _ _ h => h) (Or.inl ⟨by rfl, ?_⟩) ?_ ?_
                  rotate_left
                  · intro w'
                    go_simp
                    with_reducible rfl
                  rotate_left
                  · simp only [Act.put, List.setIfInBounds_toArray, List.set_cons_zero, List.set_cons_succ, i64_w, i32_w]
                    rfl
                  refine done_ (by kernel_rfl) ?_
                  clear hHeld
                  go_wp2_with fail
                  go_roundw
                  case rel => exact ⟨q + 1, m.tick, by omega, by go_num, HY.out.tick, hU3, hV3, h3, HF3.out⟩
                  case measure => simp [intOf]; omega
                · have ho' : op.getD q false = false := Bool.eq_false_iff.2 ho
                  have HOQ := Lib.hid ho'
                  have HOP := Lib.hid (hop.trans ho')
                  rw [ho'] at hcv
                  clear ho ho' hop
                  go_upto_region 32 with fail
                  refine start_ (n := 13) (S := fun w' => w'.cell? ⟨bY, 1, none⟩ = some (.int .i64 top) ∧ w'.cell? ⟨bY, 2, none⟩ = some (.slice A ts.length ca) ∧ w'.cell? ⟨bY, 3, none⟩ = some (.slice B ss.length cc) ∧ w'.cell? ⟨gu, q, none⟩ = some (.int .i64 id)) (ds := []) #[false, false, false, false, false, false, false, false, false, false, false, false, false] rfl rfl rfl (⟨y1, y2, y3, hcu⟩) ?_
                  intro hHeld
                  refine pure_ (i := 0) (N := some 130) (v := ?_) (a' := ?_) #[true, false, false, false, false, false, false, false, false, false, false, false, false] rfl rfl (by kernel_rfl) (fun _ _ _ h => h) (Or.inl ⟨by rfl, ?_⟩) ?_ ?_
                  rotate_left
                  · intro w'
                    go_simp
                    with_reducible rfl
                  rotate_left
                  · simp only [Act.put, List.setIfInBounds_toArray, List.set_cons_zero, List.set_cons_succ, i64_w, i32_w]
                    rfl
                  refine pure_ (i := 1) (N := some 131) (v := ?_) (a' := ?_) #[true, true, false, false, false, false, false, false, false, false, false, false, false] rfl rfl (by kernel_rfl) (fun _ _ _ h => h) (Or.inl ⟨by rfl, ?_⟩) ?_ ?_
                  rotate_left
                  · intro w'
                    go_simp
                    with_reducible rfl
                  rotate_left
                  · simp only [Act.put, List.setIfInBounds_toArray, List.set_cons_zero, List.set_cons_succ, i64_w, i32_w]
                    rfl
                  refine take_ (i := 2) (N := some 132) (v := ?_) (a' := ?_) #[true, true, true, false, false, false, false, false, false, false, false, false, false] rfl rfl (by kernel_rfl) (fun _ _ _ h => h) (Or.inl ⟨by rfl, ?_⟩) hHeld ?_ ?_
                  rotate_left
                  · rintro w' hHeld'
                    have hHeld'' := hHeld'
                    (try obtain ⟨r0_, r1_⟩ := hHeld')
                    (try obtain ⟨r1_, r2_⟩ := r1_)
                    (try obtain ⟨r2_, r3_⟩ := r2_)
                    (try obtain ⟨r3_, r4_⟩ := r3_)
                    (try obtain ⟨r4_, r5_⟩ := r4_)
                    go_simp
                    with_reducible rfl
                  rotate_left
                  · simp only [Act.put, List.setIfInBounds_toArray, List.set_cons_zero, List.set_cons_succ, i64_w, i32_w]
                    rfl
                  refine pure_ (i := 3) (N := some 133) (v := ?_) (a' := ?_) #[true, true, true, true, false, false, false, false, false, false, false, false, false] rfl rfl (by kernel_rfl) (fun _ _ _ h => h) (Or.inl ⟨by rfl, ?_⟩) ?_ ?_
                  rotate_left
                  · intro w'
                    go_simp
                    with_reducible rfl
                  rotate_left
                  · simp only [Act.put, List.setIfInBounds_toArray, List.set_cons_zero, List.set_cons_succ, i64_w, i32_w]
                    rfl
                  refine pure_ (i := 4) (N := some 134) (v := ?_) (a' := ?_) #[true, true, true, true, true, false, false, false, false, false, false, false, false] rfl rfl (by kernel_rfl) (fun _ _ _ h => h) (Or.inl ⟨by rfl, ?_⟩) ?_ ?_
                  rotate_left
                  · intro w'
                    go_simp
                    with_reducible rfl
                  rotate_left
                  · simp only [Act.put, List.setIfInBounds_toArray, List.set_cons_zero, List.set_cons_succ, i64_w, i32_w]
                    rfl
                  refine pure_ (i := 5) (N := some 135) (v := ?_) (a' := ?_) #[true, true, true, true, true, true, false, false, false, false, false, false, false] rfl rfl (by kernel_rfl) (fun _ _ _ h => h) (Or.inl ⟨by rfl, ?_⟩) ?_ ?_
                  rotate_left
                  · intro w'
                    go_simp
                    with_reducible rfl
                  rotate_left
                  · simp only [Act.put, List.setIfInBounds_toArray, List.set_cons_zero, List.set_cons_succ, i64_w, i32_w]
                    rfl
                  refine take_ (i := 6) (N := some 136) (v := ?_) (a' := ?_) #[true, true, true, true, true, true, true, false, false, false, false, false, false] rfl rfl (by kernel_rfl) (fun _ _ _ h => h) (Or.inl ⟨by rfl, ?_⟩) hHeld ?_ ?_
                  rotate_left
                  · rintro w' hHeld'
                    have hHeld'' := hHeld'
                    (try obtain ⟨r0_, r1_⟩ := hHeld')
                    (try obtain ⟨r1_, r2_⟩ := r1_)
                    (try obtain ⟨r2_, r3_⟩ := r2_)
                    (try obtain ⟨r3_, r4_⟩ := r3_)
                    (try obtain ⟨r4_, r5_⟩ := r4_)
                    go_simp
                    with_reducible rfl
                  rotate_left
                  · simp only [Act.put, List.setIfInBounds_toArray, List.set_cons_zero, List.set_cons_succ, i64_w, i32_w]
                    rfl
                  refine one_ (i := 7) (N := some 137) #[true, true, true, true, true, true, true, true, false, false, false, false, false] rfl rfl (by kernel_rfl) (by decide) (fun K hSh => ?_)
                  refine goes_ Try.func54 (by kernel_rfl) rfl #[ptr pb, .agg #[.int .i64 top, .slice A ts.length ca, .slice B ss.length cc], .int .i64 id] (by rfl) rfl rfl (by (try simp only [List.map_toArray, List.map_cons, List.map_nil]); rfl) ?_
                  refine (find_of hS1 top id (place_not hS1 hR1 top gq p (by omega) hpn (by omega) HX.out HWD.out HOP.out HID.out)).mono ?_
                  rintro e W3 ⟨rfl, h3, hF3⟩
                  have hU3 := hU1.fr hS1.A hF3
                  have hV3 := hV1.fr hS1.A hF3
                  have HF3 := Lib.hid ((hF.drewN 1).trans hF3)
                  have c3 := hU3.cell_at hq2
                  have d3 := hV3.cell_at hqo
                  rw [HIDD.out] at c3
                  rw [HOQ.out] at d3
                  obtain ⟨y13, y23, y33⟩ := (box4 (hF3.blk hS1.A (show (wr.drewN 1).heap[bY]? = _ from k2) (by decide) (by decide))).2
                  refine ⟨_, rfl, ?_⟩
                  refine hSh.out _ _ ⟨y13, y23, y33, c3⟩ ?_
                  clear hHeld y0 y1 y2 y3 hcu hcv k2 hU hV hS hF hU1 hV1 hS1 hR1 hF3
                  intro hHeld
                  refine norm_ (a' := ?_) ?_ ?_
                  rotate_left
                  · simp only [Act.put, List.setIfInBounds_toArray, List.set_cons_zero, List.set_cons_succ, i64_w, i32_w]
                    rfl
                  refine pure_ (i := 8) (N := some 129) (v := ?_) (a' := ?_) #[true, true, true, true, true, true, true, true, true, false, false, false, false] rfl rfl (by kernel_rfl) (fun _ _ _ h => h) (Or.inl ⟨by rfl, ?_⟩) ?_ ?_
                  rotate_left
                  · intro w'
                    go_simp
                    with_reducible rfl
                  rotate_left
                  · simp only [Act.put, List.setIfInBounds_toArray, List.set_cons_zero, List.set_cons_succ, i64_w, i32_w]
                    rfl
                  refine pure_ (i := 9) (N := some 138) (v := ?_) (a' := ?_) #[true, true, true, true, true, true, true, true, true, true, false, false, false] rfl rfl (by kernel_rfl) (fun _ _ _ h => h) (Or.inl ⟨by rfl, ?_⟩) ?_ ?_
                  rotate_left
                  · intro w'
                    go_simp
                    with_reducible rfl
                  rotate_left
                  · simp only [Act.put, List.setIfInBounds_toArray, List.set_cons_zero, List.set_cons_succ, i64_w, i32_w]
                    rfl
                  refine pure_ (i := 10) (N := some 139) (v := ?_) (a' := ?_) #[true, true, true, true, true, true, true, true, true, true, true, false, false] rfl rfl (by kernel_rfl) (fun _ _ _ h => h) (Or.inl ⟨by rfl, ?_⟩) ?_ ?_
                  rotate_left
                  · intro w'
                    go_simp
                    with_reducible rfl
                  rotate_left
                  · simp only [Act.put, List.setIfInBounds_toArray, List.set_cons_zero, List.set_cons_succ, i64_w, i32_w]
                    rfl
                  refine pure_ (i := 11) (N := some 15) (v := ?_) (a' := ?_) #[true, true, true, true, true, true, true, true, true, true, true, true, false] rfl rfl (by kernel_rfl) (fun _ _ _ h => h) (Or.inl ⟨by rfl, ?_⟩) ?_ ?_
                  rotate_left
                  · intro w'
                    go_simp
                    with_reducible rfl
                  rotate_left
                  · simp only [Act.put, List.setIfInBounds_toArray, List.set_cons_zero, List.set_cons_succ, i64_w, i32_w]
                    rfl
                  refine pure_ (i := 12) (N := some 16) (v := ?_) (a' := ?_) #[true, true, true, true, true, true, true, true, true, true, true, true, true] rfl rfl (by kernel_rfl) (fun _ _ _ h => h) (Or.inl ⟨by rfl, ?_⟩) ?_ ?_
                  rotate_left
                  · intro w'
                    go_simp
                    with_reducible rfl
                  rotate_left
                  · simp only [Act.put, List.setIfInBounds_toArray, List.set_cons_zero, List.set_cons_succ, i64_w, i32_w]
                    rfl
                  refine done_ (by kernel_rfl) ?_
                  clear hHeld
                  go_wp2_with fail
                  go_roundw
                  case rel => exact ⟨q + 1, m.tick, by omega, by go_num, HY.out.tick, hU3, hV3, h3, HF3.out⟩
                  case measure => simp [intOf]; omega
              · have g2 : decide (q < ids.length) = false := decide_eq_false hq2
                go_wp2_with fail
                go_roundw
                case rel => exact ⟨k + 1, by omega, by go_num, m, vs, ids, op, hY, HI.out, hil, hU, hV, hS, hF⟩
                case measure => simp [intOf]; omega
    · have g1 : decide (k < l.length) = false := decide_eq_false hlt
      have HF := Lib.hid hF
      clear hY hI hU hV hS hF
      go_wp2_with fail
      go_ret
      exact ⟨rfl, HF.out⟩
end
end Go.Proofs.Ytahnmklofgnagaa.Mem
