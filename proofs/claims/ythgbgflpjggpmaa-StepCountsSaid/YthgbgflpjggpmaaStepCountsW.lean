/- StepCounts, by hand: machines that each add 1 to one word, in whatever order their steps are done. -/
import Derived.Test.YthgbgflpjggpmaaStep9
namespace Go.Proofs.Ythgbgflpjggpmaa.Mem
open Go.RowKit Go.Proofs.YthgbgflpjggpmaaW.PrintWords Go.Proofs.YthgbgflpjggpmaaW.PrintLast Go.Proofs.Ythgbgflpjggpmaa.Tags
set_option linter.unusedVariables false
set_option linter.unusedSimpArgs false
/-- A row of bytes that is read. -/
def RdB (w : World) (A : Option Addr) (l : List Int) : Prop := ∀ j, j < l.length → ∃ ad, A = some ad ∧ w.cell? (ad.add j) = some (.int .u8 (l.getD j 0)) ∧ ad.block < w.heap.size
theorem rdb_of {w : World} {A : Option Addr} {l : List Int} (h : (Kd.int .u8).C w A l.length l) : RdB w A l := fun j hj => by
  obtain ⟨ad, c, e, _, hk, hc⟩ := ReadsRow.get_ h 0 (j : Int) (by omega) (by omega)
  have hk' : c = [.int .u8 (l.getD j 0)] := hk
  subst hk'
  have := hc 0 _ rfl
  rw [show (j : Int).toNat * (Kd.int .u8).sz + 0 = j by show (j : Int).toNat * 1 + 0 = j; omega] at this
  refine ⟨ad, e, this, ?_⟩
  have hb : (ad.add j).block = ad.block := by unfold Addr.add; split <;> rfl
  by_cases hn : ad.block < w.heap.size
  · exact hn
  · have h0 : w.heap[(ad.add j).block]? = none := Array.getElem?_eq_none (by rw [hb]; omega)
    simp [World.cell?, h0] at this
theorem Fr.over_ {w w1 w2 : World} {mb cb : Nat} {B : Nat} (h : Fr w1 w2 mb cb) (hb : Below B w w1) (h0 : B ≤ w1.heap.size) (h1 : B ≤ mb) (h2 : B ≤ cb) : Below B w w2 :=
  ⟨h.os.trans hb.os, h.tape.trans hb.tape, h.output.trans hb.output, Nat.le_trans hb.size h.size, fun k hk => (h.block k (by omega) (by omega) (by omega)).trans (hb.block k hk)⟩
set_option maxHeartbeats 3200000 in
set_option maxRecDepth 100000 in
theorem StepCounts_main (A : Option Addr) (cap : Nat) (l : List Int) (hl : l.length ≤ 200) (a : Int) (ha : 0 ≤ a ∧ a ≤ 255) (w : World) (hR : RdB w A l) (hr8 : ∀ r ∈ l, 0 ≤ r ∧ r ≤ 255) :
    Calls Try.prog 3 #[.slice A l.length cap, .int .u8 a] w fun e w' => e = .returned (.bool true) ∧ Below w.heap.size w w' := by
  have hmf := makeFunc_run
  have g1 : decide (200 < l.length) = false := decide_eq_false (by omega)
  have g2 : decide ((200 : Int) < (l.length : Int)) = false := decide_eq_false (by omega)
  have HRR := Lib.hid hR
  have HR8 := Lib.hid hr8
  have HL := Lib.hid hl
  have HA := Lib.hid ha
  clear hR hr8 hl ha
  go_enter Try.func3, Try.ntmps3
  go_wp2_with fail
  refine (awake13_calls w).mono ?_
  rintro e w1 ⟨rfl, hb1⟩
  have HB1 := Lib.hid hb1
  clear hb1
  go_wp2_with fail
  refine (New_calls 1 w1 (by omega) (by omega)).mono ?_
  rintro e w2 ⟨rfl, hA2, hB2⟩
  obtain ⟨mb, hmb⟩ : ∃ x, w1.heap.size + 1 = x := ⟨_, rfl⟩
  obtain ⟨cb, hcb⟩ : ∃ x, w1.heap.size = x := ⟨_, rfl⟩
  rw [hmb, hcb] at hA2
  rw [hmb]
  have hbase : w.heap.size ≤ mb ∧ w.heap.size ≤ cb := by have := HB1.out.size; omega
  have HB2 := Lib.hid (below_then HB1.out HB1.out.size hB2)
  have HBA := Lib.hid hbase
  clear hB2 HB1 hbase hmb hcb
  go_wp2_with fail
  refine (AllocWord_calls hA2 0).mono ?_
  rw [first_alloc]
  rintro e w3 ⟨rfl, hA3, hF3⟩
  obtain ⟨w4, hw4⟩ : ∃ x : World, x = w3.alloc (.cells #[.int .i64 1] 3) := ⟨_, rfl⟩
  have hb4 : Below w3.heap.size w3 w4 := hw4 ▸ below_alloc (Below.refl _ _) _
  obtain ⟨hb, hhb⟩ : ∃ x, w3.heap.size = x := ⟨_, rfl⟩
  have hH : w4.heap[hb]? = some (.cells #[.int .i64 1] 3 (0, 0)) := hhb ▸ hw4 ▸ blk_new _ _
  have hall : All w4 w.heap.size mb cb hb 0 1 (fun _ => rec0 (C 0 1) 0 0) 0 0 := all_none (hA3.below hb4) rfl hH HBA.out
  have hB4 : Below w.heap.size w w4 := below_then (hF3.over_ HB2.out HB2.out.size HBA.out.1 HBA.out.2) (Nat.le_trans HB2.out.size hF3.size) hb4
  have HW4 := Lib.hid hw4
  have HALL := Lib.hid hall
  have HB4 := Lib.hid hB4
  clear hw4 hb4 hH hall hB4 hA2 hA3 hF3 HB2
  go_upto_region 7 with fail
  rw [← HW4.out]
  clear HW4 hhb
  obtain ⟨Nm, hNm⟩ : ∃ Nm : Nat, (Nm : Int) = 1 + a % 6 := ⟨(1 + a % 6).toNat, by have := HA.out; omega⟩
  have hN6 : 1 ≤ Nm ∧ Nm ≤ 6 := by have := HA.out; omega
  have hw : wrap64 (1 + (wrap64 a).tmod 6) = (Nm : Int) := by
    have := HA.out
    rw [hNm]
    unfold wrap64
    have e1 : (a + 9223372036854775808) % 18446744073709551616 - 9223372036854775808 = a := by omega
    rw [e1, Int.tmod_eq_emod_of_nonneg (by omega)]
    omega
  have HWR := Lib.hid hw
  clear hw
  have HNM := Lib.hid hNm
  have HN6 := Lib.hid hN6
  clear hNm hN6
  go_wp2_with fail
  go_loopw [9, 10] (fun z i wr => ∃ (k : Nat) (xs : List Nat) (f : Nat → Rec), k ≤ Nm ∧ i = .int .i64 k ∧ OwnP wr z xs ∧ xs.length = k ∧ (∀ j, j < k → xs.getD j 0 = (f j).xb) ∧ All wr w.heap.size mb cb hb 0 1 f k 0 ∧ Below w.heap.size w wr ∧ ∀ q, z.ownBlock = some q → w.heap.size ≤ q) (fun _ i _ => Nm - (intOf i).toNat)
  case atStart => exact ⟨0, [], _, Nat.zero_le _, rfl, OwnP.nil _, rfl, fun j hj => absurd hj (by omega), HALL.out, HB4.out, fun q hq => (by cases hq)⟩
  case round =>
    obtain ⟨k, xs, f, hk, rfl, hO, hxs, hf, hall, hbl, hob⟩ := hrel
    obtain ⟨Ax, cx, rfl⟩ := hO.slice
    clear HALL HB4
    have HO := Lib.hid hO
    have HXS := Lib.hid hxs
    have HF := Lib.hid hf
    have HALL := Lib.hid hall
    have HBL := Lib.hid hbl
    have HOB := Lib.hid hob
    clear hO hxs hf hall hbl hob
    by_cases hkN : k < Nm
    · have gk : decide ((k : Int) < wrap64 (1 + (wrap64 a).tmod 6)) = true := decide_eq_true (by rw [HWR.out]; omega)
      go_wp2_with fail
      refine (mnew_calls mb 10 #[.pointer (some ⟨hb, 0, none⟩)] wr).mono ?_
      rintro e w5 ⟨rfl, hp5, hm5, hb5⟩
      have hall5 := all_more HALL.out HBL.out.size hp5 hm5 hb5
      have hO5 := HO.out.below hb5
      have hbl5 := below_then HBL.out HBL.out.size hb5
      obtain ⟨xb, hxb⟩ : ∃ x, wr.heap.size + 1 = x := ⟨_, rfl⟩
      rw [hxb] at hall5
      rw [hxb]
      have HO5 := Lib.hid hO5
      have HALL5 := Lib.hid hall5
      have HBL5 := Lib.hid hbl5
      have hxl : xs.length ≤ 1000000 := by rw [HXS.out]; have := HN6.out; omega
      clear hp5 hm5 hb5 hall5 hO5 hbl5 HALL HBL HO hxb gk
      go_wp2_with (at_builtin; refine append_P rfl _ _ rfl _ xs xb HO5.out rfl rfl hxl ?_)
      intro A1 c1 w6 hO6 hg hat
      have hall6 := HALL5.out.of_blocks (w' := w6) (fun k cs t h ht _ => hg.block k (blk_lt h) (HO5.out.ne h ht))
      have hob6 : ∀ q, (Value.slice A1 (xs.length + 1) c1).ownBlock = some q → w.heap.size ≤ q := by
        intro q hq
        rcases hat with e | ⟨b, e, hb⟩
        · exact HOB.out q (e ▸ hq)
        · rw [e] at hq
          injection hq with hq
          have := HBL5.out.size
          omega
      have hbl6 : Below w.heap.size w w6 := ⟨hg.os.trans HBL5.out.os, hg.tape.trans HBL5.out.tape, hg.output.trans HBL5.out.output, Nat.le_trans HBL5.out.size hg.size, fun k hk => (hg.block k (Nat.lt_of_lt_of_le hk HBL5.out.size) (fun e => by have := HOB.out k e.symm; omega)).trans (HBL5.out.block k hk)⟩
      have hf6 : ∀ j, j < k + 1 → (xs ++ [xb]).getD j 0 = (if j = k then rec0 (C 0 1) xb wr.heap.size else f j).xb := by
        intro j hj
        by_cases e : j = k
        · rw [if_pos e, e, List.getD_eq_getElem?_getD, ← HXS.out]
          simp [rec0]
        · rw [if_neg e, ← HF.out j (by omega), List.getD_eq_getElem?_getD, List.getElem?_append_left (by rw [HXS.out]; omega), List.getD_eq_getElem?_getD]
      have HO6 := Lib.hid hO6
      have HALL6 := Lib.hid hall6
      have HBL6 := Lib.hid hbl6
      have HF6 := Lib.hid hf6
      have HOB6 := Lib.hid hob6
      have hk6 : Nm ≤ 6 := HN6.out.2
      clear hO6 hg hat hall6 hob6 hbl6 hf6 HALL5 HO5 HBL5
      go_wp2_with fail
      go_roundw
      case rel => exact ⟨k + 1, xs ++ [xb], _, by omega, by go_num, (by have := HO6.out; unfold OwnP at this ⊢; rw [List.length_append] at this ⊢; exact this), by rw [List.length_append, HXS.out]; rfl, HF6.out, HALL6.out, HBL6.out, HOB6.out⟩
      case measure => simp [intOf]; omega
    · have gk : decide ((k : Int) < wrap64 (1 + (wrap64 a).tmod 6)) = false := decide_eq_false (by rw [HWR.out]; omega)
      have hkn : k = Nm := by omega
      have HKN := Lib.hid hkn
      clear hkn
      go_wp2_with fail
      clear gk hk hkN
      rw [HXS.out, HKN.out]
      have hO0 := HO.out
      have hf0 := HF.out
      have hall0 := HALL.out
      rw [HXS.out, HKN.out] at hO0
      rw [HKN.out] at hf0 hall0
      have HO0 := Lib.hid hO0
      have HF0 := Lib.hid hf0
      have HALL0 := Lib.hid hall0
      have HXN := Lib.hid (HXS.out.trans HKN.out)
      clear hO0 hf0 hall0 HO HF HALL HXS HKN
      go_loopw [11] (fun i w2 => ∃ (t : Nat) (c n : Int) (f : Nat → Rec), t ≤ l.length ∧ i = .int .i64 t ∧ OwnP w2 (.slice Ax Nm cx) xs ∧ (∀ j, j < Nm → xs.getD j 0 = (f j).xb) ∧ All w2 w.heap.size mb cb hb c n f Nm t ∧ Below w.heap.size w w2) (fun i _ => l.length - (intOf i).toNat)
      case atStart => exact ⟨0, _, _, _, Nat.zero_le _, rfl, HO0.out, HF0.out, HALL0.out, HBL.out⟩
      case round =>
        obtain ⟨t, c, n, f, ht, rfl, hO, hf, hall, hbl⟩ := hrel
        have HO := Lib.hid hO
        have HF := Lib.hid hf
        have HALL := Lib.hid hall
        have hl2 := HL.out
        by_cases htl : t < l.length
        · have gt : decide ((t : Int) < (l.length : Int)) = true := decide_eq_true (by omega)
          obtain ⟨ad, hAd, hcell, hadl⟩ := HRR.out t htl
          subst hAd
          have hc2 := (hbl.cell (p := ad.add t) (by unfold Addr.add; split <;> exact hadl)).trans hcell
          obtain ⟨x, hx⟩ : ∃ x, l.getD t 0 = x := ⟨_, rfl⟩
          have hx8 : 0 ≤ x ∧ x ≤ 255 := by
            rw [← hx, List.getD_eq_getElem?_getD, List.getElem?_eq_getElem htl]
            exact HR8.out _ (List.getElem_mem _)
          rw [hx] at hc2
          obtain ⟨q, hq⟩ : ∃ q : Nat, (q : Int) = x % Nm := ⟨(x % Nm).toNat, by have := HN6.out; have := Int.emod_nonneg x (b := (Nm : Int)) (by omega); omega⟩
          have hqN : q < Nm := by have := HN6.out; have := Int.emod_lt_of_pos x (b := (Nm : Int)) (by omega); omega
          have e1 : (wrap64 x).tmod (Nm : Int) = (q : Int) := by
            have : wrap64 x = x := by unfold wrap64; omega
            rw [this, Int.tmod_eq_emod_of_nonneg hx8.1, hq]
          have e2 : x % (Nm : Int) = (q : Int) := hq.symm
          have hxn := HXN.out
          obtain ⟨g, hAx, hpc⟩ := (by have := hO; rw [← hxn] at this; exact this.cell q (by omega) : ∃ g, Ax = some ⟨g, 0, none⟩ ∧ _)
          rw [hf q hqN] at hpc
          have hn0 : ¬ (Nm : Int) = 0 := by omega
          have hn1 : ¬ Nm = 0 := by omega
          have HBL2 := Lib.hid hbl
          subst hAx
          clear hO hf hall hbl hcell hadl hq hx
          go_wp2_with fail
          refine (turn_calls HALL.out (by have := HN6.out; omega) (by omega) hqN).mono ?_
          rintro e w8 ⟨⟨b, rfl⟩, c', n', f', Z, hall8, hxb8, hF8, hZ8⟩
          have hO8 := HO.out.fx hF8 (fun k hk => (hZ8 k hk).1)
          have hbl8 : Below w.heap.size w w8 := ⟨hF8.os.trans HBL2.out.os, hF8.tape.trans HBL2.out.tape, hF8.output.trans HBL2.out.output, Nat.le_trans HBL2.out.size hF8.size, fun k hk => (hF8.block k (Nat.lt_of_lt_of_le hk HBL2.out.size) (fun z => by have := (hZ8 k z).2; omega)).trans (HBL2.out.block k hk)⟩
          have hf8 : ∀ j, j < Nm → xs.getD j 0 = (f' j).xb := fun j hj => (HF.out j hj).trans (hxb8 j).symm
          have HO8 := Lib.hid hO8
          have HALL8 := Lib.hid hall8
          have HBL8 := Lib.hid hbl8
          have HF8 := Lib.hid hf8
          clear hO8 hall8 hbl8 hf8 hxb8 hF8 hZ8 HALL HBL2 HF HO hc2 hpc
          go_wp2_with fail
          go_roundw
          case rel => exact ⟨t + 1, c', n', f', by omega, by go_num, HO8.out, HF8.out, HALL8.out, HBL8.out⟩
          case measure => simp [intOf]; omega
        · have gt : decide ((t : Int) < (l.length : Int)) = false := decide_eq_false (by omega)
          have HBL2 := Lib.hid hbl
          clear hO hf hall hbl
          obtain ⟨w9, hw9⟩ : ∃ y : World, y = wr.alloc (.cells #[.bool false, .bool false, .bool false, .bool false, .bool false, .bool false] 37) := ⟨_, rfl⟩
          have hb9 : Below wr.heap.size wr w9 := hw9 ▸ below_alloc (Below.refl _ _) _
          obtain ⟨sb, hsb⟩ : ∃ y, wr.heap.size = y := ⟨_, rfl⟩
          have hk9 : w9.heap[sb]? = some (.cells #[.bool false, .bool false, .bool false, .bool false, .bool false, .bool false] 37 (0, 0)) := hsb ▸ hw9 ▸ blk_new _ _
          have hall9 := HALL.out.below hb9
          have hO9 := HO.out.below hb9
          have hbl9 := below_then HBL2.out HBL2.out.size hb9
          have hsb0 : w.heap.size ≤ sb := hsb ▸ HBL2.out.size
          have HK9 := Lib.hid hk9
          have HALL9 := Lib.hid hall9
          have HO9 := Lib.hid hO9
          have HBL9 := Lib.hid hbl9
          have HSB := Lib.hid hsb0
          have HW9 := Lib.hid hw9
          have HSE := Lib.hid hsb
          clear hw9 hb9 hsb hk9 hall9 hO9 hbl9 hsb0 HALL HO HBL2
          have hcN : c ≤ 6 ∧ 0 ≤ c := by
            have h1 := HALL9.out.K
            have h2 := cnt_le (fun i => (f i).x.ended) Nm
            have := HN6.out
            omega
          have HCN := Lib.hid hcN
          clear hcN
          go_wp2_with fail
          rw [← HW9.out, HSE.out]
          clear HW9 HSE gt
          go_loopw [12, 14] (fun z i w10 => ∃ (k : Nat) (bl : List Bool), k ≤ Nm ∧ z = .int .i64 (cnt (fun j => (f j).x.ended) k) ∧ i = .int .i64 k ∧ bl.length = 6 ∧ w10.heap[sb]? = some (.cells (bl.map Value.bool).toArray 37 (0, 0)) ∧ (∀ q : Nat, q < 6 → bl.getD q false = true → ∃ j, j < k ∧ (f j).x.ended = true ∧ (f j).x.out = .iface 3 (.int .i64 q)) ∧ All w10 w.heap.size mb cb hb c n f Nm t ∧ OwnP w10 (.slice Ax Nm cx) xs ∧ Below w.heap.size w w10) (fun _ i _ => Nm - (intOf i).toNat)
          case atStart => exact ⟨0, [false, false, false, false, false, false], Nat.zero_le _, rfl, rfl, rfl, HK9.out, fun q hq h => by (match q, hq with | 0, _ => cases h | 1, _ => cases h | 2, _ => cases h | 3, _ => cases h | 4, _ => cases h | 5, _ => cases h), HALL9.out, HO9.out, HBL9.out⟩
          case round =>
            obtain ⟨k, bl, hk, rfl, rfl, hlen, hbk, hbs, hall, hO, hbl⟩ := hrel
            have HBK := Lib.hid hbk
            have HBS := Lib.hid hbs
            have HALL := Lib.hid hall
            have HO := Lib.hid hO
            have HBL := Lib.hid hbl
            have HLEN := Lib.hid hlen
            have hk6 : Nm ≤ 6 := HN6.out.2
            clear hbk hbs hlen HK9 HALL9 HO9 HBL9
            by_cases hkN : k < Nm
            · have gk : decide ((k : Int) < (Nm : Int)) = true := decide_eq_true (by omega)
              have hxn := HXN.out
              obtain ⟨g, hAx, hpc⟩ := (by have := hO; rw [← hxn] at this; exact this.cell k (by omega) : ∃ g, Ax = some ⟨g, 0, none⟩ ∧ _)
              rw [HF.out k hkN] at hpc
              subst hAx
              have hM := Lib.hid (hall.R k hkN).M
              have hJ := hall.J k hkN
              have hs : cnt (fun j => (f j).x.ended) (k + 1) = cnt (fun j => (f j).x.ended) k + if (f k).x.ended = true then 1 else 0 := rfl
              obtain ⟨ci, hci⟩ : ∃ y, cnt (fun j => (f j).x.ended) k = y := ⟨_, rfl⟩
              have hci6 : ci ≤ 6 := by have := cnt_le (fun j => (f j).x.ended) k; omega
              rw [hci] at hs ⊢
              have HS := Lib.hid hs
              clear hall hO hbl hs hci
              rcases hJ with ⟨hr, _⟩ | ⟨hr, hlg, o, ho0, hoc, hout⟩
              · have hr' := hM.out
                rw [hr] at hr'
                have HM := Lib.hid hr'
                rw [hr] at HS
                clear hr' hM
                go_wp2_with fail
                refine (mended_calls HM.out).mono ?_
                rintro e w11 ⟨rfl, rfl⟩
                clear hpc
                go_wp2_with fail
                go_roundw
                case rel => exact ⟨k + 1, bl, by omega, by rw [HS.out]; rfl, by go_num, HLEN.out, HBK.out, fun q hq h => by (obtain ⟨j, j1, j2⟩ := HBS.out q hq h; exact ⟨j, by omega, j2⟩), HALL.out, HO.out, HBL.out⟩
                case measure => simp [intOf]; omega
              · have hr' := hM.out
                rw [hr, hout] at hr'
                have HM := Lib.hid hr'
                rw [hr] at HS
                obtain ⟨on, hon⟩ : ∃ y : Nat, o = (y : Int) := ⟨o.toNat, by omega⟩
                subst hon
                have ho6 : on < 6 := by have := HCN.out; omega
                have hfresh : bl.getD on false = false := by
                  cases e : bl.getD on false with
                  | false => rfl
                  | true =>
                    obtain ⟨j, j1, j2, j3⟩ := HBS.out on ho6 e
                    exact absurd (j3.trans hout.symm) (HALL.out.O j k (by omega) hkN (by omega) j2 hr)
                have hblt : on < bl.length := by rw [HLEN.out]; exact ho6
                have hseen : wr.cell? ⟨sb, on, none⟩ = some (.bool false) := by
                  rw [blk_cell HBK.out on]
                  rw [List.getD_eq_getElem?_getD, List.getElem?_eq_getElem hblt] at hfresh
                  simp only [Option.getD_some] at hfresh
                  simp [List.getElem?_eq_getElem hblt, hfresh]
                have hz := blk_frozen HBK.out on
                have hset : (wr.setCell ⟨sb, on, none⟩ (.bool true)).heap[sb]? = some (.cells ((bl.set on true).map Value.bool).toArray 37 (0, 0)) := by
                  rw [blk_set HBK.out on (.bool true)]
                  simp [List.map_set]
                have hO11 : Only wr (wr.setCell ⟨sb, on, none⟩ (.bool true)) sb := Only.set _ _ _
                have hall11 := HALL.out.of_blocks (w' := wr.setCell ⟨sb, on, none⟩ (.bool true)) (fun q cs ty h _ ht => hO11.block q (by
                  rintro rfl
                  rw [HBK.out] at h
                  injection h with h
                  injection h with _ h
                  exact ht h.symm))
                have hrow11 : OwnP (wr.setCell ⟨sb, on, none⟩ (.bool true)) (.slice (some ⟨g, 0, none⟩) Nm cx) xs := HO.out.move fun q hq => hO11.block q (fun e => HO.out.ne HBK.out (by decide) (e ▸ hq).symm)
                have hbl11 : Below w.heap.size w (wr.setCell ⟨sb, on, none⟩ (.bool true)) := ⟨HBL.out.os, HBL.out.tape, HBL.out.output, Nat.le_trans HBL.out.size (Nat.le_of_eq hO11.size.symm), fun q hq => (hO11.block q (by have := HSB.out; omega)).trans (HBL.out.block q hq)⟩
                have hbs11 : ∀ q : Nat, q < 6 → (bl.set on true).getD q false = true → ∃ j, j < k + 1 ∧ (f j).x.ended = true ∧ (f j).x.out = .iface 3 (.int .i64 q) := by
                  intro q hq h
                  by_cases e : q = on
                  · subst e
                    exact ⟨k, by omega, hr, hout⟩
                  · rw [List.getD_eq_getElem?_getD, List.getElem?_set_ne (Ne.symm e), ← List.getD_eq_getElem?_getD] at h
                    obtain ⟨j, j1, j2⟩ := HBS.out q hq h
                    exact ⟨j, by omega, j2⟩
                have HSET := Lib.hid hset
                have HALL11 := Lib.hid hall11
                have HROW11 := Lib.hid hrow11
                have HBL11 := Lib.hid hbl11
                have HBS11 := Lib.hid hbs11
                have hta := ta_seven (on : Int)
                have d1 : decide ((on : Int) < 0) = false := decide_eq_false (by omega)
                have d2 : decide ((6 : Int) ≤ (on : Int)) = false := decide_eq_false (by omega)
                have d3 : decide (6 ≤ on) = false := decide_eq_false (by omega)
                have d4 : on < 6 := ho6
                have d5 : (on : Int) < 6 := by omega
                clear hset hall11 hrow11 hbl11 hbs11 hO11 hfresh hr' hM hout ho0 hoc hblt
                go_wp2_with fail
                refine (mended_calls HM.out).mono ?_
                rintro e w11 ⟨rfl, rfl⟩
                go_wp2_with fail
                refine (mout_calls HM.out).mono ?_
                rintro e w11 ⟨rfl, rfl⟩
                go_wp2_with fail
                go_roundw
                case rel => exact ⟨k + 1, bl.set on true, by omega, by rw [HS.out]; go_num, by go_num, by rw [List.length_set]; exact HLEN.out, HSET.out, HBS11.out, HALL11.out, HROW11.out, HBL11.out⟩
                case measure => simp [intOf]; omega
            · have gk : decide ((k : Int) < (Nm : Int)) = false := decide_eq_false (by omega)
              have hkn : k = Nm := by omega
              have hck : c = ((cnt (fun j => (f j).x.ended) k : Nat) : Int) := by rw [hkn]; exact hall.K
              obtain ⟨ci, hci⟩ : ∃ y, cnt (fun j => (f j).x.ended) k = y := ⟨_, rfl⟩
              rw [hci] at hck ⊢
              have hA0 := hall.A
              rw [hck] at hA0
              have HA0 := Lib.hid hA0
              have hh := box1 hall.H
              clear hall hO hbl hci hck hA0 hkn
              go_wp2_with fail
              refine (Word_calls HA0.out 1).mono ?_
              rw [word_C]
              rintro e w12 ⟨rfl, hA12, hF12⟩
              have FIN := Lib.hid (hF12.over_ HBL.out HBL.out.size HBA.out.1 HBA.out.2)
              clear hA12 hF12
              go_wp2_with fail
              go_ret
              exact ⟨by simp, FIN.out⟩
set_option maxHeartbeats 800000 in
theorem StepCounts_long (A : Option Addr) (cap : Nat) (l : List Int) (hl : 200 < l.length) (a : Int) (w : World) :
    Calls Try.prog 3 #[.slice A l.length cap, .int .u8 a] w fun e w' => e = .returned (.bool true) ∧ Below w.heap.size w w' := by
  have g1 : decide (200 < l.length) = true := decide_eq_true hl
  have g2 : decide ((200 : Int) < (l.length : Int)) = true := decide_eq_true (by omega)
  go_enter Try.func3, Try.ntmps3
  go_wp2_with fail
  refine (awake13_calls w).mono ?_
  rintro e w1 ⟨rfl, hb1⟩
  go_wp2_with fail
  refine (awake13_calls w1).mono ?_
  rintro e w2 ⟨rfl, hb2⟩
  have FIN := Lib.hid (below_then hb1 hb1.size hb2)
  clear hb1 hb2
  go_wp2_with fail
  go_ret
  exact ⟨rfl, FIN.out⟩
theorem StepCounts_walk (A : Option Addr) (cap : Nat) (l : List Int) (a : Int) (w : World) (hR : (Kd.int .u8).C w A l.length l) (hok : ∀ n ∈ l, (Lit.int .u8 n).wf = true) (ha : (Lit.int .u8 a).wf = true) :
    Calls Try.prog 3 #[.slice A l.length cap, .int .u8 a] w fun e w' => e = .returned (.bool true) ∧ Below w.heap.size w w' := by
  have h8 : ∀ n : Int, (Lit.int .u8 n).wf = true → 0 ≤ n ∧ n ≤ 255 := fun n h => by simpa [Lit.wf, IntKind.min, IntKind.max, IntKind.signed, IntKind.bits] using h
  by_cases hl : l.length ≤ 200
  · exact StepCounts_main A cap l hl a (h8 a ha) w (rdb_of hR) (fun r hr => h8 r (hok r hr))
  · exact StepCounts_long A cap l (by omega) a w
end Go.Proofs.Ythgbgflpjggpmaa.Mem
