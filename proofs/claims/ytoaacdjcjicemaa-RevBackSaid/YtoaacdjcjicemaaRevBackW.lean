/- RevBack, by hand: what is split, and joined again, is the revision without what is gone. -/
import Derived.Test.YtoaacdjcjicemaaRvRevBack
import Derived.Test.YtoaacdjcjicemaaPRevBackx1
namespace Go.Proofs.Ytoaacdjcjicemaa.RvRevBack
open Go.RowKit Go.Proofs.YtoaacdjcjicemaaW.PrintWords Go.Proofs.YtoaacdjcjicemaaW.PrintLast Go.Proofs.YtoaacdjcjicemaaW.PrintMore Go.Proofs.Ytoaacdjcjicemaa.PRevBack Go.Proofs.Ytoaacdjcjicemaa.Pure
set_option linter.unusedVariables false
set_option linter.unusedSimpArgs false
attribute [local go_sem high] eqA32
variable {W W1 : World}
/-- A revision in a block of its own. -/
structure Box (W : World) (g : Nat) (v r : Int) (lo hi : ByteArray) (al de : Bool) (l : List S114) (T : List Int) (A6 : Option Addr) (c6 : Nat) (A7 : Option Addr) (c7 : Nat) (A8 : Option Addr) (c8 : Nat) (A9 : Option Addr) (c9 : Nat) : Prop where
  b : W.heap[g]? = some (.cells (revA v r lo hi al de (keysOf l) (valsOf l) (goneOf l) T A6 c6 A7 c7 A8 c8 A9 c9) 37 (0, 0))
  V : RevAt W (keysOf l) (valsOf l) (goneOf l) T A6 c6 A7 c7 A8 c8 A9 c9
theorem Box.below {g : Nat} {v r : Int} {lo hi : ByteArray} {al de : Bool} {l : List S114} {T : List Int} {A6 A7 A8 A9 : Option Addr} {c6 c7 c8 c9 : Nat} (h : Box W g v r lo hi al de l T A6 c6 A7 c7 A8 c8 A9 c9) (hb : Below W.heap.size W W1) : Box W1 g v r lo hi al de l T A6 c6 A7 c7 A8 c8 A9 c9 := ⟨blk_below h.b hb, h.V.below hb⟩
set_option maxHeartbeats 6400000 in
set_option maxRecDepth 100000 in
theorem RevBack_walk (v : Int) (lo hi : ByteArray) (al : Bool) (A : Option Addr) (c : Nat) (l : List S62) (k : ByteArray) (w : World) (hR : Kd.C k62 w A l.length l) (hc : l.length ≤ c) :
    Calls Try.prog 10 #[.int .i64 v, .agg #[.string lo, .string hi, .bool al], .slice A l.length c, .string k] w fun e w' => e = .returned (.bool true) ∧ Below w.heap.size w w' := by
  obtain ⟨W1, hW1⟩ : ∃ W1 : World, W1 = w.alloc (.cells #[.string lo, .string hi, .bool al] 23) := ⟨_, rfl⟩
  have hB1 : Below w.heap.size w W1 := hW1 ▸ below_alloc (Below.refl _ _) _
  have k1 : W1.heap[w.heap.size]? = some (.cells #[.string lo, .string hi, .bool al] 23 (0, 0)) := hW1 ▸ blk_new _ _
  have hR1 := Kd.C_below hR hB1
  have HW1 := Aside0.mk hW1
  have HC := Aside0.mk hc
  clear hW1 hR hc
  go_enter Try.func10, Try.ntmps10
  go_upto_region 1 with fail
  rw [← HW1.out]
  clear HW1
  go_wp2_with fail
  refine (awake_go W1).mono ?_
  rintro e W2 ⟨rfl, hb2⟩
  have hR2 := Kd.C_below hR1 hb2
  have l1 := blk_below k1 hb2
  have HB2 := Aside0.mk (below_then hB1 hB1.size hb2)
  clear hb2 k1 hB1 hR1
  have short : ∀ X, Below w.heap.size w X → Calls Try.prog 12 #[] X fun e w' => e = .returned (.bool true) ∧ Below w.heap.size w w' := fun X hX => (awake_go X).mono (by
    rintro e w' ⟨rfl, hb⟩
    exact ⟨rfl, below_then hX hX.size hb⟩)
  have SH := Aside0.mk short
  clear short
  rcases few8 l with ⟨f1, hl, sl, vl⟩ | f1
  rotate_left
  · go_wp2_with fail
    refine (few_go hR2 HC.out f1).mono ?_
    rintro e W3 ⟨rfl, hb3⟩
    have HB3 := Aside0.mk (below_then HB2.out HB2.out.size hb3)
    clear hb3
    go_wp2_with fail
    refine (SH.out _ HB3.out).mono ?_
    rintro e W9 ⟨rfl, hb9⟩
    have HB9 := Aside0.mk hb9
    clear hb9
    go_wp2_with fail
    go_ret
    exact ⟨rfl, HB9.out⟩
  go_wp2_with fail
  refine (few_go hR2 HC.out f1).mono ?_
  rintro e W3 ⟨rfl, hb3⟩
  have hR3 := Kd.C_below hR2 hb3
  have m1 := blk_below l1 hb3
  have HB3 := Aside0.mk (below_then HB2.out HB2.out.size hb3)
  clear hb3 l1 hR2 f1
  obtain ⟨s0, s1, s2⟩ := box3_ m1
  go_wp2_with fail
  refine (short_go lo hi al W3).mono ?_
  rintro e W4 ⟨rfl, hb4⟩
  have hR4 := Kd.C_below hR3 hb4
  have n1 := blk_below m1 hb4
  have HB4 := Aside0.mk (below_then HB3.out HB3.out.size hb4)
  clear hb4 m1 hR3 s0 s1 s2
  obtain ⟨d, hd⟩ : ∃ d, (decide ((lo.size : Int) ≤ 40) && decide ((hi.size : Int) ≤ 40)) = d := ⟨_, rfl⟩
  rw [hd]
  clear hd
  cases d
  · skip
    go_wp2_with fail
    refine (SH.out _ HB4.out).mono ?_
    rintro e W9 ⟨rfl, hb9⟩
    have HB9 := Aside0.mk hb9
    clear hb9
    go_wp2_with fail
    go_ret
    exact ⟨rfl, HB9.out⟩
  by_cases hk : 40 < k.size
  · have g1 : decide (40 < k.size) = true := decide_eq_true hk
    have g2 : decide ((40 : Int) < (k.size : Int)) = true := decide_eq_true (by omega)
    go_wp2_with fail
    refine (SH.out _ HB4.out).mono ?_
    rintro e W9 ⟨rfl, hb9⟩
    have HB9 := Aside0.mk hb9
    clear hb9
    go_wp2_with fail
    go_ret
    exact ⟨rfl, HB9.out⟩
  have g1 : decide (40 < k.size) = false := decide_eq_false hk
  have g2 : decide ((40 : Int) < (k.size : Int)) = false := decide_eq_false (by omega)
  obtain ⟨s0, s1, s2⟩ := box3_ n1
  have hlk : k.size ≤ 140737488351232 := by omega
  have hl9 : l.length ≤ 1000 := by omega
  have hml : (l.map cv).length ≤ 1000 := by rw [List.length_map]; exact hl9
  have hof := ev_of8 l hl9
  obtain ⟨M, hME⟩ : ∃ M, l.map cv = M := ⟨_, rfl⟩
  rw [hME] at hml hof sl
  clear hME vl
  have HML := Aside0.mk hml
  have HLK := Aside0.mk hlk
  clear hml hlk
  go_wp2_with fail
  refine (of4_go lo hi al W4).mono ?_
  rintro e W6 ⟨rfl, hb6⟩
  have hR6 := Kd.C_below hR4 hb6
  have HB6 := Aside0.mk (below_then HB4.out HB4.out.size hb6)
  clear hb6 n1 hR4 s0 s1 s2
  go_wp2_with fail
  refine (of_go hR6 HC.out hof).mono ?_
  rintro e W7 ⟨B7, q7, rfl, hM7, hq7, hb7⟩
  have HB7 := Aside0.mk (below_then HB6.out HB6.out.size hb7)
  clear hb7 hR6
  rcases ev_new M HML.out sl v 5 lo hi al with ⟨hM, T, hT, h1⟩ | ⟨hM, h1⟩
  rotate_left
  · go_wp2_with fail
    refine (new_go hM7 hq7 h1).mono ?_
    rintro e W8 ⟨A6, c6, A7, c7, A8, c8, A9, c9, rfl, hA8, hb8⟩
    have HB8 := Aside0.mk (below_alloc (below_then HB7.out HB7.out.size hb8) (.cells (#[.int .i64 0, .int .i64 0, .string ⟨#[]⟩, .string ⟨#[]⟩, .bool false, .bool false, .slice A6 0 c6, .slice A7 0 c7, .slice A8 0 c8, .slice A9 0 c9] : Array Value) 37))
    clear hb8 hM7 h1 hA8
    go_wp2_with fail
    go_ret
    exact ⟨rfl, HB8.out⟩
  have hfc := back_all M HML.out sl v 5 lo hi al hM T hT k HLK.out
  have HFC := Aside0.mk hfc
  clear hfc hT hM
  go_wp2_with fail
  refine (new_go hM7 hq7 h1).mono ?_
  rintro e W8 ⟨A6, c6, A7, c7, A8, c8, A9, c9, rfl, hA8, hb8⟩
  obtain ⟨Wa, hWa⟩ : ∃ Wa : World, Wa = W8.alloc (.cells (#[.int .i64 v, .int .i64 5, .string lo, .string hi, .bool al, .bool false, .slice A6 (keysOf M).length c6, .slice A7 (valsOf M).length c7, .slice A8 (goneOf M).length c8, .slice A9 T.length c9] : Array Value) 37) := ⟨_, rfl⟩
  have hba : Below W8.heap.size W8 Wa := hWa ▸ below_alloc (Below.refl _ _) _
  have ka : Box Wa W8.heap.size v 5 lo hi al false M T A6 c6 A7 c7 A8 c8 A9 c9 := ⟨by rw [hWa]; exact blk_new _ _, hA8.below hba⟩
  have HBa := Aside0.mk (below_then (below_then HB7.out HB7.out.size hb8) (Nat.le_trans HB7.out.size hb8.size) hba)
  have HWA := Aside0.mk hWa
  clear hba hWa hb8 hA8 hM7 hq7 h1
  go_upto_region 4 with fail
  rw [← HWA.out]
  clear HWA
  obtain ⟨ga, hga⟩ : ∃ g, W8.heap.size = g := ⟨_, rfl⟩
  rw [hga] at ka
  rw [hga]
  obtain ⟨x0, x1, x2, x3, x4, x5, x6, x7, x8, x9⟩ := box10_ ka.b
  rcases HFC.out with ⟨N, hN, hL, hS⟩ | ⟨La, Lb, Lj, k2, k3, hi2, Ta, Tb, Tj, na, nb, N, d, p, hd, hw, hM, hS, hJ, hK, hLa, hLb, hLj, hLr, hGr, hGj⟩
  · have HL := Aside0.mk hL
    have hN2 : decide (N < 2) = true := decide_eq_true hN
    have HN2 := Aside0.mk hN2
    clear hL hN2 hN HFC
    go_wp2_with fail
    refine (split_go ka.V hS).mono ?_
    rintro e Wb ⟨B6, d6, B7, d7, B8, d8, B9, d9, E6, f6, E7, f7, E8, f8, E9, f9, rfl, hB1, hB2, hbb⟩
    obtain ⟨Wc, hWc⟩ : ∃ Wc : World, Wc = (Wb.alloc (.cells (#[.int .i64 0, .int .i64 0, .string ⟨#[]⟩, .string ⟨#[]⟩, .bool false, .bool false, .slice B6 0 d6, .slice B7 0 d7, .slice B8 0 d8, .slice B9 0 d9] : Array Value) 37)).alloc (.cells (#[.int .i64 0, .int .i64 0, .string ⟨#[]⟩, .string ⟨#[]⟩, .bool false, .bool false, .slice E6 0 f6, .slice E7 0 f7, .slice E8 0 f8, .slice E9 0 f9] : Array Value) 37) := ⟨_, rfl⟩
    have hbc : Below Wb.heap.size Wb Wc := hWc ▸ below_alloc (below_alloc (Below.refl _ _) _) _
    have kb := (ka.below hbb).below hbc
    have HBc := Aside0.mk (below_then (below_then HBa.out HBa.out.size hbb) (Nat.le_trans HBa.out.size hbb.size) hbc)
    have HWC := Aside0.mk hWc
    clear hWc hbc hbb ka hB1 hB2 hS x0 x1 x2 x3 x4 x5 x6 x7 x8 x9
    go_upto_region 7 with fail
    rw [← HWC.out]
    clear HWC
    obtain ⟨x0, x1, x2, x3, x4, x5, x6, x7, x8, x9⟩ := box10_ kb.b
    go_wp2_with fail
    refine (live_go kb.V HL.out).mono ?_
    rintro e Wd ⟨rfl, hbd⟩
    have FIN := Aside0.mk (below_then HBc.out HBc.out.size hbd)
    have hn2 := HN2.out
    clear hbd kb x0 x1 x2 x3 x4 x5 x6 x7 x8 x9
    go_wp2_with fail
    go_ret
    exact ⟨rfl, FIN.out⟩
  have HD := Aside0.mk hd
  have HW := Aside0.mk hw
  have HM := Aside0.mk hM
  have HJ := Aside0.mk hJ
  have HK := Aside0.mk hK
  have HLa := Aside0.mk hLa
  have HLb := Aside0.mk hLb
  have HLj := Aside0.mk hLj
  have HLr := Aside0.mk hLr
  have HGr := Aside0.mk hGr
  have HGj := Aside0.mk hGj
  clear HFC hd hw hM hJ hK hLa hLb hLj hLr hGr hGj
  go_wp2_with fail
  refine (split_go ka.V hS).mono ?_
  rintro e Wb ⟨B6, d6, B7, d7, B8, d8, B9, d9, E6, f6, E7, f7, E8, f8, E9, f9, rfl, hV1, hV2, hbb⟩
  obtain ⟨Wc, hWc⟩ : ∃ Wc : World, Wc = (Wb.alloc (.cells (#[.int .i64 v, .int .i64 5, .string lo, .string k2, .bool false, .bool false, .slice B6 (keysOf La).length d6, .slice B7 (valsOf La).length d7, .slice B8 (goneOf La).length d8, .slice B9 Ta.length d9] : Array Value) 37)).alloc (.cells (#[.int .i64 v, .int .i64 5, .string k3, .string hi2, .bool al, .bool false, .slice E6 (keysOf Lb).length f6, .slice E7 (valsOf Lb).length f7, .slice E8 (goneOf Lb).length f8, .slice E9 Tb.length f9] : Array Value) 37) := ⟨_, rfl⟩
  have hbc : Below Wb.heap.size Wb Wc := hWc ▸ below_alloc (below_alloc (Below.refl _ _) _) _
  have kr := (ka.below hbb).below hbc
  have kA : Box Wc Wb.heap.size v 5 lo k2 false false La Ta B6 d6 B7 d7 B8 d8 B9 d9 := ⟨by rw [hWc]; exact blk_alloc (blk_new _ _) _, hV1.below hbc⟩
  have kB : Box Wc (Wb.heap.size + 1) v 5 k3 hi2 al false Lb Tb E6 f6 E7 f7 E8 f8 E9 f9 := ⟨by
    have e : Wb.heap.size + 1 = (Wb.alloc (.cells (#[.int .i64 v, .int .i64 5, .string lo, .string k2, .bool false, .bool false, .slice B6 (keysOf La).length d6, .slice B7 (valsOf La).length d7, .slice B8 (goneOf La).length d8, .slice B9 Ta.length d9] : Array Value) 37)).heap.size := by simp
    rw [e, hWc]
    exact blk_new _ _, hV2.below hbc⟩
  have HBc := Aside0.mk (below_then (below_then HBa.out HBa.out.size hbb) (Nat.le_trans HBa.out.size hbb.size) hbc)
  have HWC := Aside0.mk hWc
  clear hWc hbc hbb ka hV1 hV2 hS x0 x1 x2 x3 x4 x5 x6 x7 x8 x9
  go_upto_region 7 with fail
  rw [← HWC.out]
  clear HWC
  obtain ⟨g2, hg2⟩ : ∃ g, Wb.heap.size + 1 = g := ⟨_, rfl⟩
  rw [hg2] at kB
  rw [hg2]
  obtain ⟨g1, hg1⟩ : ∃ g, Wb.heap.size = g := ⟨_, rfl⟩
  rw [hg1] at kA
  rw [hg1]
  clear hg1 hg2 hga
  obtain ⟨x0, x1, x2, x3, x4, x5, x6, x7, x8, x9⟩ := box10_ kA.b
  obtain ⟨y0, y1, y2, y3, y4, y5, y6, y7, y8, y9⟩ := box10_ kB.b
  go_wp2_with fail
  refine (join_go kA.V kB.V HJ.out).mono ?_
  rintro e Wd ⟨D6, e6, D7, e7, D8, e8, D9, e9, rfl, hVj, hbd⟩
  obtain ⟨We, hWe⟩ : ∃ We : World, We = Wd.alloc (.cells (#[.int .i64 v, .int .i64 5, .string lo, .string hi2, .bool al, .bool false, .slice D6 (keysOf Lj).length e6, .slice D7 (valsOf Lj).length e7, .slice D8 (goneOf Lj).length e8, .slice D9 Tj.length e9] : Array Value) 37) := ⟨_, rfl⟩
  have hbe : Below Wd.heap.size Wd We := hWe ▸ below_alloc (Below.refl _ _) _
  have kJ : Box We Wd.heap.size v 5 lo hi2 al false Lj Tj D6 e6 D7 e7 D8 e8 D9 e9 := ⟨by rw [hWe]; exact blk_new _ _, hVj.below hbe⟩
  obtain ⟨gj, hgj⟩ : ∃ g, Wd.heap.size = g := ⟨_, rfl⟩
  rw [hgj] at kJ
  obtain ⟨KK, hKK⟩ : ∃ KK : World → Prop, ∀ X, KK X ↔ (Below w.heap.size w X ∧ Box X ga v 5 lo hi al false M T A6 c6 A7 c7 A8 c8 A9 c9 ∧ Box X g1 v 5 lo k2 false false La Ta B6 d6 B7 d7 B8 d8 B9 d9 ∧ Box X g2 v 5 k3 hi2 al false Lb Tb E6 f6 E7 f7 E8 f8 E9 f9 ∧ Box X gj v 5 lo hi2 al false Lj Tj D6 e6 D7 e7 D8 e8 D9 e9) := ⟨_, fun _ => Iff.rfl⟩
  have KE := Aside0.mk ((hKK We).2 ⟨below_then (below_then HBc.out HBc.out.size hbd) (Nat.le_trans HBc.out.size hbd.size) hbe, (kr.below hbd).below hbe, (kA.below hbd).below hbe, (kB.below hbd).below hbe, kJ⟩)
  have HKB := Aside0.mk (show ∀ X Y, KK X → Below X.heap.size X Y → KK Y from fun X Y h hb => by
    obtain ⟨q0, q1, q2, q3, q4⟩ := (hKK X).1 h
    exact (hKK Y).2 ⟨below_then q0 q0.size hb, q1.below hb, q2.below hb, q3.below hb, q4.below hb⟩)
  have HKK := Aside0.mk hKK
  have HWE := Aside0.mk hWe
  clear hKK hWe hbe hbd hVj kJ kr kA kB x0 x1 x2 x3 x4 x5 x6 x7 x8 x9 y0 y1 y2 y3 y4 y5 y6 y7 y8 y9
  go_upto_region 10 with fail
  rw [← HWE.out]
  clear HWE hgj HBc HBa

  have SOF := Aside0.mk (show ∀ w', KK w' → (w'.cell? ⟨g1, 0, none⟩ = some (.int .i64 v) ∧ w'.cell? ⟨g1, 1, none⟩ = some (.int .i64 5) ∧ w'.cell? ⟨g1, 2, none⟩ = some (.string lo) ∧ w'.cell? ⟨g1, 3, none⟩ = some (.string k2) ∧ w'.cell? ⟨g1, 4, none⟩ = some (.bool false) ∧ w'.cell? ⟨g1, 5, none⟩ = some (.bool false) ∧ w'.cell? ⟨g1, 6, none⟩ = some (.slice B6 (keysOf La).length d6) ∧ w'.cell? ⟨g1, 7, none⟩ = some (.slice B7 (valsOf La).length d7) ∧ w'.cell? ⟨g1, 8, none⟩ = some (.slice B8 (goneOf La).length d8) ∧ w'.cell? ⟨g1, 9, none⟩ = some (.slice B9 Ta.length d9) ∧ w'.cell? ⟨g2, 0, none⟩ = some (.int .i64 v) ∧ w'.cell? ⟨g2, 1, none⟩ = some (.int .i64 5) ∧ w'.cell? ⟨g2, 2, none⟩ = some (.string k3) ∧ w'.cell? ⟨g2, 3, none⟩ = some (.string hi2) ∧ w'.cell? ⟨g2, 4, none⟩ = some (.bool al) ∧ w'.cell? ⟨g2, 5, none⟩ = some (.bool false) ∧ w'.cell? ⟨g2, 6, none⟩ = some (.slice E6 (keysOf Lb).length f6) ∧ w'.cell? ⟨g2, 7, none⟩ = some (.slice E7 (valsOf Lb).length f7) ∧ w'.cell? ⟨g2, 8, none⟩ = some (.slice E8 (goneOf Lb).length f8) ∧ w'.cell? ⟨g2, 9, none⟩ = some (.slice E9 Tb.length f9) ∧ KK w') from fun w' hk => by
    obtain ⟨q0, q1, q2, q3, q4⟩ := (HKK.out w').1 hk
    obtain ⟨x0, x1, x2, x3, x4, x5, x6, x7, x8, x9⟩ := box10_ q2.b
    obtain ⟨y0, y1, y2, y3, y4, y5, y6, y7, y8, y9⟩ := box10_ q3.b
    exact ⟨x0, x1, x2, x3, x4, x5, x6, x7, x8, x9, y0, y1, y2, y3, y4, y5, y6, y7, y8, y9, hk⟩)
  have LASTK := Aside0.mk (show ∀ w', (w'.cell? ⟨g1, 0, none⟩ = some (.int .i64 v) ∧ w'.cell? ⟨g1, 1, none⟩ = some (.int .i64 5) ∧ w'.cell? ⟨g1, 2, none⟩ = some (.string lo) ∧ w'.cell? ⟨g1, 3, none⟩ = some (.string k2) ∧ w'.cell? ⟨g1, 4, none⟩ = some (.bool false) ∧ w'.cell? ⟨g1, 5, none⟩ = some (.bool false) ∧ w'.cell? ⟨g1, 6, none⟩ = some (.slice B6 (keysOf La).length d6) ∧ w'.cell? ⟨g1, 7, none⟩ = some (.slice B7 (valsOf La).length d7) ∧ w'.cell? ⟨g1, 8, none⟩ = some (.slice B8 (goneOf La).length d8) ∧ w'.cell? ⟨g1, 9, none⟩ = some (.slice B9 Ta.length d9) ∧ w'.cell? ⟨g2, 0, none⟩ = some (.int .i64 v) ∧ w'.cell? ⟨g2, 1, none⟩ = some (.int .i64 5) ∧ w'.cell? ⟨g2, 2, none⟩ = some (.string k3) ∧ w'.cell? ⟨g2, 3, none⟩ = some (.string hi2) ∧ w'.cell? ⟨g2, 4, none⟩ = some (.bool al) ∧ w'.cell? ⟨g2, 5, none⟩ = some (.bool false) ∧ w'.cell? ⟨g2, 6, none⟩ = some (.slice E6 (keysOf Lb).length f6) ∧ w'.cell? ⟨g2, 7, none⟩ = some (.slice E7 (valsOf Lb).length f7) ∧ w'.cell? ⟨g2, 8, none⟩ = some (.slice E8 (goneOf Lb).length f8) ∧ w'.cell? ⟨g2, 9, none⟩ = some (.slice E9 Tb.length f9) ∧ KK w') → KK w' from fun w' h => h.2.2.2.2.2.2.2.2.2.2.2.2.2.2.2.2.2.2.2.2)
  have KF := Aside0.mk (SOF.out _ (HKB.out _ _ KE.out (pw_below_drewN (Below.refl We.heap.size We) 1)))
  clear KE
  refine start_ (n := 6) (S := fun w' => w'.cell? ⟨g1, 0, none⟩ = some (.int .i64 v) ∧ w'.cell? ⟨g1, 1, none⟩ = some (.int .i64 5) ∧ w'.cell? ⟨g1, 2, none⟩ = some (.string lo) ∧ w'.cell? ⟨g1, 3, none⟩ = some (.string k2) ∧ w'.cell? ⟨g1, 4, none⟩ = some (.bool false) ∧ w'.cell? ⟨g1, 5, none⟩ = some (.bool false) ∧ w'.cell? ⟨g1, 6, none⟩ = some (.slice B6 (keysOf La).length d6) ∧ w'.cell? ⟨g1, 7, none⟩ = some (.slice B7 (valsOf La).length d7) ∧ w'.cell? ⟨g1, 8, none⟩ = some (.slice B8 (goneOf La).length d8) ∧ w'.cell? ⟨g1, 9, none⟩ = some (.slice B9 Ta.length d9) ∧ w'.cell? ⟨g2, 0, none⟩ = some (.int .i64 v) ∧ w'.cell? ⟨g2, 1, none⟩ = some (.int .i64 5) ∧ w'.cell? ⟨g2, 2, none⟩ = some (.string k3) ∧ w'.cell? ⟨g2, 3, none⟩ = some (.string hi2) ∧ w'.cell? ⟨g2, 4, none⟩ = some (.bool al) ∧ w'.cell? ⟨g2, 5, none⟩ = some (.bool false) ∧ w'.cell? ⟨g2, 6, none⟩ = some (.slice E6 (keysOf Lb).length f6) ∧ w'.cell? ⟨g2, 7, none⟩ = some (.slice E7 (valsOf Lb).length f7) ∧ w'.cell? ⟨g2, 8, none⟩ = some (.slice E8 (goneOf Lb).length f8) ∧ w'.cell? ⟨g2, 9, none⟩ = some (.slice E9 Tb.length f9) ∧ KK w') (ds := []) #[false, false, false, false, false, false] rfl rfl rfl (KF.out) ?_
  intro hHeld
  refine take_ (i := 0) (N := some 69) (v := ?_) (a' := ?_) #[true, false, false, false, false, false] rfl rfl (by kernel_rfl) (fun _ _ _ h => h) (Or.inl ⟨by rfl, ?_⟩) hHeld ?_ ?_
  rotate_left
  · rintro w' hHeld'
    have hHeld'' := hHeld'
    (try obtain ⟨r0_, r1_⟩ := hHeld')
    (try obtain ⟨r1_, r2_⟩ := r1_)
    (try obtain ⟨r2_, r3_⟩ := r2_)
    (try obtain ⟨r3_, r4_⟩ := r3_)
    (try obtain ⟨r4_, r5_⟩ := r4_)
    (try obtain ⟨r5_, r6_⟩ := r5_)
    (try obtain ⟨r6_, r7_⟩ := r6_)
    (try obtain ⟨r7_, r8_⟩ := r7_)
    (try obtain ⟨r8_, r9_⟩ := r8_)
    (try obtain ⟨r9_, r10_⟩ := r9_)
    (try obtain ⟨r10_, r11_⟩ := r10_)
    (try obtain ⟨r11_, r12_⟩ := r11_)
    (try obtain ⟨r12_, r13_⟩ := r12_)
    (try obtain ⟨r13_, r14_⟩ := r13_)
    (try obtain ⟨r14_, r15_⟩ := r14_)
    (try obtain ⟨r15_, r16_⟩ := r15_)
    (try obtain ⟨r16_, r17_⟩ := r16_)
    (try obtain ⟨r17_, r18_⟩ := r17_)
    (try obtain ⟨r18_, r19_⟩ := r18_)
    (try obtain ⟨r19_, r20_⟩ := r19_)
    (try obtain ⟨r20_, r21_⟩ := r20_)
    (try obtain ⟨r21_, r22_⟩ := r21_)
    (try obtain ⟨r22_, r23_⟩ := r22_)
    (try obtain ⟨r23_, r24_⟩ := r23_)
    (try obtain ⟨r24_, r25_⟩ := r24_)
    (try obtain ⟨r25_, r26_⟩ := r25_)
    (try obtain ⟨r26_, r27_⟩ := r26_)
    (try obtain ⟨r27_, r28_⟩ := r27_)
    (try obtain ⟨r28_, r29_⟩ := r28_)
    (try obtain ⟨r29_, r30_⟩ := r29_)
    (try obtain ⟨r7_, r8_⟩ := r7_)
    (try obtain ⟨r8_, r9_⟩ := r8_)
    go_simp
    with_reducible rfl
  rotate_left
  · simp only [Act.put, List.setIfInBounds_toArray, List.set_cons_zero, List.set_cons_succ, i64_w, i32_w]
    rfl
  refine take_ (i := 2) (N := some 71) (v := ?_) (a' := ?_) #[true, false, true, false, false, false] rfl rfl (by kernel_rfl) (fun _ _ _ h => h) (Or.inl ⟨by rfl, ?_⟩) hHeld ?_ ?_
  rotate_left
  · rintro w' hHeld'
    have hHeld'' := hHeld'
    (try obtain ⟨r0_, r1_⟩ := hHeld')
    (try obtain ⟨r1_, r2_⟩ := r1_)
    (try obtain ⟨r2_, r3_⟩ := r2_)
    (try obtain ⟨r3_, r4_⟩ := r3_)
    (try obtain ⟨r4_, r5_⟩ := r4_)
    (try obtain ⟨r5_, r6_⟩ := r5_)
    (try obtain ⟨r6_, r7_⟩ := r6_)
    (try obtain ⟨r7_, r8_⟩ := r7_)
    (try obtain ⟨r8_, r9_⟩ := r8_)
    (try obtain ⟨r9_, r10_⟩ := r9_)
    (try obtain ⟨r10_, r11_⟩ := r10_)
    (try obtain ⟨r11_, r12_⟩ := r11_)
    (try obtain ⟨r12_, r13_⟩ := r12_)
    (try obtain ⟨r13_, r14_⟩ := r13_)
    (try obtain ⟨r14_, r15_⟩ := r14_)
    (try obtain ⟨r15_, r16_⟩ := r15_)
    (try obtain ⟨r16_, r17_⟩ := r16_)
    (try obtain ⟨r17_, r18_⟩ := r17_)
    (try obtain ⟨r18_, r19_⟩ := r18_)
    (try obtain ⟨r19_, r20_⟩ := r19_)
    (try obtain ⟨r20_, r21_⟩ := r20_)
    (try obtain ⟨r21_, r22_⟩ := r21_)
    (try obtain ⟨r22_, r23_⟩ := r22_)
    (try obtain ⟨r23_, r24_⟩ := r23_)
    (try obtain ⟨r24_, r25_⟩ := r24_)
    (try obtain ⟨r25_, r26_⟩ := r25_)
    (try obtain ⟨r26_, r27_⟩ := r26_)
    (try obtain ⟨r27_, r28_⟩ := r27_)
    (try obtain ⟨r28_, r29_⟩ := r28_)
    (try obtain ⟨r29_, r30_⟩ := r29_)
    (try obtain ⟨r7_, r8_⟩ := r7_)
    (try obtain ⟨r8_, r9_⟩ := r8_)
    go_simp
    with_reducible rfl
  rotate_left
  · simp only [Act.put, List.setIfInBounds_toArray, List.set_cons_zero, List.set_cons_succ, i64_w, i32_w]
    rfl
  refine one_ (i := 1) (N := some 70) #[true, true, true, false, false, false] rfl rfl (by kernel_rfl) (by decide) (fun K hSh => ?_)
  refine goes_ Try.func26 (by kernel_rfl) rfl #[.agg (revA v 5 lo k2 false false (keysOf La) (valsOf La) (goneOf La) Ta B6 d6 B7 d7 B8 d8 B9 d9)] (by rfl) rfl rfl (by (try simp only [List.map_toArray, List.map_cons, List.map_nil]); rfl) ?_
  refine (live_go ((HKK.out _).1 (LASTK.out _ hHeld)).2.2.1.V HLa.out).mono ?_
  rintro e V1 ⟨rfl, hb⟩
  refine ⟨_, rfl, hSh.out _ _ (SOF.out _ (HKB.out _ _ (LASTK.out _ hHeld) hb)) ?_⟩
  clear hHeld hb hSh
  intro hHeld
  refine norm_ (a' := ?_) ?_ ?_
  rotate_left
  · simp only [Act.put, List.setIfInBounds_toArray, List.set_cons_zero, List.set_cons_succ, i64_w, i32_w]
    rfl
  refine one_ (i := 3) (N := some 72) #[true, true, true, true, false, false] rfl rfl (by kernel_rfl) (by decide) (fun K hSh => ?_)
  refine goes_ Try.func26 (by kernel_rfl) rfl #[.agg (revA v 5 k3 hi2 al false (keysOf Lb) (valsOf Lb) (goneOf Lb) Tb E6 f6 E7 f7 E8 f8 E9 f9)] (by rfl) rfl rfl (by (try simp only [List.map_toArray, List.map_cons, List.map_nil]); rfl) ?_
  refine (live_go ((HKK.out _).1 (LASTK.out _ hHeld)).2.2.2.1.V HLb.out).mono ?_
  rintro e V3 ⟨rfl, hb⟩
  refine ⟨_, rfl, hSh.out _ _ (SOF.out _ (HKB.out _ _ (LASTK.out _ hHeld) hb)) ?_⟩
  clear hHeld hb hSh
  intro hHeld
  refine norm_ (a' := ?_) ?_ ?_
  rotate_left
  · simp only [Act.put, List.setIfInBounds_toArray, List.set_cons_zero, List.set_cons_succ, i64_w, i32_w]
    rfl
  refine pure_ (i := 4) (N := some 73) (v := ?_) (a' := ?_) #[true, true, true, true, true, false] rfl rfl (by kernel_rfl) (fun _ _ _ h => h) (Or.inl ⟨by rfl, ?_⟩) ?_ ?_
  rotate_left
  · intro w'
    go_simp
    with_reducible rfl
  rotate_left
  · simp only [Act.put, List.setIfInBounds_toArray, List.set_cons_zero, List.set_cons_succ, i64_w, i32_w]
    rfl
  refine pure_ (i := 5) (N := some 16) (v := ?_) (a' := ?_) #[true, true, true, true, true, true] rfl rfl (by kernel_rfl) (fun _ _ _ h => h) (Or.inl ⟨by rfl, ?_⟩) ?_ ?_
  rotate_left
  · intro w'
    go_simp
    with_reducible rfl
  rotate_left
  · simp only [Act.put, List.setIfInBounds_toArray, List.set_cons_zero, List.set_cons_succ, i64_w, i32_w]
    rfl
  refine done_ (by kernel_rfl) ?_
  have KE := Aside0.mk (LASTK.out _ hHeld)
  clear hHeld LASTK SOF KF
  rw [HW.out]
  clear HW
  obtain ⟨x0, x1, x2, x3, x4, x5, x6, x7, x8, x9⟩ := box10_ ((HKK.out _).1 KE.out).2.1.b
  go_wp2_with fail
  refine (get_go ((HKK.out _).1 KE.out).2.1.V HGr.out).mono ?_
  rintro e Wf ⟨rfl, hbf⟩
  have KF := Aside0.mk (HKB.out _ _ KE.out hbf)
  clear hbf KE x0 x1 x2 x3 x4 x5 x6 x7 x8 x9
  obtain ⟨x0, x1, x2, x3, x4, x5, x6, x7, x8, x9⟩ := box10_ ((HKK.out _).1 KF.out).2.2.2.2.b
  go_wp2_with fail
  refine (get_go ((HKK.out _).1 KF.out).2.2.2.2.V HGj.out).mono ?_
  rintro e Wg ⟨rfl, hbg⟩
  have KE := Aside0.mk (HKB.out _ _ KF.out hbg)
  clear hbg KF x0 x1 x2 x3 x4 x5 x6 x7 x8 x9
  obtain ⟨p1, p2⟩ := p
  simp only
  go_upto_region 13 with fail
  have SOF := Aside0.mk (show ∀ w', KK w' → (w'.cell? ⟨gj, 0, none⟩ = some (.int .i64 v) ∧ w'.cell? ⟨gj, 1, none⟩ = some (.int .i64 5) ∧ w'.cell? ⟨gj, 2, none⟩ = some (.string lo) ∧ w'.cell? ⟨gj, 3, none⟩ = some (.string hi2) ∧ w'.cell? ⟨gj, 4, none⟩ = some (.bool al) ∧ w'.cell? ⟨gj, 5, none⟩ = some (.bool false) ∧ w'.cell? ⟨gj, 6, none⟩ = some (.slice D6 (keysOf Lj).length e6) ∧ w'.cell? ⟨gj, 7, none⟩ = some (.slice D7 (valsOf Lj).length e7) ∧ w'.cell? ⟨gj, 8, none⟩ = some (.slice D8 (goneOf Lj).length e8) ∧ w'.cell? ⟨gj, 9, none⟩ = some (.slice D9 Tj.length e9) ∧ w'.cell? ⟨ga, 0, none⟩ = some (.int .i64 v) ∧ w'.cell? ⟨ga, 1, none⟩ = some (.int .i64 5) ∧ w'.cell? ⟨ga, 2, none⟩ = some (.string lo) ∧ w'.cell? ⟨ga, 3, none⟩ = some (.string hi) ∧ w'.cell? ⟨ga, 4, none⟩ = some (.bool al) ∧ w'.cell? ⟨ga, 5, none⟩ = some (.bool false) ∧ w'.cell? ⟨ga, 6, none⟩ = some (.slice A6 (keysOf M).length c6) ∧ w'.cell? ⟨ga, 7, none⟩ = some (.slice A7 (valsOf M).length c7) ∧ w'.cell? ⟨ga, 8, none⟩ = some (.slice A8 (goneOf M).length c8) ∧ w'.cell? ⟨ga, 9, none⟩ = some (.slice A9 T.length c9) ∧ w'.cell? ⟨g1, 2, none⟩ = some (.string lo) ∧ w'.cell? ⟨g1, 3, none⟩ = some (.string k2) ∧ w'.cell? ⟨g1, 4, none⟩ = some (.bool false) ∧ w'.cell? ⟨g2, 2, none⟩ = some (.string k3) ∧ w'.cell? ⟨g2, 3, none⟩ = some (.string hi2) ∧ w'.cell? ⟨g2, 4, none⟩ = some (.bool al) ∧ KK w') from fun w' hk => by
    obtain ⟨q0, q1, q2, q3, q4⟩ := (HKK.out w').1 hk
    obtain ⟨r0, r1, r2, r3, r4, r5, r6, r7, r8, r9⟩ := box10_ q1.b
    obtain ⟨x0, x1, x2, x3, x4, x5, x6, x7, x8, x9⟩ := box10_ q2.b
    obtain ⟨y0, y1, y2, y3, y4, y5, y6, y7, y8, y9⟩ := box10_ q3.b
    obtain ⟨j0, j1, j2, j3, j4, j5, j6, j7, j8, j9⟩ := box10_ q4.b
    exact ⟨j0, j1, j2, j3, j4, j5, j6, j7, j8, j9, r0, r1, r2, r3, r4, r5, r6, r7, r8, r9, x2, x3, x4, y2, y3, y4, hk⟩)
  have LASTK := Aside0.mk (show ∀ w', (w'.cell? ⟨gj, 0, none⟩ = some (.int .i64 v) ∧ w'.cell? ⟨gj, 1, none⟩ = some (.int .i64 5) ∧ w'.cell? ⟨gj, 2, none⟩ = some (.string lo) ∧ w'.cell? ⟨gj, 3, none⟩ = some (.string hi2) ∧ w'.cell? ⟨gj, 4, none⟩ = some (.bool al) ∧ w'.cell? ⟨gj, 5, none⟩ = some (.bool false) ∧ w'.cell? ⟨gj, 6, none⟩ = some (.slice D6 (keysOf Lj).length e6) ∧ w'.cell? ⟨gj, 7, none⟩ = some (.slice D7 (valsOf Lj).length e7) ∧ w'.cell? ⟨gj, 8, none⟩ = some (.slice D8 (goneOf Lj).length e8) ∧ w'.cell? ⟨gj, 9, none⟩ = some (.slice D9 Tj.length e9) ∧ w'.cell? ⟨ga, 0, none⟩ = some (.int .i64 v) ∧ w'.cell? ⟨ga, 1, none⟩ = some (.int .i64 5) ∧ w'.cell? ⟨ga, 2, none⟩ = some (.string lo) ∧ w'.cell? ⟨ga, 3, none⟩ = some (.string hi) ∧ w'.cell? ⟨ga, 4, none⟩ = some (.bool al) ∧ w'.cell? ⟨ga, 5, none⟩ = some (.bool false) ∧ w'.cell? ⟨ga, 6, none⟩ = some (.slice A6 (keysOf M).length c6) ∧ w'.cell? ⟨ga, 7, none⟩ = some (.slice A7 (valsOf M).length c7) ∧ w'.cell? ⟨ga, 8, none⟩ = some (.slice A8 (goneOf M).length c8) ∧ w'.cell? ⟨ga, 9, none⟩ = some (.slice A9 T.length c9) ∧ w'.cell? ⟨g1, 2, none⟩ = some (.string lo) ∧ w'.cell? ⟨g1, 3, none⟩ = some (.string k2) ∧ w'.cell? ⟨g1, 4, none⟩ = some (.bool false) ∧ w'.cell? ⟨g2, 2, none⟩ = some (.string k3) ∧ w'.cell? ⟨g2, 3, none⟩ = some (.string hi2) ∧ w'.cell? ⟨g2, 4, none⟩ = some (.bool al) ∧ KK w') → KK w' from fun w' h => h.2.2.2.2.2.2.2.2.2.2.2.2.2.2.2.2.2.2.2.2.2.2.2.2.2.2)
  have KF := Aside0.mk (SOF.out _ (HKB.out _ _ KE.out (pw_below_drewN (Below.refl Wg.heap.size Wg) 1)))
  clear KE
  rcases HD.out with rfl | rfl
  · skip
    clear HD
    refine start_ (n := 49) (S := fun w' => w'.cell? ⟨gj, 0, none⟩ = some (.int .i64 v) ∧ w'.cell? ⟨gj, 1, none⟩ = some (.int .i64 5) ∧ w'.cell? ⟨gj, 2, none⟩ = some (.string lo) ∧ w'.cell? ⟨gj, 3, none⟩ = some (.string hi2) ∧ w'.cell? ⟨gj, 4, none⟩ = some (.bool al) ∧ w'.cell? ⟨gj, 5, none⟩ = some (.bool false) ∧ w'.cell? ⟨gj, 6, none⟩ = some (.slice D6 (keysOf Lj).length e6) ∧ w'.cell? ⟨gj, 7, none⟩ = some (.slice D7 (valsOf Lj).length e7) ∧ w'.cell? ⟨gj, 8, none⟩ = some (.slice D8 (goneOf Lj).length e8) ∧ w'.cell? ⟨gj, 9, none⟩ = some (.slice D9 Tj.length e9) ∧ w'.cell? ⟨ga, 0, none⟩ = some (.int .i64 v) ∧ w'.cell? ⟨ga, 1, none⟩ = some (.int .i64 5) ∧ w'.cell? ⟨ga, 2, none⟩ = some (.string lo) ∧ w'.cell? ⟨ga, 3, none⟩ = some (.string hi) ∧ w'.cell? ⟨ga, 4, none⟩ = some (.bool al) ∧ w'.cell? ⟨ga, 5, none⟩ = some (.bool false) ∧ w'.cell? ⟨ga, 6, none⟩ = some (.slice A6 (keysOf M).length c6) ∧ w'.cell? ⟨ga, 7, none⟩ = some (.slice A7 (valsOf M).length c7) ∧ w'.cell? ⟨ga, 8, none⟩ = some (.slice A8 (goneOf M).length c8) ∧ w'.cell? ⟨ga, 9, none⟩ = some (.slice A9 T.length c9) ∧ w'.cell? ⟨g1, 2, none⟩ = some (.string lo) ∧ w'.cell? ⟨g1, 3, none⟩ = some (.string k2) ∧ w'.cell? ⟨g1, 4, none⟩ = some (.bool false) ∧ w'.cell? ⟨g2, 2, none⟩ = some (.string k3) ∧ w'.cell? ⟨g2, 3, none⟩ = some (.string hi2) ∧ w'.cell? ⟨g2, 4, none⟩ = some (.bool al) ∧ KK w') (ds := []) #[false, false, false, false, false, false, false, false, false, false, false, false, false, false, false, false, false, false, false, false, false, false, false, false, false, false, false, false, false, false, false, false, false, false, false, false, false, false, false, false, false, false, false, false, false, false, false, false, false] rfl rfl rfl (KF.out) ?_
    intro hHeld
    refine pure_ (i := 0) (N := some 86) (v := ?_) (a' := ?_) #[true, false, false, false, false, false, false, false, false, false, false, false, false, false, false, false, false, false, false, false, false, false, false, false, false, false, false, false, false, false, false, false, false, false, false, false, false, false, false, false, false, false, false, false, false, false, false, false, false] rfl rfl (by kernel_rfl) (fun _ _ _ h => h) (Or.inl ⟨by rfl, ?_⟩) ?_ ?_
    rotate_left
    · intro w'
      go_simp
      with_reducible rfl
    rotate_left
    · simp only [Act.put, List.setIfInBounds_toArray, List.set_cons_zero, List.set_cons_succ, i64_w, i32_w]
      rfl
    refine pure_ (i := 1) (N := some 87) (v := ?_) (a' := ?_) #[true, true, false, false, false, false, false, false, false, false, false, false, false, false, false, false, false, false, false, false, false, false, false, false, false, false, false, false, false, false, false, false, false, false, false, false, false, false, false, false, false, false, false, false, false, false, false, false, false] rfl rfl (by kernel_rfl) (fun _ _ _ h => h) (Or.inl ⟨by rfl, ?_⟩) ?_ ?_
    rotate_left
    · intro w'
      go_simp
      with_reducible rfl
    rotate_left
    · simp only [Act.put, List.setIfInBounds_toArray, List.set_cons_zero, List.set_cons_succ, i64_w, i32_w]
      rfl
    refine pure_ (i := 2) (N := some 88) (v := ?_) (a' := ?_) #[true, true, true, false, false, false, false, false, false, false, false, false, false, false, false, false, false, false, false, false, false, false, false, false, false, false, false, false, false, false, false, false, false, false, false, false, false, false, false, false, false, false, false, false, false, false, false, false, false] rfl rfl (by kernel_rfl) (fun _ _ _ h => h) (Or.inl ⟨by rfl, ?_⟩) ?_ ?_
    rotate_left
    · intro w'
      go_simp
      with_reducible rfl
    rotate_left
    · simp only [Act.put, List.setIfInBounds_toArray, List.set_cons_zero, List.set_cons_succ, i64_w, i32_w]
      rfl
    refine take_ (i := 3) (N := some 89) (v := ?_) (a' := ?_) #[true, true, true, true, false, false, false, false, false, false, false, false, false, false, false, false, false, false, false, false, false, false, false, false, false, false, false, false, false, false, false, false, false, false, false, false, false, false, false, false, false, false, false, false, false, false, false, false, false] rfl rfl (by kernel_rfl) (fun _ _ _ h => h) (Or.inl ⟨by rfl, ?_⟩) hHeld ?_ ?_
    rotate_left
    · rintro w' hHeld'
      have hHeld'' := hHeld'
      (try obtain ⟨r0_, r1_⟩ := hHeld')
      (try obtain ⟨r1_, r2_⟩ := r1_)
      (try obtain ⟨r2_, r3_⟩ := r2_)
      (try obtain ⟨r3_, r4_⟩ := r3_)
      (try obtain ⟨r4_, r5_⟩ := r4_)
      (try obtain ⟨r5_, r6_⟩ := r5_)
      (try obtain ⟨r6_, r7_⟩ := r6_)
      (try obtain ⟨r7_, r8_⟩ := r7_)
      (try obtain ⟨r8_, r9_⟩ := r8_)
      (try obtain ⟨r9_, r10_⟩ := r9_)
      (try obtain ⟨r10_, r11_⟩ := r10_)
      (try obtain ⟨r11_, r12_⟩ := r11_)
      (try obtain ⟨r12_, r13_⟩ := r12_)
      (try obtain ⟨r13_, r14_⟩ := r13_)
      (try obtain ⟨r14_, r15_⟩ := r14_)
      (try obtain ⟨r15_, r16_⟩ := r15_)
      (try obtain ⟨r16_, r17_⟩ := r16_)
      (try obtain ⟨r17_, r18_⟩ := r17_)
      (try obtain ⟨r18_, r19_⟩ := r18_)
      (try obtain ⟨r19_, r20_⟩ := r19_)
      (try obtain ⟨r20_, r21_⟩ := r20_)
      (try obtain ⟨r21_, r22_⟩ := r21_)
      (try obtain ⟨r22_, r23_⟩ := r22_)
      (try obtain ⟨r23_, r24_⟩ := r23_)
      (try obtain ⟨r24_, r25_⟩ := r24_)
      (try obtain ⟨r25_, r26_⟩ := r25_)
      (try obtain ⟨r26_, r27_⟩ := r26_)
      (try obtain ⟨r27_, r28_⟩ := r27_)
      (try obtain ⟨r28_, r29_⟩ := r28_)
      (try obtain ⟨r29_, r30_⟩ := r29_)
      (try obtain ⟨r7_, r8_⟩ := r7_)
      (try obtain ⟨r8_, r9_⟩ := r8_)
      go_simp
      with_reducible rfl
    rotate_left
    · simp only [Act.put, List.setIfInBounds_toArray, List.set_cons_zero, List.set_cons_succ, i64_w, i32_w]
      rfl
    refine pure_ (i := 4) (N := some 90) (v := ?_) (a' := ?_) #[true, true, true, true, true, false, false, false, false, false, false, false, false, false, false, false, false, false, false, false, false, false, false, false, false, false, false, false, false, false, false, false, false, false, false, false, false, false, false, false, false, false, false, false, false, false, false, false, false] rfl rfl (by kernel_rfl) (fun _ _ _ h => h) (Or.inl ⟨by rfl, ?_⟩) ?_ ?_
    rotate_left
    · intro w'
      go_simp
      with_reducible rfl
    rotate_left
    · simp only [Act.put, List.setIfInBounds_toArray, List.set_cons_zero, List.set_cons_succ, i64_w, i32_w]
      rfl
    refine take_ (i := 5) (N := some 91) (v := ?_) (a' := ?_) #[true, true, true, true, true, true, false, false, false, false, false, false, false, false, false, false, false, false, false, false, false, false, false, false, false, false, false, false, false, false, false, false, false, false, false, false, false, false, false, false, false, false, false, false, false, false, false, false, false] rfl rfl (by kernel_rfl) (fun _ _ _ h => h) (Or.inl ⟨by rfl, ?_⟩) hHeld ?_ ?_
    rotate_left
    · rintro w' hHeld'
      have hHeld'' := hHeld'
      (try obtain ⟨r0_, r1_⟩ := hHeld')
      (try obtain ⟨r1_, r2_⟩ := r1_)
      (try obtain ⟨r2_, r3_⟩ := r2_)
      (try obtain ⟨r3_, r4_⟩ := r3_)
      (try obtain ⟨r4_, r5_⟩ := r4_)
      (try obtain ⟨r5_, r6_⟩ := r5_)
      (try obtain ⟨r6_, r7_⟩ := r6_)
      (try obtain ⟨r7_, r8_⟩ := r7_)
      (try obtain ⟨r8_, r9_⟩ := r8_)
      (try obtain ⟨r9_, r10_⟩ := r9_)
      (try obtain ⟨r10_, r11_⟩ := r10_)
      (try obtain ⟨r11_, r12_⟩ := r11_)
      (try obtain ⟨r12_, r13_⟩ := r12_)
      (try obtain ⟨r13_, r14_⟩ := r13_)
      (try obtain ⟨r14_, r15_⟩ := r14_)
      (try obtain ⟨r15_, r16_⟩ := r15_)
      (try obtain ⟨r16_, r17_⟩ := r16_)
      (try obtain ⟨r17_, r18_⟩ := r17_)
      (try obtain ⟨r18_, r19_⟩ := r18_)
      (try obtain ⟨r19_, r20_⟩ := r19_)
      (try obtain ⟨r20_, r21_⟩ := r20_)
      (try obtain ⟨r21_, r22_⟩ := r21_)
      (try obtain ⟨r22_, r23_⟩ := r22_)
      (try obtain ⟨r23_, r24_⟩ := r23_)
      (try obtain ⟨r24_, r25_⟩ := r24_)
      (try obtain ⟨r25_, r26_⟩ := r25_)
      (try obtain ⟨r26_, r27_⟩ := r26_)
      (try obtain ⟨r27_, r28_⟩ := r27_)
      (try obtain ⟨r28_, r29_⟩ := r28_)
      (try obtain ⟨r29_, r30_⟩ := r29_)
      (try obtain ⟨r7_, r8_⟩ := r7_)
      (try obtain ⟨r8_, r9_⟩ := r8_)
      go_simp
      with_reducible rfl
    rotate_left
    · simp only [Act.put, List.setIfInBounds_toArray, List.set_cons_zero, List.set_cons_succ, i64_w, i32_w]
      rfl
    refine one_ (i := 6) (N := some 92) #[true, true, true, true, true, true, true, false, false, false, false, false, false, false, false, false, false, false, false, false, false, false, false, false, false, false, false, false, false, false, false, false, false, false, false, false, false, false, false, false, false, false, false, false, false, false, false, false, false] rfl rfl (by kernel_rfl) (by decide) (fun K hSh => ?_)
    refine goes_ Try.func31 (by kernel_rfl) rfl #[] (by rfl) rfl rfl (by simp only [List.map_toArray, List.map_cons, List.map_nil]) ?_
    refine (key_Whole.calls ⟨#[]⟩ ⟨#[]⟩ true _ rfl).mono ?_
    rintro e V6 ⟨rfl, hb⟩
    refine ⟨_, rfl, hSh.out _ _ (SOF.out _ (HKB.out _ _ (LASTK.out _ hHeld) hb)) ?_⟩
    clear hHeld hb hSh
    intro hHeld
    refine norm_ (a' := ?_) ?_ ?_
    rotate_left
    · simp only [Act.put, List.setIfInBounds_toArray, List.set_cons_zero, List.set_cons_succ, i64_w, i32_w]
      rfl
    refine one_ (i := 7) (N := some 93) #[true, true, true, true, true, true, true, true, false, false, false, false, false, false, false, false, false, false, false, false, false, false, false, false, false, false, false, false, false, false, false, false, false, false, false, false, false, false, false, false, false, false, false, false, false, false, false, false, false] rfl rfl (by kernel_rfl) (by decide) (fun K hSh => ?_)
    refine goes_ Try.func50 (by kernel_rfl) rfl #[.agg #[.string lo, .string hi, .bool al], .agg #[.string ⟨#[]⟩, .string ⟨#[]⟩, .bool true]] (by rfl) rfl rfl (by (try simp only [List.map_toArray, List.map_cons, List.map_nil]); rfl) ?_
    refine (key_Meet.calls lo hi al ⟨#[]⟩ ⟨#[]⟩ true lo hi2 al _ HM.out).mono ?_
    rintro e V7 ⟨rfl, hb⟩
    refine ⟨_, rfl, hSh.out _ _ (SOF.out _ (HKB.out _ _ (LASTK.out _ hHeld) hb)) ?_⟩
    clear hHeld hb hSh
    intro hHeld
    refine norm_ (a' := ?_) ?_ ?_
    rotate_left
    · simp only [Act.put, List.setIfInBounds_toArray, List.set_cons_zero, List.set_cons_succ, i64_w, i32_w]
      rfl
    refine pure_ (i := 8) (N := some 94) (v := ?_) (a' := ?_) #[true, true, true, true, true, true, true, true, true, false, false, false, false, false, false, false, false, false, false, false, false, false, false, false, false, false, false, false, false, false, false, false, false, false, false, false, false, false, false, false, false, false, false, false, false, false, false, false, false] rfl rfl (by kernel_rfl) (fun _ _ _ h => h) (Or.inl ⟨by rfl, ?_⟩) ?_ ?_
    rotate_left
    · intro w'
      go_simp
      with_reducible rfl
    rotate_left
    · simp only [Act.put, List.setIfInBounds_toArray, List.set_cons_zero, List.set_cons_succ, i64_w, i32_w]
      rfl
    refine pure_ (i := 9) (N := some 95) (v := ?_) (a' := ?_) #[true, true, true, true, true, true, true, true, true, true, false, false, false, false, false, false, false, false, false, false, false, false, false, false, false, false, false, false, false, false, false, false, false, false, false, false, false, false, false, false, false, false, false, false, false, false, false, false, false] rfl rfl (by kernel_rfl) (fun _ _ _ h => h) (Or.inl ⟨by rfl, ?_⟩) ?_ ?_
    rotate_left
    · intro w'
      go_simp
      with_reducible rfl
    rotate_left
    · simp only [Act.put, List.setIfInBounds_toArray, List.set_cons_zero, List.set_cons_succ, i64_w, i32_w]
      rfl
    refine pure_ (i := 10) (N := some 96) (v := ?_) (a' := ?_) #[true, true, true, true, true, true, true, true, true, true, true, false, false, false, false, false, false, false, false, false, false, false, false, false, false, false, false, false, false, false, false, false, false, false, false, false, false, false, false, false, false, false, false, false, false, false, false, false, false] rfl rfl (by kernel_rfl) (fun _ _ _ h => h) (Or.inl ⟨by rfl, ?_⟩) ?_ ?_
    rotate_left
    · intro w'
      go_simp
      with_reducible rfl
    rotate_left
    · simp only [Act.put, List.setIfInBounds_toArray, List.set_cons_zero, List.set_cons_succ, i64_w, i32_w]
      rfl
    refine pure_ (i := 11) (N := some 97) (v := ?_) (a' := ?_) #[true, true, true, true, true, true, true, true, true, true, true, true, false, false, false, false, false, false, false, false, false, false, false, false, false, false, false, false, false, false, false, false, false, false, false, false, false, false, false, false, false, false, false, false, false, false, false, false, false] rfl rfl (by kernel_rfl) (fun _ _ _ h => h) (Or.inl ⟨by rfl, ?_⟩) ?_ ?_
    rotate_left
    · intro w'
      go_simp
      with_reducible rfl
    rotate_left
    · simp only [Act.put, List.setIfInBounds_toArray, List.set_cons_zero, List.set_cons_succ, i64_w, i32_w]
      rfl
    refine take_ (i := 12) (N := some 98) (v := ?_) (a' := ?_) #[true, true, true, true, true, true, true, true, true, true, true, true, true, false, false, false, false, false, false, false, false, false, false, false, false, false, false, false, false, false, false, false, false, false, false, false, false, false, false, false, false, false, false, false, false, false, false, false, false] rfl rfl (by kernel_rfl) (fun _ _ _ h => h) (Or.inl ⟨by rfl, ?_⟩) hHeld ?_ ?_
    rotate_left
    · rintro w' hHeld'
      have hHeld'' := hHeld'
      (try obtain ⟨r0_, r1_⟩ := hHeld')
      (try obtain ⟨r1_, r2_⟩ := r1_)
      (try obtain ⟨r2_, r3_⟩ := r2_)
      (try obtain ⟨r3_, r4_⟩ := r3_)
      (try obtain ⟨r4_, r5_⟩ := r4_)
      (try obtain ⟨r5_, r6_⟩ := r5_)
      (try obtain ⟨r6_, r7_⟩ := r6_)
      (try obtain ⟨r7_, r8_⟩ := r7_)
      (try obtain ⟨r8_, r9_⟩ := r8_)
      (try obtain ⟨r9_, r10_⟩ := r9_)
      (try obtain ⟨r10_, r11_⟩ := r10_)
      (try obtain ⟨r11_, r12_⟩ := r11_)
      (try obtain ⟨r12_, r13_⟩ := r12_)
      (try obtain ⟨r13_, r14_⟩ := r13_)
      (try obtain ⟨r14_, r15_⟩ := r14_)
      (try obtain ⟨r15_, r16_⟩ := r15_)
      (try obtain ⟨r16_, r17_⟩ := r16_)
      (try obtain ⟨r17_, r18_⟩ := r17_)
      (try obtain ⟨r18_, r19_⟩ := r18_)
      (try obtain ⟨r19_, r20_⟩ := r19_)
      (try obtain ⟨r20_, r21_⟩ := r20_)
      (try obtain ⟨r21_, r22_⟩ := r21_)
      (try obtain ⟨r22_, r23_⟩ := r22_)
      (try obtain ⟨r23_, r24_⟩ := r23_)
      (try obtain ⟨r24_, r25_⟩ := r24_)
      (try obtain ⟨r25_, r26_⟩ := r25_)
      (try obtain ⟨r26_, r27_⟩ := r26_)
      (try obtain ⟨r27_, r28_⟩ := r27_)
      (try obtain ⟨r28_, r29_⟩ := r28_)
      (try obtain ⟨r29_, r30_⟩ := r29_)
      (try obtain ⟨r7_, r8_⟩ := r7_)
      (try obtain ⟨r8_, r9_⟩ := r8_)
      go_simp
      with_reducible rfl
    rotate_left
    · simp only [Act.put, List.setIfInBounds_toArray, List.set_cons_zero, List.set_cons_succ, i64_w, i32_w]
      rfl
    refine pure_ (i := 13) (N := some 99) (v := ?_) (a' := ?_) #[true, true, true, true, true, true, true, true, true, true, true, true, true, true, false, false, false, false, false, false, false, false, false, false, false, false, false, false, false, false, false, false, false, false, false, false, false, false, false, false, false, false, false, false, false, false, false, false, false] rfl rfl (by kernel_rfl) (fun _ _ _ h => h) (Or.inl ⟨by rfl, ?_⟩) ?_ ?_
    rotate_left
    · intro w'
      go_simp
      with_reducible rfl
    rotate_left
    · simp only [Act.put, List.setIfInBounds_toArray, List.set_cons_zero, List.set_cons_succ, i64_w, i32_w]
      rfl
    refine pure_ (i := 14) (N := some 100) (v := ?_) (a' := ?_) #[true, true, true, true, true, true, true, true, true, true, true, true, true, true, true, false, false, false, false, false, false, false, false, false, false, false, false, false, false, false, false, false, false, false, false, false, false, false, false, false, false, false, false, false, false, false, false, false, false] rfl rfl (by kernel_rfl) (fun _ _ _ h => h) (Or.inl ⟨by rfl, ?_⟩) ?_ ?_
    rotate_left
    · intro w'
      go_simp
      with_reducible rfl
    rotate_left
    · simp only [Act.put, List.setIfInBounds_toArray, List.set_cons_zero, List.set_cons_succ, i64_w, i32_w]
      rfl
    refine pure_ (i := 15) (N := some 101) (v := ?_) (a' := ?_) #[true, true, true, true, true, true, true, true, true, true, true, true, true, true, true, true, false, false, false, false, false, false, false, false, false, false, false, false, false, false, false, false, false, false, false, false, false, false, false, false, false, false, false, false, false, false, false, false, false] rfl rfl (by kernel_rfl) (fun _ _ _ h => h) (Or.inl ⟨by rfl, ?_⟩) ?_ ?_
    rotate_left
    · intro w'
      go_simp
      with_reducible rfl
    rotate_left
    · simp only [Act.put, List.setIfInBounds_toArray, List.set_cons_zero, List.set_cons_succ, i64_w, i32_w]
      rfl
    refine pure_ (i := 16) (N := some 102) (v := ?_) (a' := ?_) #[true, true, true, true, true, true, true, true, true, true, true, true, true, true, true, true, true, false, false, false, false, false, false, false, false, false, false, false, false, false, false, false, false, false, false, false, false, false, false, false, false, false, false, false, false, false, false, false, false] rfl rfl (by kernel_rfl) (fun _ _ _ h => h) (Or.inl ⟨by rfl, ?_⟩) ?_ ?_
    rotate_left
    · intro w'
      go_simp
      with_reducible rfl
    rotate_left
    · simp only [Act.put, List.setIfInBounds_toArray, List.set_cons_zero, List.set_cons_succ, i64_w, i32_w]
      rfl
    refine pure_ (i := 17) (N := some 103) (v := ?_) (a' := ?_) #[true, true, true, true, true, true, true, true, true, true, true, true, true, true, true, true, true, true, false, false, false, false, false, false, false, false, false, false, false, false, false, false, false, false, false, false, false, false, false, false, false, false, false, false, false, false, false, false, false] rfl rfl (by kernel_rfl) (fun _ _ _ h => h) (Or.inl ⟨by rfl, ?_⟩) ?_ ?_
    rotate_left
    · intro w'
      go_simp
      with_reducible rfl
    rotate_left
    · simp only [Act.put, List.setIfInBounds_toArray, List.set_cons_zero, List.set_cons_succ, i64_w, i32_w]
      rfl
    refine pure_ (i := 18) (N := some 104) (v := ?_) (a' := ?_) #[true, true, true, true, true, true, true, true, true, true, true, true, true, true, true, true, true, true, true, false, false, false, false, false, false, false, false, false, false, false, false, false, false, false, false, false, false, false, false, false, false, false, false, false, false, false, false, false, false] rfl rfl (by kernel_rfl) (fun _ _ _ h => h) (Or.inl ⟨by rfl, ?_⟩) ?_ ?_
    rotate_left
    · intro w'
      go_simp
      with_reducible rfl
    rotate_left
    · simp only [Act.put, List.setIfInBounds_toArray, List.set_cons_zero, List.set_cons_succ, i64_w, i32_w]
      rfl
    refine pure_ (i := 19) (N := some 105) (v := ?_) (a' := ?_) #[true, true, true, true, true, true, true, true, true, true, true, true, true, true, true, true, true, true, true, true, false, false, false, false, false, false, false, false, false, false, false, false, false, false, false, false, false, false, false, false, false, false, false, false, false, false, false, false, false] rfl rfl (by kernel_rfl) (fun _ _ _ h => h) (Or.inl ⟨by rfl, ?_⟩) ?_ ?_
    rotate_left
    · intro w'
      go_simp
      with_reducible rfl
    rotate_left
    · simp only [Act.put, List.setIfInBounds_toArray, List.set_cons_zero, List.set_cons_succ, i64_w, i32_w]
      rfl
    refine pure_ (i := 20) (N := some 106) (v := undef) #[true, true, true, true, true, true, true, true, true, true, true, true, true, true, true, true, true, true, true, true, true, false, false, false, false, false, false, false, false, false, false, false, false, false, false, false, false, false, false, false, false, false, false, false, false, false, false, false, false] rfl rfl (by kernel_rfl) (fun _ _ _ h => h) (Or.inr ⟨by rfl, rfl⟩) rfl ?_
    refine norm_ (a' := ?_) ?_ ?_
    rotate_left
    · simp only [Act.put, List.setIfInBounds_toArray, List.set_cons_zero, List.set_cons_succ, i64_w, i32_w]
      rfl
    refine pure_ (i := 21) (N := some 107) (v := undef) #[true, true, true, true, true, true, true, true, true, true, true, true, true, true, true, true, true, true, true, true, true, true, false, false, false, false, false, false, false, false, false, false, false, false, false, false, false, false, false, false, false, false, false, false, false, false, false, false, false] rfl rfl (by kernel_rfl) (fun _ _ _ h => h) (Or.inr ⟨by rfl, rfl⟩) rfl ?_
    refine norm_ (a' := ?_) ?_ ?_
    rotate_left
    · simp only [Act.put, List.setIfInBounds_toArray, List.set_cons_zero, List.set_cons_succ, i64_w, i32_w]
      rfl
    refine pure_ (i := 22) (N := some 108) (v := ?_) (a' := ?_) #[true, true, true, true, true, true, true, true, true, true, true, true, true, true, true, true, true, true, true, true, true, true, true, false, false, false, false, false, false, false, false, false, false, false, false, false, false, false, false, false, false, false, false, false, false, false, false, false, false] rfl rfl (by kernel_rfl) (fun _ _ _ h => h) (Or.inl ⟨by rfl, ?_⟩) ?_ ?_
    rotate_left
    · intro w'
      go_simp
      with_reducible rfl
    rotate_left
    · simp only [Act.put, List.setIfInBounds_toArray, List.set_cons_zero, List.set_cons_succ, i64_w, i32_w]
      rfl
    refine pure_ (i := 23) (N := some 109) (v := ?_) (a' := ?_) #[true, true, true, true, true, true, true, true, true, true, true, true, true, true, true, true, true, true, true, true, true, true, true, true, false, false, false, false, false, false, false, false, false, false, false, false, false, false, false, false, false, false, false, false, false, false, false, false, false] rfl rfl (by kernel_rfl) (fun _ _ _ h => h) (Or.inl ⟨by rfl, ?_⟩) ?_ ?_
    rotate_left
    · intro w'
      go_simp
      with_reducible rfl
    rotate_left
    · simp only [Act.put, List.setIfInBounds_toArray, List.set_cons_zero, List.set_cons_succ, i64_w, i32_w]
      rfl
    refine pure_ (i := 24) (N := some 110) (v := ?_) (a' := ?_) #[true, true, true, true, true, true, true, true, true, true, true, true, true, true, true, true, true, true, true, true, true, true, true, true, true, false, false, false, false, false, false, false, false, false, false, false, false, false, false, false, false, false, false, false, false, false, false, false, false] rfl rfl (by kernel_rfl) (fun _ _ _ h => h) (Or.inl ⟨by rfl, ?_⟩) ?_ ?_
    rotate_left
    · intro w'
      go_simp
      with_reducible rfl
    rotate_left
    · simp only [Act.put, List.setIfInBounds_toArray, List.set_cons_zero, List.set_cons_succ, i64_w, i32_w]
      rfl
    refine take_ (i := 25) (N := some 111) (v := ?_) (a' := ?_) #[true, true, true, true, true, true, true, true, true, true, true, true, true, true, true, true, true, true, true, true, true, true, true, true, true, true, false, false, false, false, false, false, false, false, false, false, false, false, false, false, false, false, false, false, false, false, false, false, false] rfl rfl (by kernel_rfl) (fun _ _ _ h => h) (Or.inl ⟨by rfl, ?_⟩) hHeld ?_ ?_
    rotate_left
    · rintro w' hHeld'
      have hHeld'' := hHeld'
      (try obtain ⟨r0_, r1_⟩ := hHeld')
      (try obtain ⟨r1_, r2_⟩ := r1_)
      (try obtain ⟨r2_, r3_⟩ := r2_)
      (try obtain ⟨r3_, r4_⟩ := r3_)
      (try obtain ⟨r4_, r5_⟩ := r4_)
      (try obtain ⟨r5_, r6_⟩ := r5_)
      (try obtain ⟨r6_, r7_⟩ := r6_)
      (try obtain ⟨r7_, r8_⟩ := r7_)
      (try obtain ⟨r8_, r9_⟩ := r8_)
      (try obtain ⟨r9_, r10_⟩ := r9_)
      (try obtain ⟨r10_, r11_⟩ := r10_)
      (try obtain ⟨r11_, r12_⟩ := r11_)
      (try obtain ⟨r12_, r13_⟩ := r12_)
      (try obtain ⟨r13_, r14_⟩ := r13_)
      (try obtain ⟨r14_, r15_⟩ := r14_)
      (try obtain ⟨r15_, r16_⟩ := r15_)
      (try obtain ⟨r16_, r17_⟩ := r16_)
      (try obtain ⟨r17_, r18_⟩ := r17_)
      (try obtain ⟨r18_, r19_⟩ := r18_)
      (try obtain ⟨r19_, r20_⟩ := r19_)
      (try obtain ⟨r20_, r21_⟩ := r20_)
      (try obtain ⟨r21_, r22_⟩ := r21_)
      (try obtain ⟨r22_, r23_⟩ := r22_)
      (try obtain ⟨r23_, r24_⟩ := r23_)
      (try obtain ⟨r24_, r25_⟩ := r24_)
      (try obtain ⟨r25_, r26_⟩ := r25_)
      (try obtain ⟨r26_, r27_⟩ := r26_)
      (try obtain ⟨r27_, r28_⟩ := r27_)
      (try obtain ⟨r28_, r29_⟩ := r28_)
      (try obtain ⟨r29_, r30_⟩ := r29_)
      (try obtain ⟨r7_, r8_⟩ := r7_)
      (try obtain ⟨r8_, r9_⟩ := r8_)
      go_simp
      with_reducible rfl
    rotate_left
    · simp only [Act.put, List.setIfInBounds_toArray, List.set_cons_zero, List.set_cons_succ, i64_w, i32_w]
      rfl
    refine take_ (i := 27) (N := some 113) (v := ?_) (a' := ?_) #[true, true, true, true, true, true, true, true, true, true, true, true, true, true, true, true, true, true, true, true, true, true, true, true, true, true, false, true, false, false, false, false, false, false, false, false, false, false, false, false, false, false, false, false, false, false, false, false, false] rfl rfl (by kernel_rfl) (fun _ _ _ h => h) (Or.inl ⟨by rfl, ?_⟩) hHeld ?_ ?_
    rotate_left
    · rintro w' hHeld'
      have hHeld'' := hHeld'
      (try obtain ⟨r0_, r1_⟩ := hHeld')
      (try obtain ⟨r1_, r2_⟩ := r1_)
      (try obtain ⟨r2_, r3_⟩ := r2_)
      (try obtain ⟨r3_, r4_⟩ := r3_)
      (try obtain ⟨r4_, r5_⟩ := r4_)
      (try obtain ⟨r5_, r6_⟩ := r5_)
      (try obtain ⟨r6_, r7_⟩ := r6_)
      (try obtain ⟨r7_, r8_⟩ := r7_)
      (try obtain ⟨r8_, r9_⟩ := r8_)
      (try obtain ⟨r9_, r10_⟩ := r9_)
      (try obtain ⟨r10_, r11_⟩ := r10_)
      (try obtain ⟨r11_, r12_⟩ := r11_)
      (try obtain ⟨r12_, r13_⟩ := r12_)
      (try obtain ⟨r13_, r14_⟩ := r13_)
      (try obtain ⟨r14_, r15_⟩ := r14_)
      (try obtain ⟨r15_, r16_⟩ := r15_)
      (try obtain ⟨r16_, r17_⟩ := r16_)
      (try obtain ⟨r17_, r18_⟩ := r17_)
      (try obtain ⟨r18_, r19_⟩ := r18_)
      (try obtain ⟨r19_, r20_⟩ := r19_)
      (try obtain ⟨r20_, r21_⟩ := r20_)
      (try obtain ⟨r21_, r22_⟩ := r21_)
      (try obtain ⟨r22_, r23_⟩ := r22_)
      (try obtain ⟨r23_, r24_⟩ := r23_)
      (try obtain ⟨r24_, r25_⟩ := r24_)
      (try obtain ⟨r25_, r26_⟩ := r25_)
      (try obtain ⟨r26_, r27_⟩ := r26_)
      (try obtain ⟨r27_, r28_⟩ := r27_)
      (try obtain ⟨r28_, r29_⟩ := r28_)
      (try obtain ⟨r29_, r30_⟩ := r29_)
      (try obtain ⟨r7_, r8_⟩ := r7_)
      (try obtain ⟨r8_, r9_⟩ := r8_)
      go_simp
      with_reducible rfl
    rotate_left
    · simp only [Act.put, List.setIfInBounds_toArray, List.set_cons_zero, List.set_cons_succ, i64_w, i32_w]
      rfl
    refine one_ (i := 26) (N := some 112) #[true, true, true, true, true, true, true, true, true, true, true, true, true, true, true, true, true, true, true, true, true, true, true, true, true, true, true, true, false, false, false, false, false, false, false, false, false, false, false, false, false, false, false, false, false, false, false, false, false] rfl rfl (by kernel_rfl) (by decide) (fun K hSh => ?_)
    refine goes_ Try.func26 (by kernel_rfl) rfl #[.agg (revA v 5 lo hi2 al false (keysOf Lj) (valsOf Lj) (goneOf Lj) Tj D6 e6 D7 e7 D8 e8 D9 e9)] (by rfl) rfl rfl (by (try simp only [List.map_toArray, List.map_cons, List.map_nil]); rfl) ?_
    refine (live_go ((HKK.out _).1 (LASTK.out _ hHeld)).2.2.2.2.V HLj.out).mono ?_
    rintro e V26 ⟨rfl, hb⟩
    refine ⟨_, rfl, hSh.out _ _ (SOF.out _ (HKB.out _ _ (LASTK.out _ hHeld) hb)) ?_⟩
    clear hHeld hb hSh
    intro hHeld
    refine norm_ (a' := ?_) ?_ ?_
    rotate_left
    · simp only [Act.put, List.setIfInBounds_toArray, List.set_cons_zero, List.set_cons_succ, i64_w, i32_w]
      rfl
    refine one_ (i := 28) (N := some 114) #[true, true, true, true, true, true, true, true, true, true, true, true, true, true, true, true, true, true, true, true, true, true, true, true, true, true, true, true, true, false, false, false, false, false, false, false, false, false, false, false, false, false, false, false, false, false, false, false, false] rfl rfl (by kernel_rfl) (by decide) (fun K hSh => ?_)
    refine goes_ Try.func26 (by kernel_rfl) rfl #[.agg (revA v 5 lo hi al false (keysOf M) (valsOf M) (goneOf M) T A6 c6 A7 c7 A8 c8 A9 c9)] (by rfl) rfl rfl (by (try simp only [List.map_toArray, List.map_cons, List.map_nil]); rfl) ?_
    refine (live_go ((HKK.out _).1 (LASTK.out _ hHeld)).2.1.V HLr.out).mono ?_
    rintro e V28 ⟨rfl, hb⟩
    refine ⟨_, rfl, hSh.out _ _ (SOF.out _ (HKB.out _ _ (LASTK.out _ hHeld) hb)) ?_⟩
    clear hHeld hb hSh
    intro hHeld
    refine norm_ (a' := ?_) ?_ ?_
    rotate_left
    · simp only [Act.put, List.setIfInBounds_toArray, List.set_cons_zero, List.set_cons_succ, i64_w, i32_w]
      rfl
    refine pure_ (i := 29) (N := some 115) (v := ?_) (a' := ?_) #[true, true, true, true, true, true, true, true, true, true, true, true, true, true, true, true, true, true, true, true, true, true, true, true, true, true, true, true, true, true, false, false, false, false, false, false, false, false, false, false, false, false, false, false, false, false, false, false, false] rfl rfl (by kernel_rfl) (fun _ _ _ h => h) (Or.inl ⟨by rfl, ?_⟩) ?_ ?_
    rotate_left
    · intro w'
      go_simp
      with_reducible rfl
    rotate_left
    · simp only [Act.put, List.setIfInBounds_toArray, List.set_cons_zero, List.set_cons_succ, i64_w, i32_w]
      rfl
    refine pure_ (i := 30) (N := some 116) (v := ?_) (a' := ?_) #[true, true, true, true, true, true, true, true, true, true, true, true, true, true, true, true, true, true, true, true, true, true, true, true, true, true, true, true, true, true, true, false, false, false, false, false, false, false, false, false, false, false, false, false, false, false, false, false, false] rfl rfl (by kernel_rfl) (fun _ _ _ h => h) (Or.inl ⟨by rfl, ?_⟩) ?_ ?_
    rotate_left
    · intro w'
      go_simp
      with_reducible rfl
    rotate_left
    · simp only [Act.put, List.setIfInBounds_toArray, List.set_cons_zero, List.set_cons_succ, i64_w, i32_w]
      rfl
    refine pure_ (i := 31) (N := some 117) (v := ?_) (a' := ?_) #[true, true, true, true, true, true, true, true, true, true, true, true, true, true, true, true, true, true, true, true, true, true, true, true, true, true, true, true, true, true, true, true, false, false, false, false, false, false, false, false, false, false, false, false, false, false, false, false, false] rfl rfl (by kernel_rfl) (fun _ _ _ h => h) (Or.inl ⟨by rfl, ?_⟩) ?_ ?_
    rotate_left
    · intro w'
      go_simp
      with_reducible rfl
    rotate_left
    · simp only [Act.put, List.setIfInBounds_toArray, List.set_cons_zero, List.set_cons_succ, i64_w, i32_w]
      rfl
    refine pure_ (i := 32) (N := some 118) (v := ?_) (a' := ?_) #[true, true, true, true, true, true, true, true, true, true, true, true, true, true, true, true, true, true, true, true, true, true, true, true, true, true, true, true, true, true, true, true, true, false, false, false, false, false, false, false, false, false, false, false, false, false, false, false, false] rfl rfl (by kernel_rfl) (fun _ _ _ h => h) (Or.inl ⟨by rfl, ?_⟩) ?_ ?_
    rotate_left
    · intro w'
      go_simp
      with_reducible rfl
    rotate_left
    · simp only [Act.put, List.setIfInBounds_toArray, List.set_cons_zero, List.set_cons_succ, i64_w, i32_w]
      rfl
    refine pure_ (i := 33) (N := some 119) (v := ?_) (a' := ?_) #[true, true, true, true, true, true, true, true, true, true, true, true, true, true, true, true, true, true, true, true, true, true, true, true, true, true, true, true, true, true, true, true, true, true, false, false, false, false, false, false, false, false, false, false, false, false, false, false, false] rfl rfl (by kernel_rfl) (fun _ _ _ h => h) (Or.inl ⟨by rfl, ?_⟩) ?_ ?_
    rotate_left
    · intro w'
      go_simp
      with_reducible rfl
    rotate_left
    · simp only [Act.put, List.setIfInBounds_toArray, List.set_cons_zero, List.set_cons_succ, i64_w, i32_w]
      rfl
    refine pure_ (i := 34) (N := some 120) (v := ?_) (a' := ?_) #[true, true, true, true, true, true, true, true, true, true, true, true, true, true, true, true, true, true, true, true, true, true, true, true, true, true, true, true, true, true, true, true, true, true, true, false, false, false, false, false, false, false, false, false, false, false, false, false, false] rfl rfl (by kernel_rfl) (fun _ _ _ h => h) (Or.inl ⟨by rfl, ?_⟩) ?_ ?_
    rotate_left
    · intro w'
      go_simp
      with_reducible rfl
    rotate_left
    · simp only [Act.put, List.setIfInBounds_toArray, List.set_cons_zero, List.set_cons_succ, i64_w, i32_w]
      rfl
    refine pure_ (i := 35) (N := some 121) (v := ?_) (a' := ?_) #[true, true, true, true, true, true, true, true, true, true, true, true, true, true, true, true, true, true, true, true, true, true, true, true, true, true, true, true, true, true, true, true, true, true, true, true, false, false, false, false, false, false, false, false, false, false, false, false, false] rfl rfl (by kernel_rfl) (fun _ _ _ h => h) (Or.inl ⟨by rfl, ?_⟩) ?_ ?_
    rotate_left
    · intro w'
      go_simp
      with_reducible rfl
    rotate_left
    · simp only [Act.put, List.setIfInBounds_toArray, List.set_cons_zero, List.set_cons_succ, i64_w, i32_w]
      rfl
    refine pure_ (i := 36) (N := some 122) (v := ?_) (a' := ?_) #[true, true, true, true, true, true, true, true, true, true, true, true, true, true, true, true, true, true, true, true, true, true, true, true, true, true, true, true, true, true, true, true, true, true, true, true, true, false, false, false, false, false, false, false, false, false, false, false, false] rfl rfl (by kernel_rfl) (fun _ _ _ h => h) (Or.inl ⟨by rfl, ?_⟩) ?_ ?_
    rotate_left
    · intro w'
      go_simp
      with_reducible rfl
    rotate_left
    · simp only [Act.put, List.setIfInBounds_toArray, List.set_cons_zero, List.set_cons_succ, i64_w, i32_w]
      rfl
    refine pure_ (i := 37) (N := some 123) (v := ?_) (a' := ?_) #[true, true, true, true, true, true, true, true, true, true, true, true, true, true, true, true, true, true, true, true, true, true, true, true, true, true, true, true, true, true, true, true, true, true, true, true, true, true, false, false, false, false, false, false, false, false, false, false, false] rfl rfl (by kernel_rfl) (fun _ _ _ h => h) (Or.inl ⟨by rfl, ?_⟩) ?_ ?_
    rotate_left
    · intro w'
      go_simp
      with_reducible rfl
    rotate_left
    · simp only [Act.put, List.setIfInBounds_toArray, List.set_cons_zero, List.set_cons_succ, i64_w, i32_w]
      rfl
    refine pure_ (i := 38) (N := some 124) (v := ?_) (a' := ?_) #[true, true, true, true, true, true, true, true, true, true, true, true, true, true, true, true, true, true, true, true, true, true, true, true, true, true, true, true, true, true, true, true, true, true, true, true, true, true, true, false, false, false, false, false, false, false, false, false, false] rfl rfl (by kernel_rfl) (fun _ _ _ h => h) (Or.inl ⟨by rfl, ?_⟩) ?_ ?_
    rotate_left
    · intro w'
      go_simp
      with_reducible rfl
    rotate_left
    · simp only [Act.put, List.setIfInBounds_toArray, List.set_cons_zero, List.set_cons_succ, i64_w, i32_w]
      rfl
    refine pure_ (i := 39) (N := some 125) (v := ?_) (a' := ?_) #[true, true, true, true, true, true, true, true, true, true, true, true, true, true, true, true, true, true, true, true, true, true, true, true, true, true, true, true, true, true, true, true, true, true, true, true, true, true, true, true, false, false, false, false, false, false, false, false, false] rfl rfl (by kernel_rfl) (fun _ _ _ h => h) (Or.inl ⟨by rfl, ?_⟩) ?_ ?_
    rotate_left
    · intro w'
      go_simp
      with_reducible rfl
    rotate_left
    · simp only [Act.put, List.setIfInBounds_toArray, List.set_cons_zero, List.set_cons_succ, i64_w, i32_w]
      rfl
    refine pure_ (i := 40) (N := some 126) (v := ?_) (a' := ?_) #[true, true, true, true, true, true, true, true, true, true, true, true, true, true, true, true, true, true, true, true, true, true, true, true, true, true, true, true, true, true, true, true, true, true, true, true, true, true, true, true, true, false, false, false, false, false, false, false, false] rfl rfl (by kernel_rfl) (fun _ _ _ h => h) (Or.inl ⟨by rfl, ?_⟩) ?_ ?_
    rotate_left
    · intro w'
      go_simp
      with_reducible rfl
    rotate_left
    · simp only [Act.put, List.setIfInBounds_toArray, List.set_cons_zero, List.set_cons_succ, i64_w, i32_w]
      rfl
    refine pure_ (i := 41) (N := some 127) (v := ?_) (a' := ?_) #[true, true, true, true, true, true, true, true, true, true, true, true, true, true, true, true, true, true, true, true, true, true, true, true, true, true, true, true, true, true, true, true, true, true, true, true, true, true, true, true, true, true, false, false, false, false, false, false, false] rfl rfl (by kernel_rfl) (fun _ _ _ h => h) (Or.inl ⟨by rfl, ?_⟩) ?_ ?_
    rotate_left
    · intro w'
      go_simp
      with_reducible rfl
    rotate_left
    · simp only [Act.put, List.setIfInBounds_toArray, List.set_cons_zero, List.set_cons_succ, i64_w, i32_w]
      rfl
    refine pure_ (i := 42) (N := some 128) (v := ?_) (a' := ?_) #[true, true, true, true, true, true, true, true, true, true, true, true, true, true, true, true, true, true, true, true, true, true, true, true, true, true, true, true, true, true, true, true, true, true, true, true, true, true, true, true, true, true, true, false, false, false, false, false, false] rfl rfl (by kernel_rfl) (fun _ _ _ h => h) (Or.inl ⟨by rfl, ?_⟩) ?_ ?_
    rotate_left
    · intro w'
      go_simp
      with_reducible rfl
    rotate_left
    · simp only [Act.put, List.setIfInBounds_toArray, List.set_cons_zero, List.set_cons_succ, i64_w, i32_w]
      rfl
    refine take_ (i := 43) (N := some 129) (v := ?_) (a' := ?_) #[true, true, true, true, true, true, true, true, true, true, true, true, true, true, true, true, true, true, true, true, true, true, true, true, true, true, true, true, true, true, true, true, true, true, true, true, true, true, true, true, true, true, true, true, false, false, false, false, false] rfl rfl (by kernel_rfl) (fun _ _ _ h => h) (Or.inl ⟨by rfl, ?_⟩) hHeld ?_ ?_
    rotate_left
    · rintro w' hHeld'
      have hHeld'' := hHeld'
      (try obtain ⟨r0_, r1_⟩ := hHeld')
      (try obtain ⟨r1_, r2_⟩ := r1_)
      (try obtain ⟨r2_, r3_⟩ := r2_)
      (try obtain ⟨r3_, r4_⟩ := r3_)
      (try obtain ⟨r4_, r5_⟩ := r4_)
      (try obtain ⟨r5_, r6_⟩ := r5_)
      (try obtain ⟨r6_, r7_⟩ := r6_)
      (try obtain ⟨r7_, r8_⟩ := r7_)
      (try obtain ⟨r8_, r9_⟩ := r8_)
      (try obtain ⟨r9_, r10_⟩ := r9_)
      (try obtain ⟨r10_, r11_⟩ := r10_)
      (try obtain ⟨r11_, r12_⟩ := r11_)
      (try obtain ⟨r12_, r13_⟩ := r12_)
      (try obtain ⟨r13_, r14_⟩ := r13_)
      (try obtain ⟨r14_, r15_⟩ := r14_)
      (try obtain ⟨r15_, r16_⟩ := r15_)
      (try obtain ⟨r16_, r17_⟩ := r16_)
      (try obtain ⟨r17_, r18_⟩ := r17_)
      (try obtain ⟨r18_, r19_⟩ := r18_)
      (try obtain ⟨r19_, r20_⟩ := r19_)
      (try obtain ⟨r20_, r21_⟩ := r20_)
      (try obtain ⟨r21_, r22_⟩ := r21_)
      (try obtain ⟨r22_, r23_⟩ := r22_)
      (try obtain ⟨r23_, r24_⟩ := r23_)
      (try obtain ⟨r24_, r25_⟩ := r24_)
      (try obtain ⟨r25_, r26_⟩ := r25_)
      (try obtain ⟨r26_, r27_⟩ := r26_)
      (try obtain ⟨r27_, r28_⟩ := r27_)
      (try obtain ⟨r28_, r29_⟩ := r28_)
      (try obtain ⟨r29_, r30_⟩ := r29_)
      (try obtain ⟨r7_, r8_⟩ := r7_)
      (try obtain ⟨r8_, r9_⟩ := r8_)
      go_simp
      with_reducible rfl
    rotate_left
    · simp only [Act.put, List.setIfInBounds_toArray, List.set_cons_zero, List.set_cons_succ, i64_w, i32_w]
      rfl
    refine pure_ (i := 44) (N := some 130) (v := ?_) (a' := ?_) #[true, true, true, true, true, true, true, true, true, true, true, true, true, true, true, true, true, true, true, true, true, true, true, true, true, true, true, true, true, true, true, true, true, true, true, true, true, true, true, true, true, true, true, true, true, false, false, false, false] rfl rfl (by kernel_rfl) (fun _ _ _ h => h) (Or.inl ⟨by rfl, ?_⟩) ?_ ?_
    rotate_left
    · intro w'
      go_simp
      with_reducible rfl
    rotate_left
    · simp only [Act.put, List.setIfInBounds_toArray, List.set_cons_zero, List.set_cons_succ, i64_w, i32_w]
      rfl
    refine take_ (i := 45) (N := some 131) (v := ?_) (a' := ?_) #[true, true, true, true, true, true, true, true, true, true, true, true, true, true, true, true, true, true, true, true, true, true, true, true, true, true, true, true, true, true, true, true, true, true, true, true, true, true, true, true, true, true, true, true, true, true, false, false, false] rfl rfl (by kernel_rfl) (fun _ _ _ h => h) (Or.inl ⟨by rfl, ?_⟩) hHeld ?_ ?_
    rotate_left
    · rintro w' hHeld'
      have hHeld'' := hHeld'
      (try obtain ⟨r0_, r1_⟩ := hHeld')
      (try obtain ⟨r1_, r2_⟩ := r1_)
      (try obtain ⟨r2_, r3_⟩ := r2_)
      (try obtain ⟨r3_, r4_⟩ := r3_)
      (try obtain ⟨r4_, r5_⟩ := r4_)
      (try obtain ⟨r5_, r6_⟩ := r5_)
      (try obtain ⟨r6_, r7_⟩ := r6_)
      (try obtain ⟨r7_, r8_⟩ := r7_)
      (try obtain ⟨r8_, r9_⟩ := r8_)
      (try obtain ⟨r9_, r10_⟩ := r9_)
      (try obtain ⟨r10_, r11_⟩ := r10_)
      (try obtain ⟨r11_, r12_⟩ := r11_)
      (try obtain ⟨r12_, r13_⟩ := r12_)
      (try obtain ⟨r13_, r14_⟩ := r13_)
      (try obtain ⟨r14_, r15_⟩ := r14_)
      (try obtain ⟨r15_, r16_⟩ := r15_)
      (try obtain ⟨r16_, r17_⟩ := r16_)
      (try obtain ⟨r17_, r18_⟩ := r17_)
      (try obtain ⟨r18_, r19_⟩ := r18_)
      (try obtain ⟨r19_, r20_⟩ := r19_)
      (try obtain ⟨r20_, r21_⟩ := r20_)
      (try obtain ⟨r21_, r22_⟩ := r21_)
      (try obtain ⟨r22_, r23_⟩ := r22_)
      (try obtain ⟨r23_, r24_⟩ := r23_)
      (try obtain ⟨r24_, r25_⟩ := r24_)
      (try obtain ⟨r25_, r26_⟩ := r25_)
      (try obtain ⟨r26_, r27_⟩ := r26_)
      (try obtain ⟨r27_, r28_⟩ := r27_)
      (try obtain ⟨r28_, r29_⟩ := r28_)
      (try obtain ⟨r29_, r30_⟩ := r29_)
      (try obtain ⟨r7_, r8_⟩ := r7_)
      (try obtain ⟨r8_, r9_⟩ := r8_)
      go_simp
      with_reducible rfl
    rotate_left
    · simp only [Act.put, List.setIfInBounds_toArray, List.set_cons_zero, List.set_cons_succ, i64_w, i32_w]
      rfl
    refine one_ (i := 46) (N := some 132) #[true, true, true, true, true, true, true, true, true, true, true, true, true, true, true, true, true, true, true, true, true, true, true, true, true, true, true, true, true, true, true, true, true, true, true, true, true, true, true, true, true, true, true, true, true, true, true, false, false] rfl rfl (by kernel_rfl) (by decide) (fun K hSh => ?_)
    refine goes_ Try.func51 (by kernel_rfl) rfl #[.agg #[.string lo, .string k2, .bool false], .agg #[.string k3, .string hi2, .bool al]] (by rfl) rfl rfl (by (try simp only [List.map_toArray, List.map_cons, List.map_nil]); rfl) ?_
    refine (key_Joins.calls lo k2 false k3 hi2 al true _ HK.out).mono ?_
    rintro e V46 ⟨rfl, hb⟩
    refine ⟨_, rfl, hSh.out _ _ (SOF.out _ (HKB.out _ _ (LASTK.out _ hHeld) hb)) ?_⟩
    clear hHeld hb hSh
    intro hHeld
    refine norm_ (a' := ?_) ?_ ?_
    rotate_left
    · simp only [Act.put, List.setIfInBounds_toArray, List.set_cons_zero, List.set_cons_succ, i64_w, i32_w]
      rfl
    refine pure_ (i := 47) (N := some 133) (v := ?_) (a' := ?_) #[true, true, true, true, true, true, true, true, true, true, true, true, true, true, true, true, true, true, true, true, true, true, true, true, true, true, true, true, true, true, true, true, true, true, true, true, true, true, true, true, true, true, true, true, true, true, true, true, false] rfl rfl (by kernel_rfl) (fun _ _ _ h => h) (Or.inl ⟨by rfl, ?_⟩) ?_ ?_
    rotate_left
    · intro w'
      go_simp
      with_reducible rfl
    rotate_left
    · simp only [Act.put, List.setIfInBounds_toArray, List.set_cons_zero, List.set_cons_succ, i64_w, i32_w]
      rfl
    refine pure_ (i := 48) (N := some 8) (v := ?_) (a' := ?_) #[true, true, true, true, true, true, true, true, true, true, true, true, true, true, true, true, true, true, true, true, true, true, true, true, true, true, true, true, true, true, true, true, true, true, true, true, true, true, true, true, true, true, true, true, true, true, true, true, true] rfl rfl (by kernel_rfl) (fun _ _ _ h => h) (Or.inl ⟨by rfl, ?_⟩) ?_ ?_
    rotate_left
    · intro w'
      go_simp
      with_reducible rfl
    rotate_left
    · simp only [Act.put, List.setIfInBounds_toArray, List.set_cons_zero, List.set_cons_succ, i64_w, i32_w]
      rfl
    refine done_ (by kernel_rfl) ?_
    have FIN := Aside0.mk ((HKK.out _).1 (LASTK.out _ hHeld)).1
    clear hHeld
    go_wp2_with fail
    go_ret
    exact ⟨rfl, FIN.out⟩
  · skip
    clear HD
    refine start_ (n := 49) (S := fun w' => w'.cell? ⟨gj, 0, none⟩ = some (.int .i64 v) ∧ w'.cell? ⟨gj, 1, none⟩ = some (.int .i64 5) ∧ w'.cell? ⟨gj, 2, none⟩ = some (.string lo) ∧ w'.cell? ⟨gj, 3, none⟩ = some (.string hi2) ∧ w'.cell? ⟨gj, 4, none⟩ = some (.bool al) ∧ w'.cell? ⟨gj, 5, none⟩ = some (.bool false) ∧ w'.cell? ⟨gj, 6, none⟩ = some (.slice D6 (keysOf Lj).length e6) ∧ w'.cell? ⟨gj, 7, none⟩ = some (.slice D7 (valsOf Lj).length e7) ∧ w'.cell? ⟨gj, 8, none⟩ = some (.slice D8 (goneOf Lj).length e8) ∧ w'.cell? ⟨gj, 9, none⟩ = some (.slice D9 Tj.length e9) ∧ w'.cell? ⟨ga, 0, none⟩ = some (.int .i64 v) ∧ w'.cell? ⟨ga, 1, none⟩ = some (.int .i64 5) ∧ w'.cell? ⟨ga, 2, none⟩ = some (.string lo) ∧ w'.cell? ⟨ga, 3, none⟩ = some (.string hi) ∧ w'.cell? ⟨ga, 4, none⟩ = some (.bool al) ∧ w'.cell? ⟨ga, 5, none⟩ = some (.bool false) ∧ w'.cell? ⟨ga, 6, none⟩ = some (.slice A6 (keysOf M).length c6) ∧ w'.cell? ⟨ga, 7, none⟩ = some (.slice A7 (valsOf M).length c7) ∧ w'.cell? ⟨ga, 8, none⟩ = some (.slice A8 (goneOf M).length c8) ∧ w'.cell? ⟨ga, 9, none⟩ = some (.slice A9 T.length c9) ∧ w'.cell? ⟨g1, 2, none⟩ = some (.string lo) ∧ w'.cell? ⟨g1, 3, none⟩ = some (.string k2) ∧ w'.cell? ⟨g1, 4, none⟩ = some (.bool false) ∧ w'.cell? ⟨g2, 2, none⟩ = some (.string k3) ∧ w'.cell? ⟨g2, 3, none⟩ = some (.string hi2) ∧ w'.cell? ⟨g2, 4, none⟩ = some (.bool al) ∧ KK w') (ds := []) #[false, false, false, false, false, false, false, false, false, false, false, false, false, false, false, false, false, false, false, false, false, false, false, false, false, false, false, false, false, false, false, false, false, false, false, false, false, false, false, false, false, false, false, false, false, false, false, false, false] rfl rfl rfl (KF.out) ?_
    intro hHeld
    refine pure_ (i := 0) (N := some 86) (v := ?_) (a' := ?_) #[true, false, false, false, false, false, false, false, false, false, false, false, false, false, false, false, false, false, false, false, false, false, false, false, false, false, false, false, false, false, false, false, false, false, false, false, false, false, false, false, false, false, false, false, false, false, false, false, false] rfl rfl (by kernel_rfl) (fun _ _ _ h => h) (Or.inl ⟨by rfl, ?_⟩) ?_ ?_
    rotate_left
    · intro w'
      go_simp
      with_reducible rfl
    rotate_left
    · simp only [Act.put, List.setIfInBounds_toArray, List.set_cons_zero, List.set_cons_succ, i64_w, i32_w]
      rfl
    refine pure_ (i := 1) (N := some 87) (v := ?_) (a' := ?_) #[true, true, false, false, false, false, false, false, false, false, false, false, false, false, false, false, false, false, false, false, false, false, false, false, false, false, false, false, false, false, false, false, false, false, false, false, false, false, false, false, false, false, false, false, false, false, false, false, false] rfl rfl (by kernel_rfl) (fun _ _ _ h => h) (Or.inl ⟨by rfl, ?_⟩) ?_ ?_
    rotate_left
    · intro w'
      go_simp
      with_reducible rfl
    rotate_left
    · simp only [Act.put, List.setIfInBounds_toArray, List.set_cons_zero, List.set_cons_succ, i64_w, i32_w]
      rfl
    refine pure_ (i := 2) (N := some 88) (v := ?_) (a' := ?_) #[true, true, true, false, false, false, false, false, false, false, false, false, false, false, false, false, false, false, false, false, false, false, false, false, false, false, false, false, false, false, false, false, false, false, false, false, false, false, false, false, false, false, false, false, false, false, false, false, false] rfl rfl (by kernel_rfl) (fun _ _ _ h => h) (Or.inl ⟨by rfl, ?_⟩) ?_ ?_
    rotate_left
    · intro w'
      go_simp
      with_reducible rfl
    rotate_left
    · simp only [Act.put, List.setIfInBounds_toArray, List.set_cons_zero, List.set_cons_succ, i64_w, i32_w]
      rfl
    refine take_ (i := 3) (N := some 89) (v := ?_) (a' := ?_) #[true, true, true, true, false, false, false, false, false, false, false, false, false, false, false, false, false, false, false, false, false, false, false, false, false, false, false, false, false, false, false, false, false, false, false, false, false, false, false, false, false, false, false, false, false, false, false, false, false] rfl rfl (by kernel_rfl) (fun _ _ _ h => h) (Or.inl ⟨by rfl, ?_⟩) hHeld ?_ ?_
    rotate_left
    · rintro w' hHeld'
      have hHeld'' := hHeld'
      (try obtain ⟨r0_, r1_⟩ := hHeld')
      (try obtain ⟨r1_, r2_⟩ := r1_)
      (try obtain ⟨r2_, r3_⟩ := r2_)
      (try obtain ⟨r3_, r4_⟩ := r3_)
      (try obtain ⟨r4_, r5_⟩ := r4_)
      (try obtain ⟨r5_, r6_⟩ := r5_)
      (try obtain ⟨r6_, r7_⟩ := r6_)
      (try obtain ⟨r7_, r8_⟩ := r7_)
      (try obtain ⟨r8_, r9_⟩ := r8_)
      (try obtain ⟨r9_, r10_⟩ := r9_)
      (try obtain ⟨r10_, r11_⟩ := r10_)
      (try obtain ⟨r11_, r12_⟩ := r11_)
      (try obtain ⟨r12_, r13_⟩ := r12_)
      (try obtain ⟨r13_, r14_⟩ := r13_)
      (try obtain ⟨r14_, r15_⟩ := r14_)
      (try obtain ⟨r15_, r16_⟩ := r15_)
      (try obtain ⟨r16_, r17_⟩ := r16_)
      (try obtain ⟨r17_, r18_⟩ := r17_)
      (try obtain ⟨r18_, r19_⟩ := r18_)
      (try obtain ⟨r19_, r20_⟩ := r19_)
      (try obtain ⟨r20_, r21_⟩ := r20_)
      (try obtain ⟨r21_, r22_⟩ := r21_)
      (try obtain ⟨r22_, r23_⟩ := r22_)
      (try obtain ⟨r23_, r24_⟩ := r23_)
      (try obtain ⟨r24_, r25_⟩ := r24_)
      (try obtain ⟨r25_, r26_⟩ := r25_)
      (try obtain ⟨r26_, r27_⟩ := r26_)
      (try obtain ⟨r27_, r28_⟩ := r27_)
      (try obtain ⟨r28_, r29_⟩ := r28_)
      (try obtain ⟨r29_, r30_⟩ := r29_)
      (try obtain ⟨r7_, r8_⟩ := r7_)
      (try obtain ⟨r8_, r9_⟩ := r8_)
      go_simp
      with_reducible rfl
    rotate_left
    · simp only [Act.put, List.setIfInBounds_toArray, List.set_cons_zero, List.set_cons_succ, i64_w, i32_w]
      rfl
    refine pure_ (i := 4) (N := some 90) (v := ?_) (a' := ?_) #[true, true, true, true, true, false, false, false, false, false, false, false, false, false, false, false, false, false, false, false, false, false, false, false, false, false, false, false, false, false, false, false, false, false, false, false, false, false, false, false, false, false, false, false, false, false, false, false, false] rfl rfl (by kernel_rfl) (fun _ _ _ h => h) (Or.inl ⟨by rfl, ?_⟩) ?_ ?_
    rotate_left
    · intro w'
      go_simp
      with_reducible rfl
    rotate_left
    · simp only [Act.put, List.setIfInBounds_toArray, List.set_cons_zero, List.set_cons_succ, i64_w, i32_w]
      rfl
    refine take_ (i := 5) (N := some 91) (v := ?_) (a' := ?_) #[true, true, true, true, true, true, false, false, false, false, false, false, false, false, false, false, false, false, false, false, false, false, false, false, false, false, false, false, false, false, false, false, false, false, false, false, false, false, false, false, false, false, false, false, false, false, false, false, false] rfl rfl (by kernel_rfl) (fun _ _ _ h => h) (Or.inl ⟨by rfl, ?_⟩) hHeld ?_ ?_
    rotate_left
    · rintro w' hHeld'
      have hHeld'' := hHeld'
      (try obtain ⟨r0_, r1_⟩ := hHeld')
      (try obtain ⟨r1_, r2_⟩ := r1_)
      (try obtain ⟨r2_, r3_⟩ := r2_)
      (try obtain ⟨r3_, r4_⟩ := r3_)
      (try obtain ⟨r4_, r5_⟩ := r4_)
      (try obtain ⟨r5_, r6_⟩ := r5_)
      (try obtain ⟨r6_, r7_⟩ := r6_)
      (try obtain ⟨r7_, r8_⟩ := r7_)
      (try obtain ⟨r8_, r9_⟩ := r8_)
      (try obtain ⟨r9_, r10_⟩ := r9_)
      (try obtain ⟨r10_, r11_⟩ := r10_)
      (try obtain ⟨r11_, r12_⟩ := r11_)
      (try obtain ⟨r12_, r13_⟩ := r12_)
      (try obtain ⟨r13_, r14_⟩ := r13_)
      (try obtain ⟨r14_, r15_⟩ := r14_)
      (try obtain ⟨r15_, r16_⟩ := r15_)
      (try obtain ⟨r16_, r17_⟩ := r16_)
      (try obtain ⟨r17_, r18_⟩ := r17_)
      (try obtain ⟨r18_, r19_⟩ := r18_)
      (try obtain ⟨r19_, r20_⟩ := r19_)
      (try obtain ⟨r20_, r21_⟩ := r20_)
      (try obtain ⟨r21_, r22_⟩ := r21_)
      (try obtain ⟨r22_, r23_⟩ := r22_)
      (try obtain ⟨r23_, r24_⟩ := r23_)
      (try obtain ⟨r24_, r25_⟩ := r24_)
      (try obtain ⟨r25_, r26_⟩ := r25_)
      (try obtain ⟨r26_, r27_⟩ := r26_)
      (try obtain ⟨r27_, r28_⟩ := r27_)
      (try obtain ⟨r28_, r29_⟩ := r28_)
      (try obtain ⟨r29_, r30_⟩ := r29_)
      (try obtain ⟨r7_, r8_⟩ := r7_)
      (try obtain ⟨r8_, r9_⟩ := r8_)
      go_simp
      with_reducible rfl
    rotate_left
    · simp only [Act.put, List.setIfInBounds_toArray, List.set_cons_zero, List.set_cons_succ, i64_w, i32_w]
      rfl
    refine one_ (i := 6) (N := some 92) #[true, true, true, true, true, true, true, false, false, false, false, false, false, false, false, false, false, false, false, false, false, false, false, false, false, false, false, false, false, false, false, false, false, false, false, false, false, false, false, false, false, false, false, false, false, false, false, false, false] rfl rfl (by kernel_rfl) (by decide) (fun K hSh => ?_)
    refine goes_ Try.func31 (by kernel_rfl) rfl #[] (by rfl) rfl rfl (by simp only [List.map_toArray, List.map_cons, List.map_nil]) ?_
    refine (key_Whole.calls ⟨#[]⟩ ⟨#[]⟩ true _ rfl).mono ?_
    rintro e V6 ⟨rfl, hb⟩
    refine ⟨_, rfl, hSh.out _ _ (SOF.out _ (HKB.out _ _ (LASTK.out _ hHeld) hb)) ?_⟩
    clear hHeld hb hSh
    intro hHeld
    refine norm_ (a' := ?_) ?_ ?_
    rotate_left
    · simp only [Act.put, List.setIfInBounds_toArray, List.set_cons_zero, List.set_cons_succ, i64_w, i32_w]
      rfl
    refine one_ (i := 7) (N := some 93) #[true, true, true, true, true, true, true, true, false, false, false, false, false, false, false, false, false, false, false, false, false, false, false, false, false, false, false, false, false, false, false, false, false, false, false, false, false, false, false, false, false, false, false, false, false, false, false, false, false] rfl rfl (by kernel_rfl) (by decide) (fun K hSh => ?_)
    refine goes_ Try.func50 (by kernel_rfl) rfl #[.agg #[.string lo, .string hi, .bool al], .agg #[.string ⟨#[]⟩, .string ⟨#[]⟩, .bool true]] (by rfl) rfl rfl (by (try simp only [List.map_toArray, List.map_cons, List.map_nil]); rfl) ?_
    refine (key_Meet.calls lo hi al ⟨#[]⟩ ⟨#[]⟩ true lo hi2 al _ HM.out).mono ?_
    rintro e V7 ⟨rfl, hb⟩
    refine ⟨_, rfl, hSh.out _ _ (SOF.out _ (HKB.out _ _ (LASTK.out _ hHeld) hb)) ?_⟩
    clear hHeld hb hSh
    intro hHeld
    refine norm_ (a' := ?_) ?_ ?_
    rotate_left
    · simp only [Act.put, List.setIfInBounds_toArray, List.set_cons_zero, List.set_cons_succ, i64_w, i32_w]
      rfl
    refine pure_ (i := 8) (N := some 94) (v := ?_) (a' := ?_) #[true, true, true, true, true, true, true, true, true, false, false, false, false, false, false, false, false, false, false, false, false, false, false, false, false, false, false, false, false, false, false, false, false, false, false, false, false, false, false, false, false, false, false, false, false, false, false, false, false] rfl rfl (by kernel_rfl) (fun _ _ _ h => h) (Or.inl ⟨by rfl, ?_⟩) ?_ ?_
    rotate_left
    · intro w'
      go_simp
      with_reducible rfl
    rotate_left
    · simp only [Act.put, List.setIfInBounds_toArray, List.set_cons_zero, List.set_cons_succ, i64_w, i32_w]
      rfl
    refine pure_ (i := 9) (N := some 95) (v := ?_) (a' := ?_) #[true, true, true, true, true, true, true, true, true, true, false, false, false, false, false, false, false, false, false, false, false, false, false, false, false, false, false, false, false, false, false, false, false, false, false, false, false, false, false, false, false, false, false, false, false, false, false, false, false] rfl rfl (by kernel_rfl) (fun _ _ _ h => h) (Or.inl ⟨by rfl, ?_⟩) ?_ ?_
    rotate_left
    · intro w'
      go_simp
      with_reducible rfl
    rotate_left
    · simp only [Act.put, List.setIfInBounds_toArray, List.set_cons_zero, List.set_cons_succ, i64_w, i32_w]
      rfl
    refine pure_ (i := 10) (N := some 96) (v := ?_) (a' := ?_) #[true, true, true, true, true, true, true, true, true, true, true, false, false, false, false, false, false, false, false, false, false, false, false, false, false, false, false, false, false, false, false, false, false, false, false, false, false, false, false, false, false, false, false, false, false, false, false, false, false] rfl rfl (by kernel_rfl) (fun _ _ _ h => h) (Or.inl ⟨by rfl, ?_⟩) ?_ ?_
    rotate_left
    · intro w'
      go_simp
      with_reducible rfl
    rotate_left
    · simp only [Act.put, List.setIfInBounds_toArray, List.set_cons_zero, List.set_cons_succ, i64_w, i32_w]
      rfl
    refine pure_ (i := 11) (N := some 97) (v := ?_) (a' := ?_) #[true, true, true, true, true, true, true, true, true, true, true, true, false, false, false, false, false, false, false, false, false, false, false, false, false, false, false, false, false, false, false, false, false, false, false, false, false, false, false, false, false, false, false, false, false, false, false, false, false] rfl rfl (by kernel_rfl) (fun _ _ _ h => h) (Or.inl ⟨by rfl, ?_⟩) ?_ ?_
    rotate_left
    · intro w'
      go_simp
      with_reducible rfl
    rotate_left
    · simp only [Act.put, List.setIfInBounds_toArray, List.set_cons_zero, List.set_cons_succ, i64_w, i32_w]
      rfl
    refine take_ (i := 12) (N := some 98) (v := ?_) (a' := ?_) #[true, true, true, true, true, true, true, true, true, true, true, true, true, false, false, false, false, false, false, false, false, false, false, false, false, false, false, false, false, false, false, false, false, false, false, false, false, false, false, false, false, false, false, false, false, false, false, false, false] rfl rfl (by kernel_rfl) (fun _ _ _ h => h) (Or.inl ⟨by rfl, ?_⟩) hHeld ?_ ?_
    rotate_left
    · rintro w' hHeld'
      have hHeld'' := hHeld'
      (try obtain ⟨r0_, r1_⟩ := hHeld')
      (try obtain ⟨r1_, r2_⟩ := r1_)
      (try obtain ⟨r2_, r3_⟩ := r2_)
      (try obtain ⟨r3_, r4_⟩ := r3_)
      (try obtain ⟨r4_, r5_⟩ := r4_)
      (try obtain ⟨r5_, r6_⟩ := r5_)
      (try obtain ⟨r6_, r7_⟩ := r6_)
      (try obtain ⟨r7_, r8_⟩ := r7_)
      (try obtain ⟨r8_, r9_⟩ := r8_)
      (try obtain ⟨r9_, r10_⟩ := r9_)
      (try obtain ⟨r10_, r11_⟩ := r10_)
      (try obtain ⟨r11_, r12_⟩ := r11_)
      (try obtain ⟨r12_, r13_⟩ := r12_)
      (try obtain ⟨r13_, r14_⟩ := r13_)
      (try obtain ⟨r14_, r15_⟩ := r14_)
      (try obtain ⟨r15_, r16_⟩ := r15_)
      (try obtain ⟨r16_, r17_⟩ := r16_)
      (try obtain ⟨r17_, r18_⟩ := r17_)
      (try obtain ⟨r18_, r19_⟩ := r18_)
      (try obtain ⟨r19_, r20_⟩ := r19_)
      (try obtain ⟨r20_, r21_⟩ := r20_)
      (try obtain ⟨r21_, r22_⟩ := r21_)
      (try obtain ⟨r22_, r23_⟩ := r22_)
      (try obtain ⟨r23_, r24_⟩ := r23_)
      (try obtain ⟨r24_, r25_⟩ := r24_)
      (try obtain ⟨r25_, r26_⟩ := r25_)
      (try obtain ⟨r26_, r27_⟩ := r26_)
      (try obtain ⟨r27_, r28_⟩ := r27_)
      (try obtain ⟨r28_, r29_⟩ := r28_)
      (try obtain ⟨r29_, r30_⟩ := r29_)
      (try obtain ⟨r7_, r8_⟩ := r7_)
      (try obtain ⟨r8_, r9_⟩ := r8_)
      go_simp
      with_reducible rfl
    rotate_left
    · simp only [Act.put, List.setIfInBounds_toArray, List.set_cons_zero, List.set_cons_succ, i64_w, i32_w]
      rfl
    refine pure_ (i := 13) (N := some 99) (v := ?_) (a' := ?_) #[true, true, true, true, true, true, true, true, true, true, true, true, true, true, false, false, false, false, false, false, false, false, false, false, false, false, false, false, false, false, false, false, false, false, false, false, false, false, false, false, false, false, false, false, false, false, false, false, false] rfl rfl (by kernel_rfl) (fun _ _ _ h => h) (Or.inl ⟨by rfl, ?_⟩) ?_ ?_
    rotate_left
    · intro w'
      go_simp
      with_reducible rfl
    rotate_left
    · simp only [Act.put, List.setIfInBounds_toArray, List.set_cons_zero, List.set_cons_succ, i64_w, i32_w]
      rfl
    refine pure_ (i := 14) (N := some 100) (v := ?_) (a' := ?_) #[true, true, true, true, true, true, true, true, true, true, true, true, true, true, true, false, false, false, false, false, false, false, false, false, false, false, false, false, false, false, false, false, false, false, false, false, false, false, false, false, false, false, false, false, false, false, false, false, false] rfl rfl (by kernel_rfl) (fun _ _ _ h => h) (Or.inl ⟨by rfl, ?_⟩) ?_ ?_
    rotate_left
    · intro w'
      go_simp
      with_reducible rfl
    rotate_left
    · simp only [Act.put, List.setIfInBounds_toArray, List.set_cons_zero, List.set_cons_succ, i64_w, i32_w]
      rfl
    refine pure_ (i := 15) (N := some 101) (v := ?_) (a' := ?_) #[true, true, true, true, true, true, true, true, true, true, true, true, true, true, true, true, false, false, false, false, false, false, false, false, false, false, false, false, false, false, false, false, false, false, false, false, false, false, false, false, false, false, false, false, false, false, false, false, false] rfl rfl (by kernel_rfl) (fun _ _ _ h => h) (Or.inl ⟨by rfl, ?_⟩) ?_ ?_
    rotate_left
    · intro w'
      go_simp
      with_reducible rfl
    rotate_left
    · simp only [Act.put, List.setIfInBounds_toArray, List.set_cons_zero, List.set_cons_succ, i64_w, i32_w]
      rfl
    refine pure_ (i := 16) (N := some 102) (v := ?_) (a' := ?_) #[true, true, true, true, true, true, true, true, true, true, true, true, true, true, true, true, true, false, false, false, false, false, false, false, false, false, false, false, false, false, false, false, false, false, false, false, false, false, false, false, false, false, false, false, false, false, false, false, false] rfl rfl (by kernel_rfl) (fun _ _ _ h => h) (Or.inl ⟨by rfl, ?_⟩) ?_ ?_
    rotate_left
    · intro w'
      go_simp
      with_reducible rfl
    rotate_left
    · simp only [Act.put, List.setIfInBounds_toArray, List.set_cons_zero, List.set_cons_succ, i64_w, i32_w]
      rfl
    refine pure_ (i := 17) (N := some 103) (v := ?_) (a' := ?_) #[true, true, true, true, true, true, true, true, true, true, true, true, true, true, true, true, true, true, false, false, false, false, false, false, false, false, false, false, false, false, false, false, false, false, false, false, false, false, false, false, false, false, false, false, false, false, false, false, false] rfl rfl (by kernel_rfl) (fun _ _ _ h => h) (Or.inl ⟨by rfl, ?_⟩) ?_ ?_
    rotate_left
    · intro w'
      go_simp
      with_reducible rfl
    rotate_left
    · simp only [Act.put, List.setIfInBounds_toArray, List.set_cons_zero, List.set_cons_succ, i64_w, i32_w]
      rfl
    refine pure_ (i := 18) (N := some 104) (v := ?_) (a' := ?_) #[true, true, true, true, true, true, true, true, true, true, true, true, true, true, true, true, true, true, true, false, false, false, false, false, false, false, false, false, false, false, false, false, false, false, false, false, false, false, false, false, false, false, false, false, false, false, false, false, false] rfl rfl (by kernel_rfl) (fun _ _ _ h => h) (Or.inl ⟨by rfl, ?_⟩) ?_ ?_
    rotate_left
    · intro w'
      go_simp
      with_reducible rfl
    rotate_left
    · simp only [Act.put, List.setIfInBounds_toArray, List.set_cons_zero, List.set_cons_succ, i64_w, i32_w]
      rfl
    refine pure_ (i := 19) (N := some 105) (v := ?_) (a' := ?_) #[true, true, true, true, true, true, true, true, true, true, true, true, true, true, true, true, true, true, true, true, false, false, false, false, false, false, false, false, false, false, false, false, false, false, false, false, false, false, false, false, false, false, false, false, false, false, false, false, false] rfl rfl (by kernel_rfl) (fun _ _ _ h => h) (Or.inl ⟨by rfl, ?_⟩) ?_ ?_
    rotate_left
    · intro w'
      go_simp
      with_reducible rfl
    rotate_left
    · simp only [Act.put, List.setIfInBounds_toArray, List.set_cons_zero, List.set_cons_succ, i64_w, i32_w]
      rfl
    refine pure_ (i := 20) (N := some 106) (v := ?_) (a' := ?_) #[true, true, true, true, true, true, true, true, true, true, true, true, true, true, true, true, true, true, true, true, true, false, false, false, false, false, false, false, false, false, false, false, false, false, false, false, false, false, false, false, false, false, false, false, false, false, false, false, false] rfl rfl (by kernel_rfl) (fun _ _ _ h => h) (Or.inl ⟨by rfl, ?_⟩) ?_ ?_
    rotate_left
    · intro w'
      go_simp
      with_reducible rfl
    rotate_left
    · simp only [Act.put, List.setIfInBounds_toArray, List.set_cons_zero, List.set_cons_succ, i64_w, i32_w]
      rfl
    refine pure_ (i := 21) (N := some 107) (v := ?_) (a' := ?_) #[true, true, true, true, true, true, true, true, true, true, true, true, true, true, true, true, true, true, true, true, true, true, false, false, false, false, false, false, false, false, false, false, false, false, false, false, false, false, false, false, false, false, false, false, false, false, false, false, false] rfl rfl (by kernel_rfl) (fun _ _ _ h => h) (Or.inl ⟨by rfl, ?_⟩) ?_ ?_
    rotate_left
    · intro w'
      go_simp
      with_reducible rfl
    rotate_left
    · simp only [Act.put, List.setIfInBounds_toArray, List.set_cons_zero, List.set_cons_succ, i64_w, i32_w]
      rfl
    refine pure_ (i := 22) (N := some 108) (v := ?_) (a' := ?_) #[true, true, true, true, true, true, true, true, true, true, true, true, true, true, true, true, true, true, true, true, true, true, true, false, false, false, false, false, false, false, false, false, false, false, false, false, false, false, false, false, false, false, false, false, false, false, false, false, false] rfl rfl (by kernel_rfl) (fun _ _ _ h => h) (Or.inl ⟨by rfl, ?_⟩) ?_ ?_
    rotate_left
    · intro w'
      go_simp
      with_reducible rfl
    rotate_left
    · simp only [Act.put, List.setIfInBounds_toArray, List.set_cons_zero, List.set_cons_succ, i64_w, i32_w]
      rfl
    refine pure_ (i := 23) (N := some 109) (v := ?_) (a' := ?_) #[true, true, true, true, true, true, true, true, true, true, true, true, true, true, true, true, true, true, true, true, true, true, true, true, false, false, false, false, false, false, false, false, false, false, false, false, false, false, false, false, false, false, false, false, false, false, false, false, false] rfl rfl (by kernel_rfl) (fun _ _ _ h => h) (Or.inl ⟨by rfl, ?_⟩) ?_ ?_
    rotate_left
    · intro w'
      go_simp
      with_reducible rfl
    rotate_left
    · simp only [Act.put, List.setIfInBounds_toArray, List.set_cons_zero, List.set_cons_succ, i64_w, i32_w]
      rfl
    refine pure_ (i := 24) (N := some 110) (v := ?_) (a' := ?_) #[true, true, true, true, true, true, true, true, true, true, true, true, true, true, true, true, true, true, true, true, true, true, true, true, true, false, false, false, false, false, false, false, false, false, false, false, false, false, false, false, false, false, false, false, false, false, false, false, false] rfl rfl (by kernel_rfl) (fun _ _ _ h => h) (Or.inl ⟨by rfl, ?_⟩) ?_ ?_
    rotate_left
    · intro w'
      go_simp
      with_reducible rfl
    rotate_left
    · simp only [Act.put, List.setIfInBounds_toArray, List.set_cons_zero, List.set_cons_succ, i64_w, i32_w]
      rfl
    refine take_ (i := 25) (N := some 111) (v := ?_) (a' := ?_) #[true, true, true, true, true, true, true, true, true, true, true, true, true, true, true, true, true, true, true, true, true, true, true, true, true, true, false, false, false, false, false, false, false, false, false, false, false, false, false, false, false, false, false, false, false, false, false, false, false] rfl rfl (by kernel_rfl) (fun _ _ _ h => h) (Or.inl ⟨by rfl, ?_⟩) hHeld ?_ ?_
    rotate_left
    · rintro w' hHeld'
      have hHeld'' := hHeld'
      (try obtain ⟨r0_, r1_⟩ := hHeld')
      (try obtain ⟨r1_, r2_⟩ := r1_)
      (try obtain ⟨r2_, r3_⟩ := r2_)
      (try obtain ⟨r3_, r4_⟩ := r3_)
      (try obtain ⟨r4_, r5_⟩ := r4_)
      (try obtain ⟨r5_, r6_⟩ := r5_)
      (try obtain ⟨r6_, r7_⟩ := r6_)
      (try obtain ⟨r7_, r8_⟩ := r7_)
      (try obtain ⟨r8_, r9_⟩ := r8_)
      (try obtain ⟨r9_, r10_⟩ := r9_)
      (try obtain ⟨r10_, r11_⟩ := r10_)
      (try obtain ⟨r11_, r12_⟩ := r11_)
      (try obtain ⟨r12_, r13_⟩ := r12_)
      (try obtain ⟨r13_, r14_⟩ := r13_)
      (try obtain ⟨r14_, r15_⟩ := r14_)
      (try obtain ⟨r15_, r16_⟩ := r15_)
      (try obtain ⟨r16_, r17_⟩ := r16_)
      (try obtain ⟨r17_, r18_⟩ := r17_)
      (try obtain ⟨r18_, r19_⟩ := r18_)
      (try obtain ⟨r19_, r20_⟩ := r19_)
      (try obtain ⟨r20_, r21_⟩ := r20_)
      (try obtain ⟨r21_, r22_⟩ := r21_)
      (try obtain ⟨r22_, r23_⟩ := r22_)
      (try obtain ⟨r23_, r24_⟩ := r23_)
      (try obtain ⟨r24_, r25_⟩ := r24_)
      (try obtain ⟨r25_, r26_⟩ := r25_)
      (try obtain ⟨r26_, r27_⟩ := r26_)
      (try obtain ⟨r27_, r28_⟩ := r27_)
      (try obtain ⟨r28_, r29_⟩ := r28_)
      (try obtain ⟨r29_, r30_⟩ := r29_)
      (try obtain ⟨r7_, r8_⟩ := r7_)
      (try obtain ⟨r8_, r9_⟩ := r8_)
      go_simp
      with_reducible rfl
    rotate_left
    · simp only [Act.put, List.setIfInBounds_toArray, List.set_cons_zero, List.set_cons_succ, i64_w, i32_w]
      rfl
    refine take_ (i := 27) (N := some 113) (v := ?_) (a' := ?_) #[true, true, true, true, true, true, true, true, true, true, true, true, true, true, true, true, true, true, true, true, true, true, true, true, true, true, false, true, false, false, false, false, false, false, false, false, false, false, false, false, false, false, false, false, false, false, false, false, false] rfl rfl (by kernel_rfl) (fun _ _ _ h => h) (Or.inl ⟨by rfl, ?_⟩) hHeld ?_ ?_
    rotate_left
    · rintro w' hHeld'
      have hHeld'' := hHeld'
      (try obtain ⟨r0_, r1_⟩ := hHeld')
      (try obtain ⟨r1_, r2_⟩ := r1_)
      (try obtain ⟨r2_, r3_⟩ := r2_)
      (try obtain ⟨r3_, r4_⟩ := r3_)
      (try obtain ⟨r4_, r5_⟩ := r4_)
      (try obtain ⟨r5_, r6_⟩ := r5_)
      (try obtain ⟨r6_, r7_⟩ := r6_)
      (try obtain ⟨r7_, r8_⟩ := r7_)
      (try obtain ⟨r8_, r9_⟩ := r8_)
      (try obtain ⟨r9_, r10_⟩ := r9_)
      (try obtain ⟨r10_, r11_⟩ := r10_)
      (try obtain ⟨r11_, r12_⟩ := r11_)
      (try obtain ⟨r12_, r13_⟩ := r12_)
      (try obtain ⟨r13_, r14_⟩ := r13_)
      (try obtain ⟨r14_, r15_⟩ := r14_)
      (try obtain ⟨r15_, r16_⟩ := r15_)
      (try obtain ⟨r16_, r17_⟩ := r16_)
      (try obtain ⟨r17_, r18_⟩ := r17_)
      (try obtain ⟨r18_, r19_⟩ := r18_)
      (try obtain ⟨r19_, r20_⟩ := r19_)
      (try obtain ⟨r20_, r21_⟩ := r20_)
      (try obtain ⟨r21_, r22_⟩ := r21_)
      (try obtain ⟨r22_, r23_⟩ := r22_)
      (try obtain ⟨r23_, r24_⟩ := r23_)
      (try obtain ⟨r24_, r25_⟩ := r24_)
      (try obtain ⟨r25_, r26_⟩ := r25_)
      (try obtain ⟨r26_, r27_⟩ := r26_)
      (try obtain ⟨r27_, r28_⟩ := r27_)
      (try obtain ⟨r28_, r29_⟩ := r28_)
      (try obtain ⟨r29_, r30_⟩ := r29_)
      (try obtain ⟨r7_, r8_⟩ := r7_)
      (try obtain ⟨r8_, r9_⟩ := r8_)
      go_simp
      with_reducible rfl
    rotate_left
    · simp only [Act.put, List.setIfInBounds_toArray, List.set_cons_zero, List.set_cons_succ, i64_w, i32_w]
      rfl
    refine one_ (i := 26) (N := some 112) #[true, true, true, true, true, true, true, true, true, true, true, true, true, true, true, true, true, true, true, true, true, true, true, true, true, true, true, true, false, false, false, false, false, false, false, false, false, false, false, false, false, false, false, false, false, false, false, false, false] rfl rfl (by kernel_rfl) (by decide) (fun K hSh => ?_)
    refine goes_ Try.func26 (by kernel_rfl) rfl #[.agg (revA v 5 lo hi2 al false (keysOf Lj) (valsOf Lj) (goneOf Lj) Tj D6 e6 D7 e7 D8 e8 D9 e9)] (by rfl) rfl rfl (by (try simp only [List.map_toArray, List.map_cons, List.map_nil]); rfl) ?_
    refine (live_go ((HKK.out _).1 (LASTK.out _ hHeld)).2.2.2.2.V HLj.out).mono ?_
    rintro e V26 ⟨rfl, hb⟩
    refine ⟨_, rfl, hSh.out _ _ (SOF.out _ (HKB.out _ _ (LASTK.out _ hHeld) hb)) ?_⟩
    clear hHeld hb hSh
    intro hHeld
    refine norm_ (a' := ?_) ?_ ?_
    rotate_left
    · simp only [Act.put, List.setIfInBounds_toArray, List.set_cons_zero, List.set_cons_succ, i64_w, i32_w]
      rfl
    refine one_ (i := 28) (N := some 114) #[true, true, true, true, true, true, true, true, true, true, true, true, true, true, true, true, true, true, true, true, true, true, true, true, true, true, true, true, true, false, false, false, false, false, false, false, false, false, false, false, false, false, false, false, false, false, false, false, false] rfl rfl (by kernel_rfl) (by decide) (fun K hSh => ?_)
    refine goes_ Try.func26 (by kernel_rfl) rfl #[.agg (revA v 5 lo hi al false (keysOf M) (valsOf M) (goneOf M) T A6 c6 A7 c7 A8 c8 A9 c9)] (by rfl) rfl rfl (by (try simp only [List.map_toArray, List.map_cons, List.map_nil]); rfl) ?_
    refine (live_go ((HKK.out _).1 (LASTK.out _ hHeld)).2.1.V HLr.out).mono ?_
    rintro e V28 ⟨rfl, hb⟩
    refine ⟨_, rfl, hSh.out _ _ (SOF.out _ (HKB.out _ _ (LASTK.out _ hHeld) hb)) ?_⟩
    clear hHeld hb hSh
    intro hHeld
    refine norm_ (a' := ?_) ?_ ?_
    rotate_left
    · simp only [Act.put, List.setIfInBounds_toArray, List.set_cons_zero, List.set_cons_succ, i64_w, i32_w]
      rfl
    refine pure_ (i := 29) (N := some 115) (v := ?_) (a' := ?_) #[true, true, true, true, true, true, true, true, true, true, true, true, true, true, true, true, true, true, true, true, true, true, true, true, true, true, true, true, true, true, false, false, false, false, false, false, false, false, false, false, false, false, false, false, false, false, false, false, false] rfl rfl (by kernel_rfl) (fun _ _ _ h => h) (Or.inl ⟨by rfl, ?_⟩) ?_ ?_
    rotate_left
    · intro w'
      go_simp
      with_reducible rfl
    rotate_left
    · simp only [Act.put, List.setIfInBounds_toArray, List.set_cons_zero, List.set_cons_succ, i64_w, i32_w]
      rfl
    refine pure_ (i := 30) (N := some 116) (v := ?_) (a' := ?_) #[true, true, true, true, true, true, true, true, true, true, true, true, true, true, true, true, true, true, true, true, true, true, true, true, true, true, true, true, true, true, true, false, false, false, false, false, false, false, false, false, false, false, false, false, false, false, false, false, false] rfl rfl (by kernel_rfl) (fun _ _ _ h => h) (Or.inl ⟨by rfl, ?_⟩) ?_ ?_
    rotate_left
    · intro w'
      go_simp
      with_reducible rfl
    rotate_left
    · simp only [Act.put, List.setIfInBounds_toArray, List.set_cons_zero, List.set_cons_succ, i64_w, i32_w]
      rfl
    refine pure_ (i := 31) (N := some 117) (v := ?_) (a' := ?_) #[true, true, true, true, true, true, true, true, true, true, true, true, true, true, true, true, true, true, true, true, true, true, true, true, true, true, true, true, true, true, true, true, false, false, false, false, false, false, false, false, false, false, false, false, false, false, false, false, false] rfl rfl (by kernel_rfl) (fun _ _ _ h => h) (Or.inl ⟨by rfl, ?_⟩) ?_ ?_
    rotate_left
    · intro w'
      go_simp
      with_reducible rfl
    rotate_left
    · simp only [Act.put, List.setIfInBounds_toArray, List.set_cons_zero, List.set_cons_succ, i64_w, i32_w]
      rfl
    refine pure_ (i := 32) (N := some 118) (v := ?_) (a' := ?_) #[true, true, true, true, true, true, true, true, true, true, true, true, true, true, true, true, true, true, true, true, true, true, true, true, true, true, true, true, true, true, true, true, true, false, false, false, false, false, false, false, false, false, false, false, false, false, false, false, false] rfl rfl (by kernel_rfl) (fun _ _ _ h => h) (Or.inl ⟨by rfl, ?_⟩) ?_ ?_
    rotate_left
    · intro w'
      go_simp
      with_reducible rfl
    rotate_left
    · simp only [Act.put, List.setIfInBounds_toArray, List.set_cons_zero, List.set_cons_succ, i64_w, i32_w]
      rfl
    refine pure_ (i := 33) (N := some 119) (v := ?_) (a' := ?_) #[true, true, true, true, true, true, true, true, true, true, true, true, true, true, true, true, true, true, true, true, true, true, true, true, true, true, true, true, true, true, true, true, true, true, false, false, false, false, false, false, false, false, false, false, false, false, false, false, false] rfl rfl (by kernel_rfl) (fun _ _ _ h => h) (Or.inl ⟨by rfl, ?_⟩) ?_ ?_
    rotate_left
    · intro w'
      go_simp
      with_reducible rfl
    rotate_left
    · simp only [Act.put, List.setIfInBounds_toArray, List.set_cons_zero, List.set_cons_succ, i64_w, i32_w]
      rfl
    refine pure_ (i := 34) (N := some 120) (v := ?_) (a' := ?_) #[true, true, true, true, true, true, true, true, true, true, true, true, true, true, true, true, true, true, true, true, true, true, true, true, true, true, true, true, true, true, true, true, true, true, true, false, false, false, false, false, false, false, false, false, false, false, false, false, false] rfl rfl (by kernel_rfl) (fun _ _ _ h => h) (Or.inl ⟨by rfl, ?_⟩) ?_ ?_
    rotate_left
    · intro w'
      go_simp
      with_reducible rfl
    rotate_left
    · simp only [Act.put, List.setIfInBounds_toArray, List.set_cons_zero, List.set_cons_succ, i64_w, i32_w]
      rfl
    refine pure_ (i := 35) (N := some 121) (v := ?_) (a' := ?_) #[true, true, true, true, true, true, true, true, true, true, true, true, true, true, true, true, true, true, true, true, true, true, true, true, true, true, true, true, true, true, true, true, true, true, true, true, false, false, false, false, false, false, false, false, false, false, false, false, false] rfl rfl (by kernel_rfl) (fun _ _ _ h => h) (Or.inl ⟨by rfl, ?_⟩) ?_ ?_
    rotate_left
    · intro w'
      go_simp
      with_reducible rfl
    rotate_left
    · simp only [Act.put, List.setIfInBounds_toArray, List.set_cons_zero, List.set_cons_succ, i64_w, i32_w]
      rfl
    refine pure_ (i := 36) (N := some 122) (v := ?_) (a' := ?_) #[true, true, true, true, true, true, true, true, true, true, true, true, true, true, true, true, true, true, true, true, true, true, true, true, true, true, true, true, true, true, true, true, true, true, true, true, true, false, false, false, false, false, false, false, false, false, false, false, false] rfl rfl (by kernel_rfl) (fun _ _ _ h => h) (Or.inl ⟨by rfl, ?_⟩) ?_ ?_
    rotate_left
    · intro w'
      go_simp
      with_reducible rfl
    rotate_left
    · simp only [Act.put, List.setIfInBounds_toArray, List.set_cons_zero, List.set_cons_succ, i64_w, i32_w]
      rfl
    refine pure_ (i := 37) (N := some 123) (v := ?_) (a' := ?_) #[true, true, true, true, true, true, true, true, true, true, true, true, true, true, true, true, true, true, true, true, true, true, true, true, true, true, true, true, true, true, true, true, true, true, true, true, true, true, false, false, false, false, false, false, false, false, false, false, false] rfl rfl (by kernel_rfl) (fun _ _ _ h => h) (Or.inl ⟨by rfl, ?_⟩) ?_ ?_
    rotate_left
    · intro w'
      go_simp
      with_reducible rfl
    rotate_left
    · simp only [Act.put, List.setIfInBounds_toArray, List.set_cons_zero, List.set_cons_succ, i64_w, i32_w]
      rfl
    refine pure_ (i := 38) (N := some 124) (v := ?_) (a' := ?_) #[true, true, true, true, true, true, true, true, true, true, true, true, true, true, true, true, true, true, true, true, true, true, true, true, true, true, true, true, true, true, true, true, true, true, true, true, true, true, true, false, false, false, false, false, false, false, false, false, false] rfl rfl (by kernel_rfl) (fun _ _ _ h => h) (Or.inl ⟨by rfl, ?_⟩) ?_ ?_
    rotate_left
    · intro w'
      go_simp
      with_reducible rfl
    rotate_left
    · simp only [Act.put, List.setIfInBounds_toArray, List.set_cons_zero, List.set_cons_succ, i64_w, i32_w]
      rfl
    refine pure_ (i := 39) (N := some 125) (v := ?_) (a' := ?_) #[true, true, true, true, true, true, true, true, true, true, true, true, true, true, true, true, true, true, true, true, true, true, true, true, true, true, true, true, true, true, true, true, true, true, true, true, true, true, true, true, false, false, false, false, false, false, false, false, false] rfl rfl (by kernel_rfl) (fun _ _ _ h => h) (Or.inl ⟨by rfl, ?_⟩) ?_ ?_
    rotate_left
    · intro w'
      go_simp
      with_reducible rfl
    rotate_left
    · simp only [Act.put, List.setIfInBounds_toArray, List.set_cons_zero, List.set_cons_succ, i64_w, i32_w]
      rfl
    refine pure_ (i := 40) (N := some 126) (v := ?_) (a' := ?_) #[true, true, true, true, true, true, true, true, true, true, true, true, true, true, true, true, true, true, true, true, true, true, true, true, true, true, true, true, true, true, true, true, true, true, true, true, true, true, true, true, true, false, false, false, false, false, false, false, false] rfl rfl (by kernel_rfl) (fun _ _ _ h => h) (Or.inl ⟨by rfl, ?_⟩) ?_ ?_
    rotate_left
    · intro w'
      go_simp
      with_reducible rfl
    rotate_left
    · simp only [Act.put, List.setIfInBounds_toArray, List.set_cons_zero, List.set_cons_succ, i64_w, i32_w]
      rfl
    refine pure_ (i := 41) (N := some 127) (v := ?_) (a' := ?_) #[true, true, true, true, true, true, true, true, true, true, true, true, true, true, true, true, true, true, true, true, true, true, true, true, true, true, true, true, true, true, true, true, true, true, true, true, true, true, true, true, true, true, false, false, false, false, false, false, false] rfl rfl (by kernel_rfl) (fun _ _ _ h => h) (Or.inl ⟨by rfl, ?_⟩) ?_ ?_
    rotate_left
    · intro w'
      go_simp
      with_reducible rfl
    rotate_left
    · simp only [Act.put, List.setIfInBounds_toArray, List.set_cons_zero, List.set_cons_succ, i64_w, i32_w]
      rfl
    refine pure_ (i := 42) (N := some 128) (v := ?_) (a' := ?_) #[true, true, true, true, true, true, true, true, true, true, true, true, true, true, true, true, true, true, true, true, true, true, true, true, true, true, true, true, true, true, true, true, true, true, true, true, true, true, true, true, true, true, true, false, false, false, false, false, false] rfl rfl (by kernel_rfl) (fun _ _ _ h => h) (Or.inl ⟨by rfl, ?_⟩) ?_ ?_
    rotate_left
    · intro w'
      go_simp
      with_reducible rfl
    rotate_left
    · simp only [Act.put, List.setIfInBounds_toArray, List.set_cons_zero, List.set_cons_succ, i64_w, i32_w]
      rfl
    refine take_ (i := 43) (N := some 129) (v := ?_) (a' := ?_) #[true, true, true, true, true, true, true, true, true, true, true, true, true, true, true, true, true, true, true, true, true, true, true, true, true, true, true, true, true, true, true, true, true, true, true, true, true, true, true, true, true, true, true, true, false, false, false, false, false] rfl rfl (by kernel_rfl) (fun _ _ _ h => h) (Or.inl ⟨by rfl, ?_⟩) hHeld ?_ ?_
    rotate_left
    · rintro w' hHeld'
      have hHeld'' := hHeld'
      (try obtain ⟨r0_, r1_⟩ := hHeld')
      (try obtain ⟨r1_, r2_⟩ := r1_)
      (try obtain ⟨r2_, r3_⟩ := r2_)
      (try obtain ⟨r3_, r4_⟩ := r3_)
      (try obtain ⟨r4_, r5_⟩ := r4_)
      (try obtain ⟨r5_, r6_⟩ := r5_)
      (try obtain ⟨r6_, r7_⟩ := r6_)
      (try obtain ⟨r7_, r8_⟩ := r7_)
      (try obtain ⟨r8_, r9_⟩ := r8_)
      (try obtain ⟨r9_, r10_⟩ := r9_)
      (try obtain ⟨r10_, r11_⟩ := r10_)
      (try obtain ⟨r11_, r12_⟩ := r11_)
      (try obtain ⟨r12_, r13_⟩ := r12_)
      (try obtain ⟨r13_, r14_⟩ := r13_)
      (try obtain ⟨r14_, r15_⟩ := r14_)
      (try obtain ⟨r15_, r16_⟩ := r15_)
      (try obtain ⟨r16_, r17_⟩ := r16_)
      (try obtain ⟨r17_, r18_⟩ := r17_)
      (try obtain ⟨r18_, r19_⟩ := r18_)
      (try obtain ⟨r19_, r20_⟩ := r19_)
      (try obtain ⟨r20_, r21_⟩ := r20_)
      (try obtain ⟨r21_, r22_⟩ := r21_)
      (try obtain ⟨r22_, r23_⟩ := r22_)
      (try obtain ⟨r23_, r24_⟩ := r23_)
      (try obtain ⟨r24_, r25_⟩ := r24_)
      (try obtain ⟨r25_, r26_⟩ := r25_)
      (try obtain ⟨r26_, r27_⟩ := r26_)
      (try obtain ⟨r27_, r28_⟩ := r27_)
      (try obtain ⟨r28_, r29_⟩ := r28_)
      (try obtain ⟨r29_, r30_⟩ := r29_)
      (try obtain ⟨r7_, r8_⟩ := r7_)
      (try obtain ⟨r8_, r9_⟩ := r8_)
      go_simp
      with_reducible rfl
    rotate_left
    · simp only [Act.put, List.setIfInBounds_toArray, List.set_cons_zero, List.set_cons_succ, i64_w, i32_w]
      rfl
    refine pure_ (i := 44) (N := some 130) (v := ?_) (a' := ?_) #[true, true, true, true, true, true, true, true, true, true, true, true, true, true, true, true, true, true, true, true, true, true, true, true, true, true, true, true, true, true, true, true, true, true, true, true, true, true, true, true, true, true, true, true, true, false, false, false, false] rfl rfl (by kernel_rfl) (fun _ _ _ h => h) (Or.inl ⟨by rfl, ?_⟩) ?_ ?_
    rotate_left
    · intro w'
      go_simp
      with_reducible rfl
    rotate_left
    · simp only [Act.put, List.setIfInBounds_toArray, List.set_cons_zero, List.set_cons_succ, i64_w, i32_w]
      rfl
    refine take_ (i := 45) (N := some 131) (v := ?_) (a' := ?_) #[true, true, true, true, true, true, true, true, true, true, true, true, true, true, true, true, true, true, true, true, true, true, true, true, true, true, true, true, true, true, true, true, true, true, true, true, true, true, true, true, true, true, true, true, true, true, false, false, false] rfl rfl (by kernel_rfl) (fun _ _ _ h => h) (Or.inl ⟨by rfl, ?_⟩) hHeld ?_ ?_
    rotate_left
    · rintro w' hHeld'
      have hHeld'' := hHeld'
      (try obtain ⟨r0_, r1_⟩ := hHeld')
      (try obtain ⟨r1_, r2_⟩ := r1_)
      (try obtain ⟨r2_, r3_⟩ := r2_)
      (try obtain ⟨r3_, r4_⟩ := r3_)
      (try obtain ⟨r4_, r5_⟩ := r4_)
      (try obtain ⟨r5_, r6_⟩ := r5_)
      (try obtain ⟨r6_, r7_⟩ := r6_)
      (try obtain ⟨r7_, r8_⟩ := r7_)
      (try obtain ⟨r8_, r9_⟩ := r8_)
      (try obtain ⟨r9_, r10_⟩ := r9_)
      (try obtain ⟨r10_, r11_⟩ := r10_)
      (try obtain ⟨r11_, r12_⟩ := r11_)
      (try obtain ⟨r12_, r13_⟩ := r12_)
      (try obtain ⟨r13_, r14_⟩ := r13_)
      (try obtain ⟨r14_, r15_⟩ := r14_)
      (try obtain ⟨r15_, r16_⟩ := r15_)
      (try obtain ⟨r16_, r17_⟩ := r16_)
      (try obtain ⟨r17_, r18_⟩ := r17_)
      (try obtain ⟨r18_, r19_⟩ := r18_)
      (try obtain ⟨r19_, r20_⟩ := r19_)
      (try obtain ⟨r20_, r21_⟩ := r20_)
      (try obtain ⟨r21_, r22_⟩ := r21_)
      (try obtain ⟨r22_, r23_⟩ := r22_)
      (try obtain ⟨r23_, r24_⟩ := r23_)
      (try obtain ⟨r24_, r25_⟩ := r24_)
      (try obtain ⟨r25_, r26_⟩ := r25_)
      (try obtain ⟨r26_, r27_⟩ := r26_)
      (try obtain ⟨r27_, r28_⟩ := r27_)
      (try obtain ⟨r28_, r29_⟩ := r28_)
      (try obtain ⟨r29_, r30_⟩ := r29_)
      (try obtain ⟨r7_, r8_⟩ := r7_)
      (try obtain ⟨r8_, r9_⟩ := r8_)
      go_simp
      with_reducible rfl
    rotate_left
    · simp only [Act.put, List.setIfInBounds_toArray, List.set_cons_zero, List.set_cons_succ, i64_w, i32_w]
      rfl
    refine one_ (i := 46) (N := some 132) #[true, true, true, true, true, true, true, true, true, true, true, true, true, true, true, true, true, true, true, true, true, true, true, true, true, true, true, true, true, true, true, true, true, true, true, true, true, true, true, true, true, true, true, true, true, true, true, false, false] rfl rfl (by kernel_rfl) (by decide) (fun K hSh => ?_)
    refine goes_ Try.func51 (by kernel_rfl) rfl #[.agg #[.string lo, .string k2, .bool false], .agg #[.string k3, .string hi2, .bool al]] (by rfl) rfl rfl (by (try simp only [List.map_toArray, List.map_cons, List.map_nil]); rfl) ?_
    refine (key_Joins.calls lo k2 false k3 hi2 al true _ HK.out).mono ?_
    rintro e V46 ⟨rfl, hb⟩
    refine ⟨_, rfl, hSh.out _ _ (SOF.out _ (HKB.out _ _ (LASTK.out _ hHeld) hb)) ?_⟩
    clear hHeld hb hSh
    intro hHeld
    refine norm_ (a' := ?_) ?_ ?_
    rotate_left
    · simp only [Act.put, List.setIfInBounds_toArray, List.set_cons_zero, List.set_cons_succ, i64_w, i32_w]
      rfl
    refine pure_ (i := 47) (N := some 133) (v := ?_) (a' := ?_) #[true, true, true, true, true, true, true, true, true, true, true, true, true, true, true, true, true, true, true, true, true, true, true, true, true, true, true, true, true, true, true, true, true, true, true, true, true, true, true, true, true, true, true, true, true, true, true, true, false] rfl rfl (by kernel_rfl) (fun _ _ _ h => h) (Or.inl ⟨by rfl, ?_⟩) ?_ ?_
    rotate_left
    · intro w'
      go_simp
      with_reducible rfl
    rotate_left
    · simp only [Act.put, List.setIfInBounds_toArray, List.set_cons_zero, List.set_cons_succ, i64_w, i32_w]
      rfl
    refine pure_ (i := 48) (N := some 8) (v := ?_) (a' := ?_) #[true, true, true, true, true, true, true, true, true, true, true, true, true, true, true, true, true, true, true, true, true, true, true, true, true, true, true, true, true, true, true, true, true, true, true, true, true, true, true, true, true, true, true, true, true, true, true, true, true] rfl rfl (by kernel_rfl) (fun _ _ _ h => h) (Or.inl ⟨by rfl, ?_⟩) ?_ ?_
    rotate_left
    · intro w'
      go_simp
      with_reducible rfl
    rotate_left
    · simp only [Act.put, List.setIfInBounds_toArray, List.set_cons_zero, List.set_cons_succ, i64_w, i32_w]
      rfl
    refine done_ (by kernel_rfl) ?_
    have FIN := Aside0.mk ((HKK.out _).1 (LASTK.out _ hHeld)).1
    clear hHeld
    go_wp2_with fail
    go_ret
    exact ⟨rfl, FIN.out⟩
end Go.Proofs.Ytoaacdjcjicemaa.RvRevBack
