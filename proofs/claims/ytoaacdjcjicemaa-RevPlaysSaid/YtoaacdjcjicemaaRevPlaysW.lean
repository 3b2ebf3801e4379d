/- RevPlays, by hand: the revision of any entries, or that they may not be, is the document's; so are what it tells of any key, and its pairs. -/
import Derived.Test.YtoaacdjcjicemaaRvRevPlays
import Derived.Test.YtoaacdjcjicemaaPRevPlaysx13
import Derived.Test.YtoaacdjcjicemaaPRevPlaysx14
namespace Go.Proofs.Ytoaacdjcjicemaa.RvRevPlays
open Go.RowKit Go.Proofs.YtoaacdjcjicemaaW.PrintWords Go.Proofs.YtoaacdjcjicemaaW.PrintLast Go.Proofs.YtoaacdjcjicemaaW.PrintMore Go.Proofs.Ytoaacdjcjicemaa.PRevPlays Go.Proofs.Ytoaacdjcjicemaa.Pure
set_option linter.unusedVariables false
set_option linter.unusedSimpArgs false
variable {W W1 : World}
theorem rget_go {A : Option Addr} {c : Nat} {l : List S62} {k : ByteArray} {p : ByteArray × Bool} (hR : Kd.C k62 W A l.length l) (hc : l.length ≤ c) (h : Ev (fun n => rundleref08_Get.f n l k) p) : Calls Try.prog 25 #[.slice A l.length c, .string k] W fun e w' => e = .returned (.tuple #[.string p.1, .bool p.2]) ∧ Below W.heap.size W w' := by
  obtain ⟨n, hk⟩ := Ev.rounds h
  refine (rundleref08_Get.calls n A c l k p.1 p.2 W hR hc hk).mono ?_
  rintro e w' ⟨rfl, hd⟩
  exact ⟨rfl, below_d hd⟩
theorem rlive_go {A : Option Addr} {c : Nat} {l m : List S62} (hR : Kd.C k62 W A l.length l) (hc : l.length ≤ c) (h : Ev (fun n => rundleref08_Live.f n l) m) : Calls Try.prog 27 #[.slice A l.length c] W fun e w' => ∃ B q, e = .returned (.slice B m.length q) ∧ Below W.heap.size W w' := by
  obtain ⟨n, hk⟩ := Ev.rounds h
  refine (rundleref08_Live.calls n A c l m W hR hc hk).mono ?_
  rintro e w' ⟨v, rfl, h6, hb⟩
  obtain ⟨B, q, rfl, _, _⟩ := Kd.R_reads h6
  exact ⟨B, q, rfl, hb⟩
theorem rpairs_go {A : Option Addr} {c : Nat} {l : List S62} {so sh : ByteArray} {sa : Bool} {lim : Int} {m : List S130} (hR : Kd.C k62 W A l.length l) (hc : l.length ≤ c) (h : Ev (fun n => rundleref08_Pairs.f n l so sh sa lim) m) : Calls Try.prog 30 #[.slice A l.length c, .agg #[.string so, .string sh, .bool sa], .int .i64 lim] W fun e w' => ∃ B q, e = .returned (.slice B m.length q) ∧ Kd.C k130 w' B m.length m ∧ m.length ≤ q ∧ Below W.heap.size W w' := by
  obtain ⟨n, hk⟩ := Ev.rounds h
  refine (rundleref08_Pairs.calls n A c l so sh sa lim m W hR hc hk).mono ?_
  rintro e w' ⟨v, rfl, h6, hb⟩
  obtain ⟨B, q, rfl, q6, k6⟩ := Kd.R_reads h6
  exact ⟨B, q, rfl, k6, q6, hb⟩
theorem pairs_go {v r : Int} {lo hi : ByteArray} {al de : Bool} {ks vs : List ByteArray} {gs : List Bool} {T : List Int} {A6 A7 A8 A9 : Option Addr} {c6 c7 c8 c9 : Nat} {so sh : ByteArray} {sa : Bool} {lim : Int} {m : List S129} (hA : RevAt W ks vs gs T A6 c6 A7 c7 A8 c8 A9 c9) (h : Ev (fun n => rev_Pairs.f n v r lo hi al de ks vs gs T so sh sa lim) m) :
    Calls Try.prog 29 #[.agg (revA v r lo hi al de ks vs gs T A6 c6 A7 c7 A8 c8 A9 c9), .agg #[.string so, .string sh, .bool sa], .int .i64 lim] W fun e w' => ∃ B q, e = .returned (.slice B m.length q) ∧ Kd.C k129 w' B m.length m ∧ m.length ≤ q ∧ Below W.heap.size W w' := by
  obtain ⟨n, hk⟩ := Ev.rounds h
  refine (rev_Pairs.calls n v r lo hi al de A6 c6 ks A7 c7 vs A8 c8 gs A9 c9 T so sh sa lim m W hA.k hA.kc hA.v hA.vc hA.g hA.gc hA.t hA.tc hk).mono ?_
  rintro e w' ⟨v, rfl, h6, hb⟩
  obtain ⟨B, q, rfl, q6, k6⟩ := Kd.R_reads h6
  exact ⟨B, q, rfl, k6, q6, hb⟩
theorem lpairs_go {A B : Option Addr} {c q : Nat} {l : List S129} {m : List S130} {r : Int} (hR : Kd.C k129 W A l.length l) (hc : l.length ≤ c) (hS : Kd.C k130 W B m.length m) (hq : m.length ≤ q) (h : Ev (fun n => rundlelaw08_Pairs.f n l m) r) : Calls Try.prog 28 #[.slice A l.length c, .slice B m.length q] W fun e w' => e = .returned (.int .i64 r) ∧ Below W.heap.size W w' := by
  obtain ⟨n, hk⟩ := Ev.rounds h
  refine (rundlelaw08_Pairs.calls n A c l B q m r W hR hc hS hq hk).mono ?_
  rintro e w' ⟨rfl, hd⟩
  exact ⟨rfl, below_d hd⟩
/-- What holds while the answers are compared. -/
structure KR (b15 b17 b12 : Nat) (rv rf : Array Value) (so sh : ByteArray) (sa : Bool) (A : Option Addr) (l : List S62) (ks vs : List ByteArray) (gs : List Bool) (T : List Int) (A6 : Option Addr) (c6 : Nat) (A7 : Option Addr) (c7 : Nat) (A8 : Option Addr) (c8 : Nat) (A9 : Option Addr) (c9 : Nat) (w W : World) : Prop where
  B : Below w.heap.size w W
  kr : W.heap[b15]? = some (.cells rv 37 (0, 0))
  kf : W.heap[b17]? = some (.cells rf 29 (0, 0))
  ki : W.heap[b12]? = some (.cells #[.string so, .string sh, .bool sa] 23 (0, 0))
  V : RevAt W ks vs gs T A6 c6 A7 c7 A8 c8 A9 c9
  L : Kd.C k62 W A l.length l
theorem KR.below {b15 b17 b12 : Nat} {rv rf : Array Value} {so sh : ByteArray} {sa : Bool} {A : Option Addr} {l : List S62} {ks vs : List ByteArray} {gs : List Bool} {T : List Int} {A6 A7 A8 A9 : Option Addr} {c6 c7 c8 c9 : Nat} {w : World} (h : KR b15 b17 b12 rv rf so sh sa A l ks vs gs T A6 c6 A7 c7 A8 c8 A9 c9 w W) (hb : Below W.heap.size W W1) : KR b15 b17 b12 rv rf so sh sa A l ks vs gs T A6 c6 A7 c7 A8 c8 A9 c9 w W1 :=
  ⟨below_then h.B h.B.size hb, blk_below h.kr hb, blk_below h.kf hb, blk_below h.ki hb, h.V.below hb, Kd.C_below h.L hb⟩
set_option maxHeartbeats 6400000 in
set_option maxRecDepth 100000 in
theorem RevPlays_walk (v r : Int) (lo hi : ByteArray) (al : Bool) (A : Option Addr) (c : Nat) (l : List S62) (k so sh : ByteArray) (sa : Bool) (lim : Int) (w : World) (hR : Kd.C k62 w A l.length l) (hc : l.length ≤ c) :
    Calls Try.prog 4 #[.int .i64 v, .int .i64 r, .agg #[.string lo, .string hi, .bool al], .slice A l.length c, .string k, .agg #[.string so, .string sh, .bool sa], .int .i64 lim] w fun e w' => e = .returned (.bool true) ∧ Below w.heap.size w w' := by
  obtain ⟨W1, hW1⟩ : ∃ W1 : World, W1 = (w.alloc (.cells #[.string lo, .string hi, .bool al] 23)).alloc (.cells #[.string so, .string sh, .bool sa] 23) := ⟨_, rfl⟩
  have hB1 : Below w.heap.size w W1 := hW1 ▸ below_alloc (below_alloc (Below.refl _ _) _) _
  have k1 : W1.heap[w.heap.size]? = some (.cells #[.string lo, .string hi, .bool al] 23 (0, 0)) := hW1 ▸ blk_alloc (blk_new _ _) _
  have k2 : W1.heap[w.heap.size + 1]? = some (.cells #[.string so, .string sh, .bool sa] 23 (0, 0)) := by
    have e : w.heap.size + 1 = (w.alloc (.cells #[.string lo, .string hi, .bool al] 23)).heap.size := by simp
    rw [e]
    exact hW1 ▸ blk_new _ _
  have hR1 := Kd.C_below hR hB1
  have HW1 := Aside0.mk hW1
  have HC := Aside0.mk hc
  clear hW1 hR hc
  go_enter Try.func4, Try.ntmps4
  go_upto_region 1 with fail
  rw [← HW1.out]
  clear HW1
  go_wp2_with fail
  refine (awake_go W1).mono ?_
  rintro e W2 ⟨rfl, hb2⟩
  have hR2 := Kd.C_below hR1 hb2
  have l1 := blk_below k1 hb2
  have l2 := blk_below k2 hb2
  have HB2 := Aside0.mk (below_then hB1 hB1.size hb2)
  clear hb2 k1 k2 hB1 hR1
  have short : ∀ X, Below w.heap.size w X → Calls Try.prog 12 #[] X fun e w' => e = .returned (.bool true) ∧ Below w.heap.size w w' := fun X hX => (awake_go X).mono (by
    rintro e w' ⟨rfl, hb⟩
    exact ⟨rfl, below_then hX hX.size hb⟩)
  have SH := Aside0.mk short
  clear short
  rcases few8 l with ⟨f1, hl, sl, vl⟩ | f1
  rotate_left
  · go_wp2_with fail
    refine (few_go hR2 HC.out f1).mono ?_
    rintro e W3 ⟨rfl, hb3⟩
    have HB3 := Aside0.mk (below_then HB2.out HB2.out.size hb3)
    clear hb3
    go_wp2_with fail
    refine (SH.out _ HB3.out).mono ?_
    rintro e W9 ⟨rfl, hb9⟩
    have HB9 := Aside0.mk hb9
    clear hb9
    go_wp2_with fail
    go_ret
    exact ⟨rfl, HB9.out⟩
  go_wp2_with fail
  refine (few_go hR2 HC.out f1).mono ?_
  rintro e W3 ⟨rfl, hb3⟩
  have hR3 := Kd.C_below hR2 hb3
  have m1 := blk_below l1 hb3
  have m2 := blk_below l2 hb3
  have HB3 := Aside0.mk (below_then HB2.out HB2.out.size hb3)
  clear hb3 l1 l2 hR2 f1
  obtain ⟨s0, s1, s2⟩ := box3_ m1
  go_wp2_with fail
  refine (short_go lo hi al W3).mono ?_
  rintro e W4 ⟨rfl, hb4⟩
  have hR4 := Kd.C_below hR3 hb4
  have n1 := blk_below m1 hb4
  have n2 := blk_below m2 hb4
  have HB4 := Aside0.mk (below_then HB3.out HB3.out.size hb4)
  clear hb4 m1 m2 hR3 s0 s1 s2
  obtain ⟨d, hd⟩ : ∃ d, (decide ((lo.size : Int) ≤ 40) && decide ((hi.size : Int) ≤ 40)) = d := ⟨_, rfl⟩
  rw [hd]
  clear hd
  cases d
  · skip
    go_wp2_with fail
    refine (SH.out _ HB4.out).mono ?_
    rintro e W9 ⟨rfl, hb9⟩
    have HB9 := Aside0.mk hb9
    clear hb9
    go_wp2_with fail
    go_ret
    exact ⟨rfl, HB9.out⟩
  obtain ⟨s0, s1, s2⟩ := box3_ n2
  go_wp2_with fail
  refine (short_go so sh sa W4).mono ?_
  rintro e W5 ⟨rfl, hb5⟩
  have hR5 := Kd.C_below hR4 hb5
  have m1 := blk_below n1 hb5
  have m2 := blk_below n2 hb5
  have HB5 := Aside0.mk (below_then HB4.out HB4.out.size hb5)
  clear hb5 n1 n2 hR4 s0 s1 s2
  obtain ⟨d, hd⟩ : ∃ d, (decide ((so.size : Int) ≤ 40) && decide ((sh.size : Int) ≤ 40)) = d := ⟨_, rfl⟩
  rw [hd]
  clear hd
  cases d
  · skip
    go_wp2_with fail
    refine (SH.out _ HB5.out).mono ?_
    rintro e W9 ⟨rfl, hb9⟩
    have HB9 := Aside0.mk hb9
    clear hb9
    go_wp2_with fail
    go_ret
    exact ⟨rfl, HB9.out⟩
  by_cases hk : 40 < k.size
  · have g1 : decide (40 < k.size) = true := decide_eq_true hk
    have g2 : decide ((40 : Int) < (k.size : Int)) = true := decide_eq_true (by omega)
    go_wp2_with fail
    refine (SH.out _ HB5.out).mono ?_
    rintro e W9 ⟨rfl, hb9⟩
    have HB9 := Aside0.mk hb9
    clear hb9
    go_wp2_with fail
    go_ret
    exact ⟨rfl, HB9.out⟩
  have g1 : decide (40 < k.size) = false := decide_eq_false hk
  have g2 : decide ((40 : Int) < (k.size : Int)) = false := decide_eq_false (by omega)
  obtain ⟨s0, s1, s2⟩ := box3_ m1
  have hlk : k.size ≤ 140737488351232 := by omega
  have hl9 : l.length ≤ 1000 := by omega
  have hml0 : (l.map cv).length ≤ 1000 := by rw [List.length_map]; exact hl9
  have hof := ev_of8 l hl9
  have hrm := ev_rmay lo hi al l hl9 sl
  have hgt := ev_rget l hl9 k
  have hsm := fun T hT => same_ok v r lo hi al l hl9 sl T hT
  have hrp := ev_rpairs l hl9 sl so sh sa lim
  have hpe := pairs_eq l so sh sa lim.toNat
  have hll := live_len l
  obtain ⟨M, hME⟩ : ∃ M, l.map cv = M := ⟨_, rfl⟩
  rw [hME] at hml0 hof hrm hgt hpe hll sl
  simp only [hME] at hsm
  have HSM := Aside0.mk hsm
  have HGT := Aside0.mk hgt
  have HRP0 := Aside0.mk hrp
  have HPE0 := Aside0.mk hpe
  have HLL0 := Aside0.mk hll
  have hml := hml0
  clear hME hsm hgt hrp hpe hll hml0 vl
  go_wp2_with fail
  refine (of4_go lo hi al W5).mono ?_
  rintro e W6 ⟨rfl, hb6⟩
  have hR6 := Kd.C_below hR5 hb6
  have n1 := blk_below m1 hb6
  have n2 := blk_below m2 hb6
  have HB6 := Aside0.mk (below_then HB5.out HB5.out.size hb6)
  clear hb6 m1 m2 hR5 s0 s1 s2
  go_wp2_with fail
  refine (of_go hR6 HC.out hof).mono ?_
  rintro e W7 ⟨B7, q7, rfl, hM7, hq7, hb7⟩
  have hR7 := Kd.C_below hR6 hb7
  have m1 := blk_below n1 hb7
  have m2 := blk_below n2 hb7
  have HB7 := Aside0.mk (below_then HB6.out HB6.out.size hb7)
  clear hb7 n1 n2 hR6
  obtain ⟨bm, hbm, hbi⟩ := hrm
  rcases ev_new M hml sl v r lo hi al with ⟨hM, T, hT, h1⟩ | ⟨hM, h1⟩
  · obtain rfl : bm = true := hbi.2 hM
    have HBM := Aside0.mk hbm
    have HT := Aside0.mk hT
    clear hbm hbi hM hT
    go_wp2_with fail
    refine (new_go hM7 hq7 h1).mono ?_
    rintro e W8 ⟨A6, c6, A7, c7, A8, c8, A9, c9, rfl, hA8, hb8⟩
    have hR8 := Kd.C_below hR7 hb8
    have n1 := blk_below m1 hb8
    have n2 := blk_below m2 hb8
    have HB8 := Aside0.mk (below_then HB7.out HB7.out.size hb8)
    clear hb8 m1 m2 hR7 hM7 h1
    obtain ⟨RV, hRV⟩ : ∃ RV, RV = (#[.int .i64 v, .int .i64 r, .string lo, .string hi, .bool al, .bool false, .slice A6 (keysOf M).length c6, .slice A7 (valsOf M).length c7, .slice A8 (goneOf M).length c8, .slice A9 T.length c9] : Array Value) := ⟨_, rfl⟩
    obtain ⟨Wa, hWa⟩ : ∃ Wa : World, Wa = W8.alloc (.cells (#[.int .i64 v, .int .i64 r, .string lo, .string hi, .bool al, .bool false, .slice A6 (keysOf M).length c6, .slice A7 (valsOf M).length c7, .slice A8 (goneOf M).length c8, .slice A9 T.length c9] : Array Value) 37) := ⟨_, rfl⟩
    have hba : Below W8.heap.size W8 Wa := hWa ▸ below_alloc (Below.refl _ _) _
    have ka : Wa.heap[W8.heap.size]? = some (.cells RV 37 (0, 0)) := by rw [hRV, hWa]; exact blk_new _ _
    have hRa := Kd.C_below hR8 hba
    have hAa := hA8.below hba
    have o1 := blk_below n1 hba
    have o2 := blk_below n2 hba
    have HBa := Aside0.mk (below_then HB8.out HB8.out.size hba)
    have HWA := Aside0.mk hWa
    clear hba hWa hR8 hA8 n1 n2
    have HRV := Aside0.mk hRV
    clear hRV
    go_upto_region 4 with fail
    rw [← HWA.out]
    clear HWA
    obtain ⟨s0, s1, s2⟩ := box3_ o1
    go_wp2_with fail
    refine (made_go (v := v) (r := r) hRa HC.out HBM.out).mono ?_
    rintro e Wb ⟨rfl, hbb⟩
    have hRb := Kd.C_below hRa hbb
    have hAb := hAa.below hbb
    have kb := blk_below ka hbb
    have p2 := blk_below o2 hbb
    have HBb := Aside0.mk (below_then HBa.out HBa.out.size hbb)
    clear hbb hRa hAa ka o1 o2 s0 s1 s2
    simp only [if_true]
    obtain ⟨Wc, hWc⟩ : ∃ Wc : World, Wc = Wb.alloc (.cells (refA v r lo hi al false A l.length c) 29) := ⟨_, rfl⟩
    have hbc : Below Wb.heap.size Wb Wc := hWc ▸ below_alloc (Below.refl _ _) _
    have KC := Aside0.mk (show KR W8.heap.size Wb.heap.size (w.heap.size + 1) RV (refA v r lo hi al false A l.length c) so sh sa A l (keysOf M) (valsOf M) (goneOf M) T A6 c6 A7 c7 A8 c8 A9 c9 w Wc from ⟨below_then HBb.out HBb.out.size hbc, blk_below kb hbc, hWc ▸ blk_new _ _, blk_below p2 hbc, hAb.below hbc, Kd.C_below hRb hbc⟩)
    have HWC := Aside0.mk hWc
    clear hbc hWc kb p2 hAb hRb
    go_upto_region 5 with fail
    rw [← HWC.out]
    clear HWC
    have kx := KC.out.kr
    rw [HRV.out] at kx
    obtain ⟨x0, x1, x2, x3, x4, x5, x6, x7, x8, x9⟩ := box10_ kx
    clear kx
    go_wp2_with fail
    refine (get_go KC.out.V (ev_get M hml T HT.out k hlk v r lo hi al false)).mono ?_
    rintro e Wd ⟨rfl, hbd⟩
    have KD := Aside0.mk (KC.out.below hbd)
    clear hbd x0 x1 x2 x3 x4 x5 x6 x7 x8 x9 KC
    obtain ⟨p, hp⟩ : ∃ p, tell (M.find? (is k)) = p := ⟨_, rfl⟩
    have HG := Aside0.mk (show Ev (fun n => rundleref08_Get.f n l k) p from hp ▸ HGT.out)
    rw [hp]
    clear hp
    go_wp2_with fail
    refine (rget_go KD.out.L HC.out HG.out).mono ?_
    rintro e We ⟨rfl, hbe⟩
    have KE := Aside0.mk (KD.out.below hbe)
    clear hbe KD HG
    obtain ⟨p1, p2⟩ := p
    simp only
    have HS := Aside0.mk (HSM.out T HT.out)
    have hV := (ev_live M hml T v r lo hi al false)
    have hRL := ev_rlive l hl9
    have hP := (ev_pairs M hml T v r lo hi al false so sh sa lim)
    have hRP := HRP0.out
    obtain ⟨Bp, hBp⟩ : ∃ Bp, (((l.filter fun e => pw so sh sa (cv e)).map fun e => (⟨e.f0, e.f1⟩ : S130)).take lim.toNat) = Bp := ⟨_, rfl⟩
    have hBl : Bp.length ≤ 1000 := by
      rw [← hBp, List.length_take, List.length_map]
      have := List.length_filter_le (fun e => pw so sh sa (cv e)) l
      omega
    have hLP := ev_lpairs Bp hBl
    have hPE := HPE0.out
    rw [hBp] at hPE hRP
    obtain ⟨Ap, hAp⟩ : ∃ Ap, Bp.map g130 = Ap := ⟨_, rfl⟩
    rw [hAp] at hPE hLP
    rw [hPE] at hP
    have HRP := Aside0.mk hRP
    have HP := Aside0.mk hP
    have HLP := Aside0.mk hLP
    have hLL := HLL0.out
    clear hRP hP hLP
    obtain ⟨nl, hnl⟩ : ∃ nl, liveN M = nl := ⟨_, rfl⟩
    rw [hnl] at hLL hV
    have HV := Aside0.mk hV
    clear hV
    obtain ⟨ml, hml2⟩ : ∃ ml, (l.filter fun e => !e.f2) = ml := ⟨_, rfl⟩
    rw [hml2] at hLL hRL
    have HRL := Aside0.mk hRL
    clear hRL
    have HLL := Aside0.mk hLL
    clear hPE hBp hnl hml2 hLL hBl sl HT hAp HSM HGT HRP0 HPE0 HLL0
    have SOF := Aside0.mk (show ∀ w', KR W8.heap.size Wb.heap.size (w.heap.size + 1) RV (refA v r lo hi al false A l.length c) so sh sa A l (keysOf M) (valsOf M) (goneOf M) T A6 c6 A7 c7 A8 c8 A9 c9 w w' → (w'.cell? ⟨W8.heap.size, 0, none⟩ = some (.int .i64 v) ∧ w'.cell? ⟨W8.heap.size, 1, none⟩ = some (.int .i64 r) ∧ w'.cell? ⟨W8.heap.size, 2, none⟩ = some (.string lo) ∧ w'.cell? ⟨W8.heap.size, 3, none⟩ = some (.string hi) ∧ w'.cell? ⟨W8.heap.size, 4, none⟩ = some (.bool al) ∧ w'.cell? ⟨W8.heap.size, 5, none⟩ = some (.bool false) ∧ w'.cell? ⟨W8.heap.size, 6, none⟩ = some (.slice A6 (keysOf M).length c6) ∧ w'.cell? ⟨W8.heap.size, 7, none⟩ = some (.slice A7 (valsOf M).length c7) ∧ w'.cell? ⟨W8.heap.size, 8, none⟩ = some (.slice A8 (goneOf M).length c8) ∧ w'.cell? ⟨W8.heap.size, 9, none⟩ = some (.slice A9 T.length c9) ∧ w'.cell? ⟨Wb.heap.size, 0, none⟩ = some (.int .i64 v) ∧ w'.cell? ⟨Wb.heap.size, 1, none⟩ = some (.int .i64 r) ∧ w'.cell? ⟨Wb.heap.size, 2, none⟩ = some (.string lo) ∧ w'.cell? ⟨Wb.heap.size, 3, none⟩ = some (.string hi) ∧ w'.cell? ⟨Wb.heap.size, 4, none⟩ = some (.bool al) ∧ w'.cell? ⟨Wb.heap.size, 5, none⟩ = some (.bool false) ∧ w'.cell? ⟨Wb.heap.size, 6, none⟩ = some (.slice A l.length c) ∧ w'.cell? ⟨w.heap.size + 1, 0, none⟩ = some (.string so) ∧ w'.cell? ⟨w.heap.size + 1, 1, none⟩ = some (.string sh) ∧ w'.cell? ⟨w.heap.size + 1, 2, none⟩ = some (.bool sa) ∧ KR W8.heap.size Wb.heap.size (w.heap.size + 1) RV (refA v r lo hi al false A l.length c) so sh sa A l (keysOf M) (valsOf M) (goneOf M) T A6 c6 A7 c7 A8 c8 A9 c9 w w') from fun w' hk => by
      have kx := hk.kr
      rw [HRV.out] at kx
      obtain ⟨x0, x1, x2, x3, x4, x5, x6, x7, x8, x9⟩ := box10_ kx
      obtain ⟨y0, y1, y2, y3, y4, y5, y6⟩ := box7_ hk.kf
      obtain ⟨z0, z1, z2⟩ := box3_ hk.ki
      exact ⟨x0, x1, x2, x3, x4, x5, x6, x7, x8, x9, y0, y1, y2, y3, y4, y5, y6, z0, z1, z2, hk⟩)
    have KF := Aside0.mk (SOF.out _ (KE.out.below (pw_below_drewN (Below.refl We.heap.size We) 1)))
    have LASTK := Aside0.mk (show ∀ w', (w'.cell? ⟨W8.heap.size, 0, none⟩ = some (.int .i64 v) ∧ w'.cell? ⟨W8.heap.size, 1, none⟩ = some (.int .i64 r) ∧ w'.cell? ⟨W8.heap.size, 2, none⟩ = some (.string lo) ∧ w'.cell? ⟨W8.heap.size, 3, none⟩ = some (.string hi) ∧ w'.cell? ⟨W8.heap.size, 4, none⟩ = some (.bool al) ∧ w'.cell? ⟨W8.heap.size, 5, none⟩ = some (.bool false) ∧ w'.cell? ⟨W8.heap.size, 6, none⟩ = some (.slice A6 (keysOf M).length c6) ∧ w'.cell? ⟨W8.heap.size, 7, none⟩ = some (.slice A7 (valsOf M).length c7) ∧ w'.cell? ⟨W8.heap.size, 8, none⟩ = some (.slice A8 (goneOf M).length c8) ∧ w'.cell? ⟨W8.heap.size, 9, none⟩ = some (.slice A9 T.length c9) ∧ w'.cell? ⟨Wb.heap.size, 0, none⟩ = some (.int .i64 v) ∧ w'.cell? ⟨Wb.heap.size, 1, none⟩ = some (.int .i64 r) ∧ w'.cell? ⟨Wb.heap.size, 2, none⟩ = some (.string lo) ∧ w'.cell? ⟨Wb.heap.size, 3, none⟩ = some (.string hi) ∧ w'.cell? ⟨Wb.heap.size, 4, none⟩ = some (.bool al) ∧ w'.cell? ⟨Wb.heap.size, 5, none⟩ = some (.bool false) ∧ w'.cell? ⟨Wb.heap.size, 6, none⟩ = some (.slice A l.length c) ∧ w'.cell? ⟨w.heap.size + 1, 0, none⟩ = some (.string so) ∧ w'.cell? ⟨w.heap.size + 1, 1, none⟩ = some (.string sh) ∧ w'.cell? ⟨w.heap.size + 1, 2, none⟩ = some (.bool sa) ∧ KR W8.heap.size Wb.heap.size (w.heap.size + 1) RV (refA v r lo hi al false A l.length c) so sh sa A l (keysOf M) (valsOf M) (goneOf M) T A6 c6 A7 c7 A8 c8 A9 c9 w w') → KR W8.heap.size Wb.heap.size (w.heap.size + 1) RV (refA v r lo hi al false A l.length c) so sh sa A l (keysOf M) (valsOf M) (goneOf M) T A6 c6 A7 c7 A8 c8 A9 c9 w w' from fun w' h => h.2.2.2.2.2.2.2.2.2.2.2.2.2.2.2.2.2.2.2.2)
    clear KE
    go_upto_region 9 with fail
    refine start_ (n := 40) (S := fun w' => w'.cell? ⟨W8.heap.size, 0, none⟩ = some (.int .i64 v) ∧ w'.cell? ⟨W8.heap.size, 1, none⟩ = some (.int .i64 r) ∧ w'.cell? ⟨W8.heap.size, 2, none⟩ = some (.string lo) ∧ w'.cell? ⟨W8.heap.size, 3, none⟩ = some (.string hi) ∧ w'.cell? ⟨W8.heap.size, 4, none⟩ = some (.bool al) ∧ w'.cell? ⟨W8.heap.size, 5, none⟩ = some (.bool false) ∧ w'.cell? ⟨W8.heap.size, 6, none⟩ = some (.slice A6 (keysOf M).length c6) ∧ w'.cell? ⟨W8.heap.size, 7, none⟩ = some (.slice A7 (valsOf M).length c7) ∧ w'.cell? ⟨W8.heap.size, 8, none⟩ = some (.slice A8 (goneOf M).length c8) ∧ w'.cell? ⟨W8.heap.size, 9, none⟩ = some (.slice A9 T.length c9) ∧ w'.cell? ⟨Wb.heap.size, 0, none⟩ = some (.int .i64 v) ∧ w'.cell? ⟨Wb.heap.size, 1, none⟩ = some (.int .i64 r) ∧ w'.cell? ⟨Wb.heap.size, 2, none⟩ = some (.string lo) ∧ w'.cell? ⟨Wb.heap.size, 3, none⟩ = some (.string hi) ∧ w'.cell? ⟨Wb.heap.size, 4, none⟩ = some (.bool al) ∧ w'.cell? ⟨Wb.heap.size, 5, none⟩ = some (.bool false) ∧ w'.cell? ⟨Wb.heap.size, 6, none⟩ = some (.slice A l.length c) ∧ w'.cell? ⟨w.heap.size + 1, 0, none⟩ = some (.string so) ∧ w'.cell? ⟨w.heap.size + 1, 1, none⟩ = some (.string sh) ∧ w'.cell? ⟨w.heap.size + 1, 2, none⟩ = some (.bool sa) ∧ KR W8.heap.size Wb.heap.size (w.heap.size + 1) RV (refA v r lo hi al false A l.length c) so sh sa A l (keysOf M) (valsOf M) (goneOf M) T A6 c6 A7 c7 A8 c8 A9 c9 w w') (ds := []) #[false, false, false, false, false, false, false, false, false, false, false, false, false, false, false, false, false, false, false, false, false, false, false, false, false, false, false, false, false, false, false, false, false, false, false, false, false, false, false, false] rfl rfl rfl (KF.out) ?_
    intro hHeld
    refine pure_ (i := 0) (N := some 86) (v := ?_) (a' := ?_) #[true, false, false, false, false, false, false, false, false, false, false, false, false, false, false, false, false, false, false, false, false, false, false, false, false, false, false, false, false, false, false, false, false, false, false, false, false, false, false, false] rfl rfl (by kernel_rfl) (fun _ _ _ h => h) (Or.inl ⟨by rfl, ?_⟩) ?_ ?_
    rotate_left
    · intro w'
      go_simp
      with_reducible rfl
    rotate_left
    · simp only [Act.put, List.setIfInBounds_toArray, List.set_cons_zero, List.set_cons_succ, i64_w, i32_w]
      rfl
    refine pure_ (i := 1) (N := some 87) (v := ?_) (a' := ?_) #[true, true, false, false, false, false, false, false, false, false, false, false, false, false, false, false, false, false, false, false, false, false, false, false, false, false, false, false, false, false, false, false, false, false, false, false, false, false, false, false] rfl rfl (by kernel_rfl) (fun _ _ _ h => h) (Or.inl ⟨by rfl, ?_⟩) ?_ ?_
    rotate_left
    · intro w'
      go_simp
      with_reducible rfl
    rotate_left
    · simp only [Act.put, List.setIfInBounds_toArray, List.set_cons_zero, List.set_cons_succ, i64_w, i32_w]
      rfl
    refine pure_ (i := 2) (N := some 88) (v := ?_) (a' := ?_) #[true, true, true, false, false, false, false, false, false, false, false, false, false, false, false, false, false, false, false, false, false, false, false, false, false, false, false, false, false, false, false, false, false, false, false, false, false, false, false, false] rfl rfl (by kernel_rfl) (fun _ _ _ h => h) (Or.inl ⟨by rfl, ?_⟩) ?_ ?_
    rotate_left
    · intro w'
      go_simp
      with_reducible rfl
    rotate_left
    · simp only [Act.put, List.setIfInBounds_toArray, List.set_cons_zero, List.set_cons_succ, i64_w, i32_w]
      rfl
    refine take_ (i := 3) (N := some 89) (v := ?_) (a' := ?_) #[true, true, true, true, false, false, false, false, false, false, false, false, false, false, false, false, false, false, false, false, false, false, false, false, false, false, false, false, false, false, false, false, false, false, false, false, false, false, false, false] rfl rfl (by kernel_rfl) (fun _ _ _ h => h) (Or.inl ⟨by rfl, ?_⟩) hHeld ?_ ?_
    rotate_left
    · rintro w' hHeld'
      have hHeld'' := hHeld'
      (try obtain ⟨r0_, r1_⟩ := hHeld')
      (try obtain ⟨r1_, r2_⟩ := r1_)
      (try obtain ⟨r2_, r3_⟩ := r2_)
      (try obtain ⟨r3_, r4_⟩ := r3_)
      (try obtain ⟨r4_, r5_⟩ := r4_)
      (try obtain ⟨r5_, r6_⟩ := r5_)
      (try obtain ⟨r6_, r7_⟩ := r6_)
      (try obtain ⟨r7_, r8_⟩ := r7_)
      (try obtain ⟨r8_, r9_⟩ := r8_)
      (try obtain ⟨r9_, r10_⟩ := r9_)
      (try obtain ⟨r10_, r11_⟩ := r10_)
      (try obtain ⟨r11_, r12_⟩ := r11_)
      (try obtain ⟨r12_, r13_⟩ := r12_)
      (try obtain ⟨r13_, r14_⟩ := r13_)
      (try obtain ⟨r14_, r15_⟩ := r14_)
      (try obtain ⟨r15_, r16_⟩ := r15_)
      (try obtain ⟨r16_, r17_⟩ := r16_)
      (try obtain ⟨r17_, r18_⟩ := r17_)
      (try obtain ⟨r18_, r19_⟩ := r18_)
      (try obtain ⟨r19_, r20_⟩ := r19_)
      (try obtain ⟨r20_, r21_⟩ := r20_)
      (try obtain ⟨r21_, r22_⟩ := r21_)
      (try obtain ⟨r7_, r8_⟩ := r7_)
      (try obtain ⟨r8_, r9_⟩ := r8_)
      go_simp
      with_reducible rfl
    rotate_left
    · simp only [Act.put, List.setIfInBounds_toArray, List.set_cons_zero, List.set_cons_succ, i64_w, i32_w]
      rfl
    refine take_ (i := 4) (N := some 90) (v := ?_) (a' := ?_) #[true, true, true, true, true, false, false, false, false, false, false, false, false, false, false, false, false, false, false, false, false, false, false, false, false, false, false, false, false, false, false, false, false, false, false, false, false, false, false, false] rfl rfl (by kernel_rfl) (fun _ _ _ h => h) (Or.inl ⟨by rfl, ?_⟩) hHeld ?_ ?_
    rotate_left
    · rintro w' hHeld'
      have hHeld'' := hHeld'
      (try obtain ⟨r0_, r1_⟩ := hHeld')
      (try obtain ⟨r1_, r2_⟩ := r1_)
      (try obtain ⟨r2_, r3_⟩ := r2_)
      (try obtain ⟨r3_, r4_⟩ := r3_)
      (try obtain ⟨r4_, r5_⟩ := r4_)
      (try obtain ⟨r5_, r6_⟩ := r5_)
      (try obtain ⟨r6_, r7_⟩ := r6_)
      (try obtain ⟨r7_, r8_⟩ := r7_)
      (try obtain ⟨r8_, r9_⟩ := r8_)
      (try obtain ⟨r9_, r10_⟩ := r9_)
      (try obtain ⟨r10_, r11_⟩ := r10_)
      (try obtain ⟨r11_, r12_⟩ := r11_)
      (try obtain ⟨r12_, r13_⟩ := r12_)
      (try obtain ⟨r13_, r14_⟩ := r13_)
      (try obtain ⟨r14_, r15_⟩ := r14_)
      (try obtain ⟨r15_, r16_⟩ := r15_)
      (try obtain ⟨r16_, r17_⟩ := r16_)
      (try obtain ⟨r17_, r18_⟩ := r17_)
      (try obtain ⟨r18_, r19_⟩ := r18_)
      (try obtain ⟨r19_, r20_⟩ := r19_)
      (try obtain ⟨r20_, r21_⟩ := r20_)
      (try obtain ⟨r21_, r22_⟩ := r21_)
      (try obtain ⟨r7_, r8_⟩ := r7_)
      (try obtain ⟨r8_, r9_⟩ := r8_)
      go_simp
      with_reducible rfl
    rotate_left
    · simp only [Act.put, List.setIfInBounds_toArray, List.set_cons_zero, List.set_cons_succ, i64_w, i32_w]
      rfl
    refine one_ (i := 5) (N := some 91) #[true, true, true, true, true, true, false, false, false, false, false, false, false, false, false, false, false, false, false, false, false, false, false, false, false, false, false, false, false, false, false, false, false, false, false, false, false, false, false, false] rfl rfl (by kernel_rfl) (by decide) (fun K hSh => ?_)
    refine goes_ Try.func21 (by kernel_rfl) rfl #[.agg (revA v r lo hi al false (keysOf M) (valsOf M) (goneOf M) T A6 c6 A7 c7 A8 c8 A9 c9), .agg (refA v r lo hi al false A l.length c)] (by rfl) rfl rfl (by (try simp only [List.map_toArray, List.map_cons, List.map_nil]); rfl) ?_
    refine (same_go (LASTK.out _ hHeld).V (LASTK.out _ hHeld).L HC.out HS.out).mono ?_
    rintro e V5 ⟨rfl, hb⟩
    refine ⟨_, rfl, hSh.out _ _ (SOF.out _ ((LASTK.out _ hHeld).below hb)) ?_⟩
    clear hHeld hb hSh
    intro hHeld
    refine norm_ (a' := ?_) ?_ ?_
    rotate_left
    · simp only [Act.put, List.setIfInBounds_toArray, List.set_cons_zero, List.set_cons_succ, i64_w, i32_w]
      rfl
    refine pure_ (i := 6) (N := some 92) (v := ?_) (a' := ?_) #[true, true, true, true, true, true, true, false, false, false, false, false, false, false, false, false, false, false, false, false, false, false, false, false, false, false, false, false, false, false, false, false, false, false, false, false, false, false, false, false] rfl rfl (by kernel_rfl) (fun _ _ _ h => h) (Or.inl ⟨by rfl, ?_⟩) ?_ ?_
    rotate_left
    · intro w'
      go_simp
      with_reducible rfl
    rotate_left
    · simp only [Act.put, List.setIfInBounds_toArray, List.set_cons_zero, List.set_cons_succ, i64_w, i32_w]
      rfl
    refine pure_ (i := 7) (N := some 93) (v := ?_) (a' := ?_) #[true, true, true, true, true, true, true, true, false, false, false, false, false, false, false, false, false, false, false, false, false, false, false, false, false, false, false, false, false, false, false, false, false, false, false, false, false, false, false, false] rfl rfl (by kernel_rfl) (fun _ _ _ h => h) (Or.inl ⟨by rfl, ?_⟩) ?_ ?_
    rotate_left
    · intro w'
      go_simp
      with_reducible rfl
    rotate_left
    · simp only [Act.put, List.setIfInBounds_toArray, List.set_cons_zero, List.set_cons_succ, i64_w, i32_w]
      rfl
    refine pure_ (i := 8) (N := some 94) (v := ?_) (a' := ?_) #[true, true, true, true, true, true, true, true, true, false, false, false, false, false, false, false, false, false, false, false, false, false, false, false, false, false, false, false, false, false, false, false, false, false, false, false, false, false, false, false] rfl rfl (by kernel_rfl) (fun _ _ _ h => h) (Or.inl ⟨by rfl, ?_⟩) ?_ ?_
    rotate_left
    · intro w'
      go_simp
      with_reducible rfl
    rotate_left
    · simp only [Act.put, List.setIfInBounds_toArray, List.set_cons_zero, List.set_cons_succ, i64_w, i32_w]
      rfl
    refine pure_ (i := 9) (N := some 95) (v := ?_) (a' := ?_) #[true, true, true, true, true, true, true, true, true, true, false, false, false, false, false, false, false, false, false, false, false, false, false, false, false, false, false, false, false, false, false, false, false, false, false, false, false, false, false, false] rfl rfl (by kernel_rfl) (fun _ _ _ h => h) (Or.inl ⟨by rfl, ?_⟩) ?_ ?_
    rotate_left
    · intro w'
      go_simp
      with_reducible rfl
    rotate_left
    · simp only [Act.put, List.setIfInBounds_toArray, List.set_cons_zero, List.set_cons_succ, i64_w, i32_w]
      rfl
    refine pure_ (i := 10) (N := some 96) (v := ?_) (a' := ?_) #[true, true, true, true, true, true, true, true, true, true, true, false, false, false, false, false, false, false, false, false, false, false, false, false, false, false, false, false, false, false, false, false, false, false, false, false, false, false, false, false] rfl rfl (by kernel_rfl) (fun _ _ _ h => h) (Or.inl ⟨by rfl, ?_⟩) ?_ ?_
    rotate_left
    · intro w'
      go_simp
      with_reducible rfl
    rotate_left
    · simp only [Act.put, List.setIfInBounds_toArray, List.set_cons_zero, List.set_cons_succ, i64_w, i32_w]
      rfl
    refine pure_ (i := 11) (N := some 97) (v := ?_) (a' := ?_) #[true, true, true, true, true, true, true, true, true, true, true, true, false, false, false, false, false, false, false, false, false, false, false, false, false, false, false, false, false, false, false, false, false, false, false, false, false, false, false, false] rfl rfl (by kernel_rfl) (fun _ _ _ h => h) (Or.inl ⟨by rfl, ?_⟩) ?_ ?_
    rotate_left
    · intro w'
      go_simp
      with_reducible rfl
    rotate_left
    · simp only [Act.put, List.setIfInBounds_toArray, List.set_cons_zero, List.set_cons_succ, i64_w, i32_w]
      rfl
    refine pure_ (i := 12) (N := some 98) (v := ?_) (a' := ?_) #[true, true, true, true, true, true, true, true, true, true, true, true, true, false, false, false, false, false, false, false, false, false, false, false, false, false, false, false, false, false, false, false, false, false, false, false, false, false, false, false] rfl rfl (by kernel_rfl) (fun _ _ _ h => h) (Or.inl ⟨by rfl, ?_⟩) ?_ ?_
    rotate_left
    · intro w'
      go_simp
      with_reducible rfl
    rotate_left
    · simp only [Act.put, List.setIfInBounds_toArray, List.set_cons_zero, List.set_cons_succ, i64_w, i32_w]
      rfl
    refine pure_ (i := 13) (N := some 99) (v := ?_) (a' := ?_) #[true, true, true, true, true, true, true, true, true, true, true, true, true, true, false, false, false, false, false, false, false, false, false, false, false, false, false, false, false, false, false, false, false, false, false, false, false, false, false, false] rfl rfl (by kernel_rfl) (fun _ _ _ h => h) (Or.inl ⟨by rfl, ?_⟩) ?_ ?_
    rotate_left
    · intro w'
      go_simp
      with_reducible rfl
    rotate_left
    · simp only [Act.put, List.setIfInBounds_toArray, List.set_cons_zero, List.set_cons_succ, i64_w, i32_w]
      rfl
    refine pure_ (i := 14) (N := some 100) (v := ?_) (a' := ?_) #[true, true, true, true, true, true, true, true, true, true, true, true, true, true, true, false, false, false, false, false, false, false, false, false, false, false, false, false, false, false, false, false, false, false, false, false, false, false, false, false] rfl rfl (by kernel_rfl) (fun _ _ _ h => h) (Or.inl ⟨by rfl, ?_⟩) ?_ ?_
    rotate_left
    · intro w'
      go_simp
      with_reducible rfl
    rotate_left
    · simp only [Act.put, List.setIfInBounds_toArray, List.set_cons_zero, List.set_cons_succ, i64_w, i32_w]
      rfl
    refine pure_ (i := 15) (N := some 101) (v := ?_) (a' := ?_) #[true, true, true, true, true, true, true, true, true, true, true, true, true, true, true, true, false, false, false, false, false, false, false, false, false, false, false, false, false, false, false, false, false, false, false, false, false, false, false, false] rfl rfl (by kernel_rfl) (fun _ _ _ h => h) (Or.inl ⟨by rfl, ?_⟩) ?_ ?_
    rotate_left
    · intro w'
      go_simp
      with_reducible rfl
    rotate_left
    · simp only [Act.put, List.setIfInBounds_toArray, List.set_cons_zero, List.set_cons_succ, i64_w, i32_w]
      rfl
    refine pure_ (i := 16) (N := some 102) (v := ?_) (a' := ?_) #[true, true, true, true, true, true, true, true, true, true, true, true, true, true, true, true, true, false, false, false, false, false, false, false, false, false, false, false, false, false, false, false, false, false, false, false, false, false, false, false] rfl rfl (by kernel_rfl) (fun _ _ _ h => h) (Or.inl ⟨by rfl, ?_⟩) ?_ ?_
    rotate_left
    · intro w'
      go_simp
      with_reducible rfl
    rotate_left
    · simp only [Act.put, List.setIfInBounds_toArray, List.set_cons_zero, List.set_cons_succ, i64_w, i32_w]
      rfl
    refine pure_ (i := 17) (N := some 103) (v := ?_) (a' := ?_) #[true, true, true, true, true, true, true, true, true, true, true, true, true, true, true, true, true, true, false, false, false, false, false, false, false, false, false, false, false, false, false, false, false, false, false, false, false, false, false, false] rfl rfl (by kernel_rfl) (fun _ _ _ h => h) (Or.inl ⟨by rfl, ?_⟩) ?_ ?_
    rotate_left
    · intro w'
      go_simp
      with_reducible rfl
    rotate_left
    · simp only [Act.put, List.setIfInBounds_toArray, List.set_cons_zero, List.set_cons_succ, i64_w, i32_w]
      rfl
    refine pure_ (i := 18) (N := some 104) (v := ?_) (a' := ?_) #[true, true, true, true, true, true, true, true, true, true, true, true, true, true, true, true, true, true, true, false, false, false, false, false, false, false, false, false, false, false, false, false, false, false, false, false, false, false, false, false] rfl rfl (by kernel_rfl) (fun _ _ _ h => h) (Or.inl ⟨by rfl, ?_⟩) ?_ ?_
    rotate_left
    · intro w'
      go_simp
      with_reducible rfl
    rotate_left
    · simp only [Act.put, List.setIfInBounds_toArray, List.set_cons_zero, List.set_cons_succ, i64_w, i32_w]
      rfl
    refine take_ (i := 19) (N := some 105) (v := ?_) (a' := ?_) #[true, true, true, true, true, true, true, true, true, true, true, true, true, true, true, true, true, true, true, true, false, false, false, false, false, false, false, false, false, false, false, false, false, false, false, false, false, false, false, false] rfl rfl (by kernel_rfl) (fun _ _ _ h => h) (Or.inl ⟨by rfl, ?_⟩) hHeld ?_ ?_
    rotate_left
    · rintro w' hHeld'
      have hHeld'' := hHeld'
      (try obtain ⟨r0_, r1_⟩ := hHeld')
      (try obtain ⟨r1_, r2_⟩ := r1_)
      (try obtain ⟨r2_, r3_⟩ := r2_)
      (try obtain ⟨r3_, r4_⟩ := r3_)
      (try obtain ⟨r4_, r5_⟩ := r4_)
      (try obtain ⟨r5_, r6_⟩ := r5_)
      (try obtain ⟨r6_, r7_⟩ := r6_)
      (try obtain ⟨r7_, r8_⟩ := r7_)
      (try obtain ⟨r8_, r9_⟩ := r8_)
      (try obtain ⟨r9_, r10_⟩ := r9_)
      (try obtain ⟨r10_, r11_⟩ := r10_)
      (try obtain ⟨r11_, r12_⟩ := r11_)
      (try obtain ⟨r12_, r13_⟩ := r12_)
      (try obtain ⟨r13_, r14_⟩ := r13_)
      (try obtain ⟨r14_, r15_⟩ := r14_)
      (try obtain ⟨r15_, r16_⟩ := r15_)
      (try obtain ⟨r16_, r17_⟩ := r16_)
      (try obtain ⟨r17_, r18_⟩ := r17_)
      (try obtain ⟨r18_, r19_⟩ := r18_)
      (try obtain ⟨r19_, r20_⟩ := r19_)
      (try obtain ⟨r20_, r21_⟩ := r20_)
      (try obtain ⟨r21_, r22_⟩ := r21_)
      (try obtain ⟨r7_, r8_⟩ := r7_)
      (try obtain ⟨r8_, r9_⟩ := r8_)
      go_simp
      with_reducible rfl
    rotate_left
    · simp only [Act.put, List.setIfInBounds_toArray, List.set_cons_zero, List.set_cons_succ, i64_w, i32_w]
      rfl
    refine pure_ (i := 21) (N := some 107) (v := ?_) (a' := ?_) #[true, true, true, true, true, true, true, true, true, true, true, true, true, true, true, true, true, true, true, true, false, true, false, false, false, false, false, false, false, false, false, false, false, false, false, false, false, false, false, false] rfl rfl (by kernel_rfl) (fun _ _ _ h => h) (Or.inl ⟨by rfl, ?_⟩) ?_ ?_
    rotate_left
    · intro w'
      go_simp
      with_reducible rfl
    rotate_left
    · simp only [Act.put, List.setIfInBounds_toArray, List.set_cons_zero, List.set_cons_succ, i64_w, i32_w]
      rfl
    refine one_ (i := 20) (N := some 106) #[true, true, true, true, true, true, true, true, true, true, true, true, true, true, true, true, true, true, true, true, true, true, false, false, false, false, false, false, false, false, false, false, false, false, false, false, false, false, false, false] rfl rfl (by kernel_rfl) (by decide) (fun K hSh => ?_)
    refine goes_ Try.func26 (by kernel_rfl) rfl #[.agg (revA v r lo hi al false (keysOf M) (valsOf M) (goneOf M) T A6 c6 A7 c7 A8 c8 A9 c9)] (by rfl) rfl rfl (by (try simp only [List.map_toArray, List.map_cons, List.map_nil]); rfl) ?_
    refine (live_go (LASTK.out _ hHeld).V HV.out).mono ?_
    rintro e V20 ⟨rfl, hb⟩
    refine ⟨_, rfl, hSh.out _ _ (SOF.out _ ((LASTK.out _ hHeld).below hb)) ?_⟩
    clear hHeld hb hSh
    intro hHeld
    refine norm_ (a' := ?_) ?_ ?_
    rotate_left
    · simp only [Act.put, List.setIfInBounds_toArray, List.set_cons_zero, List.set_cons_succ, i64_w, i32_w]
      rfl
    refine one_ (i := 22) (N := some 108) #[true, true, true, true, true, true, true, true, true, true, true, true, true, true, true, true, true, true, true, true, true, true, true, false, false, false, false, false, false, false, false, false, false, false, false, false, false, false, false, false] rfl rfl (by kernel_rfl) (by decide) (fun K hSh => ?_)
    refine goes_ Try.func27 (by kernel_rfl) rfl #[.slice A l.length c] (by rfl) rfl rfl (by (try simp only [List.map_toArray, List.map_cons, List.map_nil]); rfl) ?_
    refine (rlive_go (LASTK.out _ hHeld).L HC.out HRL.out).mono ?_
    rintro e V22 ⟨Bl, ql, rfl, hb⟩
    refine ⟨_, rfl, hSh.out _ _ (SOF.out _ ((LASTK.out _ hHeld).below hb)) ?_⟩
    rw [HLL.out]
    clear hHeld hb hSh
    intro hHeld
    refine norm_ (a' := ?_) ?_ ?_
    rotate_left
    · simp only [Act.put, List.setIfInBounds_toArray, List.set_cons_zero, List.set_cons_succ, i64_w, i32_w]
      rfl
    refine pure_ (i := 23) (N := some 109) (v := ?_) (a' := ?_) #[true, true, true, true, true, true, true, true, true, true, true, true, true, true, true, true, true, true, true, true, true, true, true, true, false, false, false, false, false, false, false, false, false, false, false, false, false, false, false, false] rfl rfl (by kernel_rfl) (fun _ _ _ h => h) (Or.inl ⟨by rfl, ?_⟩) ?_ ?_
    rotate_left
    · intro w'
      go_simp
      with_reducible rfl
    rotate_left
    · simp only [Act.put, List.setIfInBounds_toArray, List.set_cons_zero, List.set_cons_succ, i64_w, i32_w]
      rfl
    refine pure_ (i := 24) (N := some 110) (v := ?_) (a' := ?_) #[true, true, true, true, true, true, true, true, true, true, true, true, true, true, true, true, true, true, true, true, true, true, true, true, true, false, false, false, false, false, false, false, false, false, false, false, false, false, false, false] rfl rfl (by kernel_rfl) (fun _ _ _ h => h) (Or.inl ⟨by rfl, ?_⟩) ?_ ?_
    rotate_left
    · intro w'
      go_simp
      with_reducible rfl
    rotate_left
    · simp only [Act.put, List.setIfInBounds_toArray, List.set_cons_zero, List.set_cons_succ, i64_w, i32_w]
      rfl
    refine pure_ (i := 25) (N := some 111) (v := ?_) (a' := ?_) #[true, true, true, true, true, true, true, true, true, true, true, true, true, true, true, true, true, true, true, true, true, true, true, true, true, true, false, false, false, false, false, false, false, false, false, false, false, false, false, false] rfl rfl (by kernel_rfl) (fun _ _ _ h => h) (Or.inl ⟨by rfl, ?_⟩) ?_ ?_
    rotate_left
    · intro w'
      go_simp
      with_reducible rfl
    rotate_left
    · simp only [Act.put, List.setIfInBounds_toArray, List.set_cons_zero, List.set_cons_succ, i64_w, i32_w]
      rfl
    refine pure_ (i := 26) (N := some 112) (v := ?_) (a' := ?_) #[true, true, true, true, true, true, true, true, true, true, true, true, true, true, true, true, true, true, true, true, true, true, true, true, true, true, true, false, false, false, false, false, false, false, false, false, false, false, false, false] rfl rfl (by kernel_rfl) (fun _ _ _ h => h) (Or.inl ⟨by rfl, ?_⟩) ?_ ?_
    rotate_left
    · intro w'
      go_simp
      with_reducible rfl
    rotate_left
    · simp only [Act.put, List.setIfInBounds_toArray, List.set_cons_zero, List.set_cons_succ, i64_w, i32_w]
      rfl
    refine take_ (i := 27) (N := some 113) (v := ?_) (a' := ?_) #[true, true, true, true, true, true, true, true, true, true, true, true, true, true, true, true, true, true, true, true, true, true, true, true, true, true, true, true, false, false, false, false, false, false, false, false, false, false, false, false] rfl rfl (by kernel_rfl) (fun _ _ _ h => h) (Or.inl ⟨by rfl, ?_⟩) hHeld ?_ ?_
    rotate_left
    · rintro w' hHeld'
      have hHeld'' := hHeld'
      (try obtain ⟨r0_, r1_⟩ := hHeld')
      (try obtain ⟨r1_, r2_⟩ := r1_)
      (try obtain ⟨r2_, r3_⟩ := r2_)
      (try obtain ⟨r3_, r4_⟩ := r3_)
      (try obtain ⟨r4_, r5_⟩ := r4_)
      (try obtain ⟨r5_, r6_⟩ := r5_)
      (try obtain ⟨r6_, r7_⟩ := r6_)
      (try obtain ⟨r7_, r8_⟩ := r7_)
      (try obtain ⟨r8_, r9_⟩ := r8_)
      (try obtain ⟨r9_, r10_⟩ := r9_)
      (try obtain ⟨r10_, r11_⟩ := r10_)
      (try obtain ⟨r11_, r12_⟩ := r11_)
      (try obtain ⟨r12_, r13_⟩ := r12_)
      (try obtain ⟨r13_, r14_⟩ := r13_)
      (try obtain ⟨r14_, r15_⟩ := r14_)
      (try obtain ⟨r15_, r16_⟩ := r15_)
      (try obtain ⟨r16_, r17_⟩ := r16_)
      (try obtain ⟨r17_, r18_⟩ := r17_)
      (try obtain ⟨r18_, r19_⟩ := r18_)
      (try obtain ⟨r19_, r20_⟩ := r19_)
      (try obtain ⟨r20_, r21_⟩ := r20_)
      (try obtain ⟨r21_, r22_⟩ := r21_)
      (try obtain ⟨r7_, r8_⟩ := r7_)
      (try obtain ⟨r8_, r9_⟩ := r8_)
      go_simp
      with_reducible rfl
    rotate_left
    · simp only [Act.put, List.setIfInBounds_toArray, List.set_cons_zero, List.set_cons_succ, i64_w, i32_w]
      rfl
    refine take_ (i := 28) (N := some 114) (v := ?_) (a' := ?_) #[true, true, true, true, true, true, true, true, true, true, true, true, true, true, true, true, true, true, true, true, true, true, true, true, true, true, true, true, true, false, false, false, false, false, false, false, false, false, false, false] rfl rfl (by kernel_rfl) (fun _ _ _ h => h) (Or.inl ⟨by rfl, ?_⟩) hHeld ?_ ?_
    rotate_left
    · rintro w' hHeld'
      have hHeld'' := hHeld'
      (try obtain ⟨r0_, r1_⟩ := hHeld')
      (try obtain ⟨r1_, r2_⟩ := r1_)
      (try obtain ⟨r2_, r3_⟩ := r2_)
      (try obtain ⟨r3_, r4_⟩ := r3_)
      (try obtain ⟨r4_, r5_⟩ := r4_)
      (try obtain ⟨r5_, r6_⟩ := r5_)
      (try obtain ⟨r6_, r7_⟩ := r6_)
      (try obtain ⟨r7_, r8_⟩ := r7_)
      (try obtain ⟨r8_, r9_⟩ := r8_)
      (try obtain ⟨r9_, r10_⟩ := r9_)
      (try obtain ⟨r10_, r11_⟩ := r10_)
      (try obtain ⟨r11_, r12_⟩ := r11_)
      (try obtain ⟨r12_, r13_⟩ := r12_)
      (try obtain ⟨r13_, r14_⟩ := r13_)
      (try obtain ⟨r14_, r15_⟩ := r14_)
      (try obtain ⟨r15_, r16_⟩ := r15_)
      (try obtain ⟨r16_, r17_⟩ := r16_)
      (try obtain ⟨r17_, r18_⟩ := r17_)
      (try obtain ⟨r18_, r19_⟩ := r18_)
      (try obtain ⟨r19_, r20_⟩ := r19_)
      (try obtain ⟨r20_, r21_⟩ := r20_)
      (try obtain ⟨r21_, r22_⟩ := r21_)
      (try obtain ⟨r7_, r8_⟩ := r7_)
      (try obtain ⟨r8_, r9_⟩ := r8_)
      go_simp
      with_reducible rfl
    rotate_left
    · simp only [Act.put, List.setIfInBounds_toArray, List.set_cons_zero, List.set_cons_succ, i64_w, i32_w]
      rfl
    refine pure_ (i := 30) (N := some 116) (v := ?_) (a' := ?_) #[true, true, true, true, true, true, true, true, true, true, true, true, true, true, true, true, true, true, true, true, true, true, true, true, true, true, true, true, true, false, true, false, false, false, false, false, false, false, false, false] rfl rfl (by kernel_rfl) (fun _ _ _ h => h) (Or.inl ⟨by rfl, ?_⟩) ?_ ?_
    rotate_left
    · intro w'
      go_simp
      with_reducible rfl
    rotate_left
    · simp only [Act.put, List.setIfInBounds_toArray, List.set_cons_zero, List.set_cons_succ, i64_w, i32_w]
      rfl
    refine pure_ (i := 32) (N := some 118) (v := ?_) (a' := ?_) #[true, true, true, true, true, true, true, true, true, true, true, true, true, true, true, true, true, true, true, true, true, true, true, true, true, true, true, true, true, false, true, false, true, false, false, false, false, false, false, false] rfl rfl (by kernel_rfl) (fun _ _ _ h => h) (Or.inl ⟨by rfl, ?_⟩) ?_ ?_
    rotate_left
    · intro w'
      go_simp
      with_reducible rfl
    rotate_left
    · simp only [Act.put, List.setIfInBounds_toArray, List.set_cons_zero, List.set_cons_succ, i64_w, i32_w]
      rfl
    refine take_ (i := 33) (N := some 119) (v := ?_) (a' := ?_) #[true, true, true, true, true, true, true, true, true, true, true, true, true, true, true, true, true, true, true, true, true, true, true, true, true, true, true, true, true, false, true, false, true, true, false, false, false, false, false, false] rfl rfl (by kernel_rfl) (fun _ _ _ h => h) (Or.inl ⟨by rfl, ?_⟩) hHeld ?_ ?_
    rotate_left
    · rintro w' hHeld'
      have hHeld'' := hHeld'
      (try obtain ⟨r0_, r1_⟩ := hHeld')
      (try obtain ⟨r1_, r2_⟩ := r1_)
      (try obtain ⟨r2_, r3_⟩ := r2_)
      (try obtain ⟨r3_, r4_⟩ := r3_)
      (try obtain ⟨r4_, r5_⟩ := r4_)
      (try obtain ⟨r5_, r6_⟩ := r5_)
      (try obtain ⟨r6_, r7_⟩ := r6_)
      (try obtain ⟨r7_, r8_⟩ := r7_)
      (try obtain ⟨r8_, r9_⟩ := r8_)
      (try obtain ⟨r9_, r10_⟩ := r9_)
      (try obtain ⟨r10_, r11_⟩ := r10_)
      (try obtain ⟨r11_, r12_⟩ := r11_)
      (try obtain ⟨r12_, r13_⟩ := r12_)
      (try obtain ⟨r13_, r14_⟩ := r13_)
      (try obtain ⟨r14_, r15_⟩ := r14_)
      (try obtain ⟨r15_, r16_⟩ := r15_)
      (try obtain ⟨r16_, r17_⟩ := r16_)
      (try obtain ⟨r17_, r18_⟩ := r17_)
      (try obtain ⟨r18_, r19_⟩ := r18_)
      (try obtain ⟨r19_, r20_⟩ := r19_)
      (try obtain ⟨r20_, r21_⟩ := r20_)
      (try obtain ⟨r21_, r22_⟩ := r21_)
      (try obtain ⟨r7_, r8_⟩ := r7_)
      (try obtain ⟨r8_, r9_⟩ := r8_)
      go_simp
      with_reducible rfl
    rotate_left
    · simp only [Act.put, List.setIfInBounds_toArray, List.set_cons_zero, List.set_cons_succ, i64_w, i32_w]
      rfl
    refine pure_ (i := 34) (N := some 120) (v := ?_) (a' := ?_) #[true, true, true, true, true, true, true, true, true, true, true, true, true, true, true, true, true, true, true, true, true, true, true, true, true, true, true, true, true, false, true, false, true, true, true, false, false, false, false, false] rfl rfl (by kernel_rfl) (fun _ _ _ h => h) (Or.inl ⟨by rfl, ?_⟩) ?_ ?_
    rotate_left
    · intro w'
      go_simp
      with_reducible rfl
    rotate_left
    · simp only [Act.put, List.setIfInBounds_toArray, List.set_cons_zero, List.set_cons_succ, i64_w, i32_w]
      rfl
    refine one_ (i := 29) (N := some 115) #[true, true, true, true, true, true, true, true, true, true, true, true, true, true, true, true, true, true, true, true, true, true, true, true, true, true, true, true, true, true, true, false, true, true, true, false, false, false, false, false] rfl rfl (by kernel_rfl) (by decide) (fun K hSh => ?_)
    refine goes_ Try.func17 (by kernel_rfl) rfl #[.agg #[.string so, .string sh, .bool sa]] (by rfl) rfl rfl (by (try simp only [List.map_toArray, List.map_cons, List.map_nil]); rfl) ?_
    refine (of4_go so sh sa _).mono ?_
    rintro e V29 ⟨rfl, hb⟩
    refine ⟨_, rfl, hSh.out _ _ (SOF.out _ ((LASTK.out _ hHeld).below hb)) ?_⟩
    clear hHeld hb hSh
    intro hHeld
    refine norm_ (a' := ?_) ?_ ?_
    rotate_left
    · simp only [Act.put, List.setIfInBounds_toArray, List.set_cons_zero, List.set_cons_succ, i64_w, i32_w]
      rfl
    refine one_ (i := 31) (N := some 117) #[true, true, true, true, true, true, true, true, true, true, true, true, true, true, true, true, true, true, true, true, true, true, true, true, true, true, true, true, true, true, true, true, true, true, true, false, false, false, false, false] rfl rfl (by kernel_rfl) (by decide) (fun K hSh => ?_)
    refine goes_ Try.func29 (by kernel_rfl) rfl #[.agg (revA v r lo hi al false (keysOf M) (valsOf M) (goneOf M) T A6 c6 A7 c7 A8 c8 A9 c9), .agg #[.string so, .string sh, .bool sa], .int .i64 lim] (by rfl) rfl rfl (by (try simp only [List.map_toArray, List.map_cons, List.map_nil]); rfl) ?_
    refine (pairs_go (LASTK.out _ hHeld).V HP.out).mono ?_
    rintro e V31 ⟨B1, q1, rfl, hC1, hq1, hb⟩
    refine ⟨_, rfl, hSh.out _ _ (SOF.out _ ((LASTK.out _ hHeld).below hb)) ?_⟩
    clear hHeld hb hSh
    intro hHeld
    refine norm_ (a' := ?_) ?_ ?_
    rotate_left
    · simp only [Act.put, List.setIfInBounds_toArray, List.set_cons_zero, List.set_cons_succ, i64_w, i32_w]
      rfl
    refine one_ (i := 35) (N := some 121) #[true, true, true, true, true, true, true, true, true, true, true, true, true, true, true, true, true, true, true, true, true, true, true, true, true, true, true, true, true, true, true, true, true, true, true, true, false, false, false, false] rfl rfl (by kernel_rfl) (by decide) (fun K hSh => ?_)
    refine goes_ Try.func30 (by kernel_rfl) rfl #[.slice A l.length c, .agg #[.string so, .string sh, .bool sa], .int .i64 lim] (by rfl) rfl rfl (by (try simp only [List.map_toArray, List.map_cons, List.map_nil]); rfl) ?_
    refine (rpairs_go (LASTK.out _ hHeld).L HC.out HRP.out).mono ?_
    rintro e V35 ⟨B2, q2, rfl, hC2, hq2, hb⟩
    have hC1' := Kd.C_below hC1 hb
    refine ⟨_, rfl, hSh.out _ _ (SOF.out _ ((LASTK.out _ hHeld).below hb)) ?_⟩
    clear hHeld hb hSh hC1
    intro hHeld
    refine norm_ (a' := ?_) ?_ ?_
    rotate_left
    · simp only [Act.put, List.setIfInBounds_toArray, List.set_cons_zero, List.set_cons_succ, i64_w, i32_w]
      rfl
    refine one_ (i := 36) (N := some 122) #[true, true, true, true, true, true, true, true, true, true, true, true, true, true, true, true, true, true, true, true, true, true, true, true, true, true, true, true, true, true, true, true, true, true, true, true, true, false, false, false] rfl rfl (by kernel_rfl) (by decide) (fun K hSh => ?_)
    refine goes_ Try.func28 (by kernel_rfl) rfl #[.slice B1 Ap.length q1, .slice B2 Bp.length q2] (by rfl) rfl rfl (by (try simp only [List.map_toArray, List.map_cons, List.map_nil]); rfl) ?_
    refine (lpairs_go hC1' hq1 hC2 hq2 HLP.out).mono ?_
    rintro e V36 ⟨rfl, hb⟩
    refine ⟨_, rfl, hSh.out _ _ (SOF.out _ ((LASTK.out _ hHeld).below hb)) ?_⟩
    clear hHeld hb hSh
    intro hHeld
    refine norm_ (a' := ?_) ?_ ?_
    rotate_left
    · simp only [Act.put, List.setIfInBounds_toArray, List.set_cons_zero, List.set_cons_succ, i64_w, i32_w]
      rfl
    refine pure_ (i := 37) (N := some 123) (v := ?_) (a' := ?_) #[true, true, true, true, true, true, true, true, true, true, true, true, true, true, true, true, true, true, true, true, true, true, true, true, true, true, true, true, true, true, true, true, true, true, true, true, true, true, false, false] rfl rfl (by kernel_rfl) (fun _ _ _ h => h) (Or.inl ⟨by rfl, ?_⟩) ?_ ?_
    rotate_left
    · intro w'
      go_simp
      with_reducible rfl
    rotate_left
    · simp only [Act.put, List.setIfInBounds_toArray, List.set_cons_zero, List.set_cons_succ, i64_w, i32_w]
      rfl
    refine pure_ (i := 38) (N := some 124) (v := ?_) (a' := ?_) #[true, true, true, true, true, true, true, true, true, true, true, true, true, true, true, true, true, true, true, true, true, true, true, true, true, true, true, true, true, true, true, true, true, true, true, true, true, true, true, false] rfl rfl (by kernel_rfl) (fun _ _ _ h => h) (Or.inl ⟨by rfl, ?_⟩) ?_ ?_
    rotate_left
    · intro w'
      go_simp
      with_reducible rfl
    rotate_left
    · simp only [Act.put, List.setIfInBounds_toArray, List.set_cons_zero, List.set_cons_succ, i64_w, i32_w]
      rfl
    refine pure_ (i := 39) (N := some 14) (v := ?_) (a' := ?_) #[true, true, true, true, true, true, true, true, true, true, true, true, true, true, true, true, true, true, true, true, true, true, true, true, true, true, true, true, true, true, true, true, true, true, true, true, true, true, true, true] rfl rfl (by kernel_rfl) (fun _ _ _ h => h) (Or.inl ⟨by rfl, ?_⟩) ?_ ?_
    rotate_left
    · intro w'
      go_simp
      with_reducible rfl
    rotate_left
    · simp only [Act.put, List.setIfInBounds_toArray, List.set_cons_zero, List.set_cons_succ, i64_w, i32_w]
      rfl
    refine done_ (by kernel_rfl) ?_
    have FIN := Aside0.mk (LASTK.out _ hHeld).B
    clear hHeld
    go_wp2_with fail
    go_ret
    exact ⟨rfl, FIN.out⟩
  · obtain rfl : bm = false := Bool.eq_false_iff.2 fun e => hM (hbi.1 e)
    have HBM := Aside0.mk hbm
    clear hbm hbi hM
    go_wp2_with fail
    refine (new_go hM7 hq7 h1).mono ?_
    rintro e W8 ⟨A6, c6, A7, c7, A8, c8, A9, c9, rfl, hA8, hb8⟩
    have hR8 := Kd.C_below hR7 hb8
    have n1 := blk_below m1 hb8
    have n2 := blk_below m2 hb8
    have HB8 := Aside0.mk (below_then HB7.out HB7.out.size hb8)
    clear hb8 m1 m2 hR7 hM7 h1
    obtain ⟨RV, hRV⟩ : ∃ RV, RV = (#[.int .i64 0, .int .i64 0, .string ⟨#[]⟩, .string ⟨#[]⟩, .bool false, .bool false, .slice A6 0 c6, .slice A7 0 c7, .slice A8 0 c8, .slice A9 0 c9] : Array Value) := ⟨_, rfl⟩
    obtain ⟨Wa, hWa⟩ : ∃ Wa : World, Wa = W8.alloc (.cells (#[.int .i64 0, .int .i64 0, .string ⟨#[]⟩, .string ⟨#[]⟩, .bool false, .bool false, .slice A6 0 c6, .slice A7 0 c7, .slice A8 0 c8, .slice A9 0 c9] : Array Value) 37) := ⟨_, rfl⟩
    have hba : Below W8.heap.size W8 Wa := hWa ▸ below_alloc (Below.refl _ _) _
    have ka : Wa.heap[W8.heap.size]? = some (.cells RV 37 (0, 0)) := by rw [hRV, hWa]; exact blk_new _ _
    have hRa := Kd.C_below hR8 hba
    have hAa := hA8.below hba
    have o1 := blk_below n1 hba
    have o2 := blk_below n2 hba
    have HBa := Aside0.mk (below_then HB8.out HB8.out.size hba)
    have HWA := Aside0.mk hWa
    clear hba hWa hR8 hA8 n1 n2
    have HRV := Aside0.mk hRV
    clear hRV
    go_upto_region 4 with fail
    rw [← HWA.out]
    clear HWA
    obtain ⟨s0, s1, s2⟩ := box3_ o1
    go_wp2_with fail
    refine (made_go (v := v) (r := r) hRa HC.out HBM.out).mono ?_
    rintro e Wb ⟨rfl, hbb⟩
    have hRb := Kd.C_below hRa hbb
    have hAb := hAa.below hbb
    have kb := blk_below ka hbb
    have p2 := blk_below o2 hbb
    have HBb := Aside0.mk (below_then HBa.out HBa.out.size hbb)
    clear hbb hRa hAa ka o1 o2 s0 s1 s2
    simp only [Bool.false_eq_true, if_false]
    obtain ⟨Wc, hWc⟩ : ∃ Wc : World, Wc = Wb.alloc (.cells (refA 0 0 ⟨#[]⟩ ⟨#[]⟩ false false none 0 0) 29) := ⟨_, rfl⟩
    have hbc : Below Wb.heap.size Wb Wc := hWc ▸ below_alloc (Below.refl _ _) _
    have kc := blk_below kb hbc
    have hAc := hAb.below hbc
    have HBc := Aside0.mk (below_then HBb.out HBb.out.size hbc)
    have HWC := Aside0.mk hWc
    clear hbc hWc kb p2 hAb hRb
    go_upto_region 5 with fail
    rw [← HWC.out]
    clear HWC
    rw [HRV.out] at kc
    obtain ⟨x0, x1, x2, x3, x4, x5, x6, x7, x8, x9⟩ := box10_ kc
    clear kc
    have HSZ := Aside0.mk (same_go (L := []) (B := none) (cB := 0) (v2 := 0) (r2 := 0) (lo2 := ⟨#[]⟩) (hi2 := ⟨#[]⟩) (al2 := false) (de2 := false) (v := 0) (r := 0) (lo := ⟨#[]⟩) (hi := ⟨#[]⟩) (al := false) (de := false) hAc (Kd.C_nil k62 Wc) (Nat.le_refl _) same_zero)
    clear hAc
    go_wp2_with fail
    refine HSZ.out.mono ?_
    rintro e Wd ⟨rfl, hbd⟩
    have FIN := Aside0.mk (below_then HBc.out HBc.out.size hbd)
    clear hbd x0 x1 x2 x3 x4 x5 x6 x7 x8 x9 HSZ
    go_wp2_with fail
    go_ret
    exact ⟨rfl, FIN.out⟩
end Go.Proofs.Ytoaacdjcjicemaa.RvRevPlays
