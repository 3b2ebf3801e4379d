/- Chapter 8 by hand: calls whose answers are known, as what they come to; Split, Join. -/
import Derived.Test.YtoaacdjcjicemaaPureRevBackBase
namespace Go.Proofs.Ytoaacdjcjicemaa.RvRevBack
open Go.RowKit Go.Proofs.YtoaacdjcjicemaaW.PrintWords Go.Proofs.YtoaacdjcjicemaaW.PrintLast Go.Proofs.YtoaacdjcjicemaaW.PrintMore Go.Proofs.Ytoaacdjcjicemaa.PRevBack Go.Proofs.Ytoaacdjcjicemaa.Pure
set_option linter.unusedVariables false
set_option linter.unusedSimpArgs false
variable {W W1 : World}
theorem below_d {w w' : World} (h : Drawn0 w w') : Below w.heap.size w w' := by
  obtain ⟨m, rfl⟩ := h
  exact pw_below_drewN (Below.refl _ _) m
theorem box3_ {g : Nat} {t : TypeId} {v0 v1 v2 : Value} {w : World} (h : w.heap[g]? = some (.cells #[v0, v1, v2] t (0, 0))) : w.cell? ⟨g, 0, none⟩ = some v0 ∧ w.cell? ⟨g, 1, none⟩ = some v1 ∧ w.cell? ⟨g, 2, none⟩ = some v2 :=
  ⟨(blk_cell h 0).trans rfl, (blk_cell h 1).trans rfl, (blk_cell h 2).trans rfl⟩
theorem box10_ {g : Nat} {t : TypeId} {v0 v1 v2 v3 v4 v5 v6 v7 v8 v9 : Value} {w : World} (h : w.heap[g]? = some (.cells #[v0, v1, v2, v3, v4, v5, v6, v7, v8, v9] t (0, 0))) : w.cell? ⟨g, 0, none⟩ = some v0 ∧ w.cell? ⟨g, 1, none⟩ = some v1 ∧ w.cell? ⟨g, 2, none⟩ = some v2 ∧ w.cell? ⟨g, 3, none⟩ = some v3 ∧ w.cell? ⟨g, 4, none⟩ = some v4 ∧ w.cell? ⟨g, 5, none⟩ = some v5 ∧ w.cell? ⟨g, 6, none⟩ = some v6 ∧ w.cell? ⟨g, 7, none⟩ = some v7 ∧ w.cell? ⟨g, 8, none⟩ = some v8 ∧ w.cell? ⟨g, 9, none⟩ = some v9 :=
  ⟨(blk_cell h 0).trans rfl, (blk_cell h 1).trans rfl, (blk_cell h 2).trans rfl, (blk_cell h 3).trans rfl, (blk_cell h 4).trans rfl, (blk_cell h 5).trans rfl, (blk_cell h 6).trans rfl, (blk_cell h 7).trans rfl, (blk_cell h 8).trans rfl, (blk_cell h 9).trans rfl⟩
/-- A revision's rows. -/
structure RevAt (W : World) (ks vs : List ByteArray) (gs : List Bool) (T : List Int) (A6 : Option Addr) (c6 : Nat) (A7 : Option Addr) (c7 : Nat) (A8 : Option Addr) (c8 : Nat) (A9 : Option Addr) (c9 : Nat) : Prop where
  k : Kd.C Kd.string W A6 ks.length ks
  kc : ks.length ≤ c6
  v : Kd.C Kd.string W A7 vs.length vs
  vc : vs.length ≤ c7
  g : Kd.C Kd.bool W A8 gs.length gs
  gc : gs.length ≤ c8
  t : Kd.C (Kd.int .i64) W A9 T.length T
  tc : T.length ≤ c9
theorem RevAt.below {ks vs : List ByteArray} {gs : List Bool} {T : List Int} {A6 A7 A8 A9 : Option Addr} {c6 c7 c8 c9 : Nat} (h : RevAt W ks vs gs T A6 c6 A7 c7 A8 c8 A9 c9) (hb : Below W.heap.size W W1) : RevAt W1 ks vs gs T A6 c6 A7 c7 A8 c8 A9 c9 := ⟨Kd.C_below h.k hb, h.kc, Kd.C_below h.v hb, h.vc, Kd.C_below h.g hb, h.gc, Kd.C_below h.t hb, h.tc⟩
abbrev revA (v r : Int) (lo hi : ByteArray) (al de : Bool) (ks vs : List ByteArray) (gs : List Bool) (T : List Int) (A6 : Option Addr) (c6 : Nat) (A7 : Option Addr) (c7 : Nat) (A8 : Option Addr) (c8 : Nat) (A9 : Option Addr) (c9 : Nat) : Array Value := #[.int .i64 v, .int .i64 r, .string lo, .string hi, .bool al, .bool de, .slice A6 ks.length c6, .slice A7 vs.length c7, .slice A8 gs.length c8, .slice A9 T.length c9]
theorem few_go {A : Option Addr} {c : Nat} {l : List S62} {r : Int} (hR : Kd.C k62 W A l.length l) (hc : l.length ≤ c) (h : Ev (fun n => rundlelaw08_Few.f n l) r) : Calls Try.prog 13 #[.slice A l.length c] W fun e w' => e = .returned (.int .i64 r) ∧ Below W.heap.size W w' := by
  obtain ⟨k, hk⟩ := Ev.rounds h
  refine (rundlelaw08_Few.calls k A c l r W hR hc hk).mono ?_
  rintro e w' ⟨rfl, hd⟩
  exact ⟨rfl, below_d hd⟩
theorem new_go {A : Option Addr} {c : Nat} {l : List S114} {v r : Int} {lo hi : ByteArray} {al : Bool} {v2 r2 : Int} {lo2 hi2 : ByteArray} {al2 de2 : Bool} {ks vs : List ByteArray} {gs : List Bool} {T : List Int} {e2 : Int} (hR : Kd.C k114 W A l.length l) (hc : l.length ≤ c) (h : Ev (fun n => rev_New.f n v r lo hi al l) (v2, r2, lo2, hi2, al2, de2, ks, vs, gs, T, e2)) :
    Calls Try.prog 16 #[.int .i64 v, .int .i64 r, .agg #[.string lo, .string hi, .bool al], .slice A l.length c] W fun e w' => ∃ A6 c6 A7 c7 A8 c8 A9 c9, e = .returned (.tuple #[.agg (revA v2 r2 lo2 hi2 al2 de2 ks vs gs T A6 c6 A7 c7 A8 c8 A9 c9), .int .i64 e2]) ∧ RevAt w' ks vs gs T A6 c6 A7 c7 A8 c8 A9 c9 ∧ Below W.heap.size W w' := by
  obtain ⟨k, hk⟩ := Ev.rounds h
  refine (rev_New.calls k v r lo hi al A c l v2 r2 lo2 hi2 al2 de2 ks vs gs T e2 W hR hc hk).mono ?_
  rintro e w' ⟨v6, v7, v8, v9, rfl, h6, h7, h8, h9, hb⟩
  obtain ⟨A6, c6, rfl, q6, k6⟩ := Kd.R_reads h6
  obtain ⟨A7, c7, rfl, q7, k7⟩ := Kd.R_reads h7
  obtain ⟨A8, c8, rfl, q8, k8⟩ := Kd.R_reads h8
  obtain ⟨A9, c9, rfl, q9, k9⟩ := Kd.R_reads h9
  exact ⟨A6, c6, A7, c7, A8, c8, A9, c9, rfl, ⟨k6, q6, k7, q7, k8, q8, k9, q9⟩, hb⟩
section
variable {v r : Int} {lo hi : ByteArray} {al de : Bool} {ks vs : List ByteArray} {gs : List Bool} {T : List Int} {A6 A7 A8 A9 : Option Addr} {c6 c7 c8 c9 : Nat}
theorem get_go {k : ByteArray} {p : ByteArray × Bool} (hA : RevAt W ks vs gs T A6 c6 A7 c7 A8 c8 A9 c9) (h : Ev (fun n => rev_Get.f n v r lo hi al de ks vs gs T k) p) : Calls Try.prog 24 #[.agg (revA v r lo hi al de ks vs gs T A6 c6 A7 c7 A8 c8 A9 c9), .string k] W fun e w' => e = .returned (.tuple #[.string p.1, .bool p.2]) ∧ Below W.heap.size W w' := by
  obtain ⟨n, hk⟩ := Ev.rounds h
  exact rev_Get.calls n v r lo hi al de A6 c6 ks A7 c7 vs A8 c8 gs A9 c9 T k p.1 p.2 W hA.k hA.kc hA.v hA.vc hA.g hA.gc hA.t hA.tc hk
theorem live_go {x : Int} (hA : RevAt W ks vs gs T A6 c6 A7 c7 A8 c8 A9 c9) (h : Ev (fun n => rev_Live.f n v r lo hi al de ks vs gs T) x) : Calls Try.prog 26 #[.agg (revA v r lo hi al de ks vs gs T A6 c6 A7 c7 A8 c8 A9 c9)] W fun e w' => e = .returned (.int .i64 x) ∧ Below W.heap.size W w' := by
  obtain ⟨n, hk⟩ := Ev.rounds h
  exact rev_Live.calls n v r lo hi al de A6 c6 ks A7 c7 vs A8 c8 gs A9 c9 T x W hA.k hA.kc hA.v hA.vc hA.g hA.gc hA.t hA.tc hk
end
theorem row1 {w : World} {g : Nat} {x : S114} (h : w.heap[g]? = some (.cells #[.string x.f0, .string x.f1, .bool x.f2] 114 (0, 0))) : Kd.C k114 w (some ⟨g, 0, none⟩) [x].length [x] := ⟨rfl, by simp, fun _ => ⟨_, rfl, fun j p hj => by
  match j, hj with
  | 0, hj =>
    obtain rfl : x = p := by simpa using hj
    refine ⟨[.string x.f0, .string x.f1, .bool x.f2], rfl, k114_mk _ _, fun i u hu => ?_⟩
    rw [Addr.add_lit]
    match i, hu with
    | 0, hu => obtain rfl := Option.some.inj hu; exact (blk_cell h 0).trans rfl
    | 1, hu => obtain rfl := Option.some.inj hu; exact (blk_cell h 1).trans rfl
    | 2, hu => obtain rfl := Option.some.inj hu; exact (blk_cell h 2).trans rfl
  | n + 1, hj => simp at hj⟩⟩
theorem row2 {w : World} {g : Nat} {x y : S114} (h : w.heap[g]? = some (.cells #[.string x.f0, .string x.f1, .bool x.f2, .string y.f0, .string y.f1, .bool y.f2] 114 (0, 0))) : Kd.C k114 w (some ⟨g, 0, none⟩) [x, y].length [x, y] := ⟨rfl, by simp, fun _ => ⟨_, rfl, fun j p hj => by
  match j, hj with
  | 0, hj =>
    obtain rfl : x = p := by simpa using hj
    refine ⟨[.string x.f0, .string x.f1, .bool x.f2], rfl, k114_mk _ _, fun i u hu => ?_⟩
    rw [Addr.add_lit]
    match i, hu with
    | 0, hu => obtain rfl := Option.some.inj hu; exact (blk_cell h 0).trans rfl
    | 1, hu => obtain rfl := Option.some.inj hu; exact (blk_cell h 1).trans rfl
    | 2, hu => obtain rfl := Option.some.inj hu; exact (blk_cell h 2).trans rfl
  | 1, hj =>
    obtain rfl : y = p := by simpa using hj
    refine ⟨[.string y.f0, .string y.f1, .bool y.f2], rfl, k114_mk _ _, fun i u hu => ?_⟩
    rw [Addr.add_lit]
    match i, hu with
    | 0, hu => obtain rfl := Option.some.inj hu; exact (blk_cell h 3).trans rfl
    | 1, hu => obtain rfl := Option.some.inj hu; exact (blk_cell h 4).trans rfl
    | 2, hu => obtain rfl := Option.some.inj hu; exact (blk_cell h 5).trans rfl
  | n + 2, hj => simp at hj⟩⟩
theorem apply_go {v r : Int} {lo hi : ByteArray} {al de : Bool} {ks vs : List ByteArray} {gs : List Bool} {T : List Int} {A6 A7 A8 A9 : Option Addr} {c6 c7 c8 c9 : Nat} {nx : Int} {B : Option Addr} {q : Nat} {m : List S114} {v2 r2 : Int} {lo2 hi2 : ByteArray} {al2 de2 : Bool} {ks2 vs2 : List ByteArray} {gs2 : List Bool} {T2 : List Int} {e2 : Int} (hA : RevAt W ks vs gs T A6 c6 A7 c7 A8 c8 A9 c9) (hR : Kd.C k114 W B m.length m) (hc : m.length ≤ q) (h : Ev (fun n => rev_Apply.f n v r lo hi al de ks vs gs T nx m) (v2, r2, lo2, hi2, al2, de2, ks2, vs2, gs2, T2, e2)) :
    Calls Try.prog 19 #[.agg (revA v r lo hi al de ks vs gs T A6 c6 A7 c7 A8 c8 A9 c9), .int .i64 nx, .slice B m.length q] W fun e w' => ∃ A6 c6 A7 c7 A8 c8 A9 c9, e = .returned (.tuple #[.agg (revA v2 r2 lo2 hi2 al2 de2 ks2 vs2 gs2 T2 A6 c6 A7 c7 A8 c8 A9 c9), .int .i64 e2]) ∧ RevAt w' ks2 vs2 gs2 T2 A6 c6 A7 c7 A8 c8 A9 c9 ∧ Below W.heap.size W w' := by
  obtain ⟨k, hk⟩ := Ev.rounds h
  refine (rev_Apply.calls k v r lo hi al de A6 c6 ks A7 c7 vs A8 c8 gs A9 c9 T nx B q m v2 r2 lo2 hi2 al2 de2 ks2 vs2 gs2 T2 e2 W hA.k hA.kc hA.v hA.vc hA.g hA.gc hA.t hA.tc hR hc hk).mono ?_
  rintro e w' ⟨v6, v7, v8, v9, rfl, h6, h7, h8, h9, hb⟩
  obtain ⟨A6, c6, rfl, q6, k6⟩ := Kd.R_reads h6
  obtain ⟨A7, c7, rfl, q7, k7⟩ := Kd.R_reads h7
  obtain ⟨A8, c8, rfl, q8, k8⟩ := Kd.R_reads h8
  obtain ⟨A9, c9, rfl, q9, k9⟩ := Kd.R_reads h9
  exact ⟨A6, c6, A7, c7, A8, c8, A9, c9, rfl, ⟨k6, q6, k7, q7, k8, q8, k9, q9⟩, hb⟩
set_option maxHeartbeats 3200000 in
set_option maxRecDepth 100000 in
theorem awake_go (w : World) : Calls Try.prog 12 #[] w fun e w' => e = .returned (.bool true) ∧ Below w.heap.size w w' := by
  obtain ⟨M1, M2, T, T2, v2, r2, n1, a1, g1, g2, l1, d1, d2, hM1, hM2⟩ := awake_facts
  have N1 := Aside0.mk n1
  have A1 := Aside0.mk a1
  have G1 := Aside0.mk g1
  have G2 := Aside0.mk g2
  have L1 := Aside0.mk l1
  clear n1 a1 g1 g2 l1
  go_enter Try.func12, Try.ntmps12
  go_wp2_with fail
  refine (key_Whole.calls ⟨#[]⟩ ⟨#[]⟩ true w rfl).mono ?_
  rintro e W1 ⟨rfl, hb1⟩
  obtain ⟨W2, hW2⟩ : ∃ W2 : World, W2 = W1.alloc (.cells #[.string ⟨#[98]⟩, .string ⟨#[50]⟩, .bool false] 114) := ⟨_, rfl⟩
  have hb2 : Below W1.heap.size W1 W2 := hW2 ▸ below_alloc (Below.refl _ _) _
  have hr2 : Kd.C k114 W2 (some ⟨W1.heap.size, 0, none⟩) M1.length M1 := hM1 ▸ row1 (x := ⟨⟨#[98]⟩, ⟨#[50]⟩, false⟩) (hW2 ▸ blk_new _ _)
  have HB2 := Aside0.mk (below_then hb1 hb1.size hb2)
  have HW2 := Aside0.mk hW2
  have hq1 : M1.length ≤ 1 := by rw [hM1]; simp
  have hz1 : M1.length = 1 := by rw [hM1]; rfl
  have HN := Aside0.mk (hz1 ▸ new_go hr2 hq1 N1.out)
  clear hb1 hb2 hW2 hr2
  go_wp2_with fail
  rw [← HW2.out]
  clear HW2
  refine HN.out.mono ?_
  rintro e W3 ⟨A6, c6, A7, c7, A8, c8, A9, c9, rfl, hA3, hb3⟩
  obtain ⟨W4, hW4⟩ : ∃ W4 : World, W4 = W3.alloc (.cells (#[.int .i64 1, .int .i64 0, .string ⟨#[]⟩, .string ⟨#[]⟩, .bool true, .bool false, .slice A6 (keysOf M1).length c6, .slice A7 (valsOf M1).length c7, .slice A8 (goneOf M1).length c8, .slice A9 T.length c9] : Array Value) 37) := ⟨_, rfl⟩
  have hb4 : Below W3.heap.size W3 W4 := hW4 ▸ below_alloc (Below.refl _ _) _
  have k4 : W4.heap[W3.heap.size]? = some (.cells (#[.int .i64 1, .int .i64 0, .string ⟨#[]⟩, .string ⟨#[]⟩, .bool true, .bool false, .slice A6 (keysOf M1).length c6, .slice A7 (valsOf M1).length c7, .slice A8 (goneOf M1).length c8, .slice A9 T.length c9] : Array Value) 37 (0, 0)) := hW4 ▸ blk_new _ _
  obtain ⟨W5, hW5⟩ : ∃ W5 : World, W5 = W4.alloc (.cells #[.string ⟨#[97]⟩, .string ⟨#[49]⟩, .bool false, .string ⟨#[98]⟩, .string ⟨#[]⟩, .bool true] 114) := ⟨_, rfl⟩
  have hb5 : Below W4.heap.size W4 W5 := hW5 ▸ below_alloc (Below.refl _ _) _
  have hr5 : Kd.C k114 W5 (some ⟨W4.heap.size, 0, none⟩) M2.length M2 := hM2 ▸ row2 (x := ⟨⟨#[97]⟩, ⟨#[49]⟩, false⟩) (y := ⟨⟨#[98]⟩, ⟨#[]⟩, true⟩) (hW5 ▸ blk_new _ _)
  have hq2 : M2.length ≤ 2 := by rw [hM2]; simp
  have hz2 : M2.length = 2 := by rw [hM2]; rfl
  have HAP := Aside0.mk (hz2 ▸ apply_go ((hA3.below hb4).below hb5) hr5 hq2 A1.out)
  have HB5 := Aside0.mk (below_then (below_then (below_then HB2.out HB2.out.size hb3) (Nat.le_trans HB2.out.size hb3.size) hb4) (Nat.le_trans (Nat.le_trans HB2.out.size hb3.size) hb4.size) hb5)
  obtain ⟨x0, x1, x2, x3, x4, x5, x6, x7, x8, x9⟩ := box10_ k4
  have HW4 := Aside0.mk hW4
  have HW5 := Aside0.mk hW5
  clear hW4 hW5 hb3 hb4 hb5 hr5 hA3 k4 hM1 hM2 hq1 hz1 hq2 hz2 HN
  go_upto_region 2 with fail
  rw [← HW4.out]
  clear HW4
  go_wp2_with fail
  rw [← HW5.out]
  clear HW5
  refine HAP.out.mono ?_
  rintro e W6 ⟨B6, d6, B7, d7, B8, d8, B9, d9, rfl, hA6, hb6⟩
  obtain ⟨W7, hW7⟩ : ∃ W7 : World, W7 = W6.alloc (.cells (#[.int .i64 v2, .int .i64 r2, .string ⟨#[]⟩, .string ⟨#[]⟩, .bool true, .bool false, .slice B6 (keysOf M2).length d6, .slice B7 (valsOf M2).length d7, .slice B8 (goneOf M2).length d8, .slice B9 T2.length d9] : Array Value) 37) := ⟨_, rfl⟩
  have hb7 : Below W6.heap.size W6 W7 := hW7 ▸ below_alloc (Below.refl _ _) _
  have k7 : W7.heap[W6.heap.size]? = some (.cells (#[.int .i64 v2, .int .i64 r2, .string ⟨#[]⟩, .string ⟨#[]⟩, .bool true, .bool false, .slice B6 (keysOf M2).length d6, .slice B7 (valsOf M2).length d7, .slice B8 (goneOf M2).length d8, .slice B9 T2.length d9] : Array Value) 37 (0, 0)) := hW7 ▸ blk_new _ _
  have hA7 := hA6.below hb7
  have HB7 := Aside0.mk (below_then (below_then HB5.out HB5.out.size hb6) (Nat.le_trans HB5.out.size hb6.size) hb7)
  have HW7 := Aside0.mk hW7
  clear x0 x1 x2 x3 x4 x5 x6 x7 x8 x9 hW7 hb6 hb7 hA6 HAP
  go_upto_region 3 with fail
  rw [← HW7.out]
  clear HW7
  obtain ⟨x0, x1, x2, x3, x4, x5, x6, x7, x8, x9⟩ := box10_ k7
  go_wp2_with fail
  refine (get_go hA7 G1.out).mono ?_
  rintro e W8 ⟨rfl, hb8⟩
  have hA8 := hA7.below hb8
  have k8 := blk_below k7 hb8
  have HB8 := Aside0.mk (below_then HB7.out HB7.out.size hb8)
  clear x0 x1 x2 x3 x4 x5 x6 x7 x8 x9 hb8 hA7 k7
  obtain ⟨x0, x1, x2, x3, x4, x5, x6, x7, x8, x9⟩ := box10_ k8
  go_wp2_with fail
  refine (get_go hA8 G2.out).mono ?_
  rintro e W9 ⟨rfl, hb9⟩
  have hA9 := hA8.below hb9
  have k9 := blk_below k8 hb9
  have HB9 := Aside0.mk (below_then HB8.out HB8.out.size hb9)
  clear x0 x1 x2 x3 x4 x5 x6 x7 x8 x9 hb9 hA8 k8
  obtain ⟨x0, x1, x2, x3, x4, x5, x6, x7, x8, x9⟩ := box10_ k9
  simp only
  go_wp2_with fail
  refine (live_go hA9 L1.out).mono ?_
  rintro e Wa ⟨rfl, hba⟩
  have FIN := Aside0.mk (below_then HB9.out HB9.out.size hba)
  clear x0 x1 x2 x3 x4 x5 x6 x7 x8 x9 hba hA9 k9
  go_wp2_with fail
  go_ret
  exact ⟨rfl, FIN.out⟩
theorem of_go {A : Option Addr} {c : Nat} {l : List S62} {m : List S114} (hR : Kd.C k62 W A l.length l) (hc : l.length ≤ c) (h : Ev (fun n => rundlelaw08_Of.f n l) m) : Calls Try.prog 18 #[.slice A l.length c] W fun e w' => ∃ B q, e = .returned (.slice B m.length q) ∧ Kd.C k114 w' B m.length m ∧ m.length ≤ q ∧ Below W.heap.size W w' := by
  obtain ⟨n, hk⟩ := Ev.rounds h
  refine (rundlelaw08_Of.calls n A c l m W hR hc hk).mono ?_
  rintro e w' ⟨v, rfl, h6, hb⟩
  obtain ⟨B, q, rfl, q6, k6⟩ := Kd.R_reads h6
  exact ⟨B, q, rfl, k6, q6, hb⟩
theorem short_go (lo hi : ByteArray) (al : Bool) (W : World) : Calls Try.prog 14 #[.agg #[.string lo, .string hi, .bool al]] W fun e w' => e = .returned (.bool (decide ((lo.size : Int) ≤ 40) && decide ((hi.size : Int) ≤ 40))) ∧ Below W.heap.size W w' := by
  refine rundlelaw08_short.calls lo hi al _ W ?_
  unfold rundlelaw08_short.f
  by_cases c : (lo.size : Int) ≤ 40
  · rw [if_pos c, decide_eq_true c]; rfl
  · rw [if_neg c, decide_eq_false c]; rfl
theorem of4_go (lo hi : ByteArray) (al : Bool) (W : World) : Calls Try.prog 17 #[.agg #[.string lo, .string hi, .bool al]] W fun e w' => e = .returned (.agg #[.string lo, .string hi, .bool al]) ∧ Below W.heap.size W w' := rundlelaw04_Of.calls lo hi al lo hi al W rfl
section
variable {v r : Int} {lo hi : ByteArray} {al de : Bool} {ks vs : List ByteArray} {gs : List Bool} {T : List Int} {A6 A7 A8 A9 : Option Addr} {c6 c7 c8 c9 : Nat}
theorem split_go {v2 r2 v3 r3 : Int} {lo2 hi2 lo3 hi3 : ByteArray} {al2 de2 al3 de3 ok : Bool} {ks2 vs2 ks3 vs3 : List ByteArray} {gs2 gs3 : List Bool} {T2 T3 : List Int} (hA : RevAt W ks vs gs T A6 c6 A7 c7 A8 c8 A9 c9) (h : Ev (fun n => rev_Split.f n v r lo hi al de ks vs gs T) (v2, r2, lo2, hi2, al2, de2, ks2, vs2, gs2, T2, v3, r3, lo3, hi3, al3, de3, ks3, vs3, gs3, T3, ok)) :
    Calls Try.prog 48 #[.agg (revA v r lo hi al de ks vs gs T A6 c6 A7 c7 A8 c8 A9 c9)] W fun e w' => ∃ A6 c6 A7 c7 A8 c8 A9 c9 B6 d6 B7 d7 B8 d8 B9 d9, e = .returned (.tuple #[.agg (revA v2 r2 lo2 hi2 al2 de2 ks2 vs2 gs2 T2 A6 c6 A7 c7 A8 c8 A9 c9), .agg (revA v3 r3 lo3 hi3 al3 de3 ks3 vs3 gs3 T3 B6 d6 B7 d7 B8 d8 B9 d9), .bool ok]) ∧ RevAt w' ks2 vs2 gs2 T2 A6 c6 A7 c7 A8 c8 A9 c9 ∧ RevAt w' ks3 vs3 gs3 T3 B6 d6 B7 d7 B8 d8 B9 d9 ∧ Below W.heap.size W w' := by
  obtain ⟨k, hk⟩ := Ev.rounds h
  refine (rev_Split.calls k v r lo hi al de A6 c6 ks A7 c7 vs A8 c8 gs A9 c9 T v2 r2 lo2 hi2 al2 de2 ks2 vs2 gs2 T2 v3 r3 lo3 hi3 al3 de3 ks3 vs3 gs3 T3 ok W hA.k hA.kc hA.v hA.vc hA.g hA.gc hA.t hA.tc hk).mono ?_
  rintro e w' ⟨v6, v7, v8, v9, u6, u7, u8, u9, rfl, h6, h7, h8, h9, g6, g7, g8, g9, hb⟩
  obtain ⟨A6, c6, rfl, q6, k6⟩ := Kd.R_reads h6
  obtain ⟨A7, c7, rfl, q7, k7⟩ := Kd.R_reads h7
  obtain ⟨A8, c8, rfl, q8, k8⟩ := Kd.R_reads h8
  obtain ⟨A9, c9, rfl, q9, k9⟩ := Kd.R_reads h9
  obtain ⟨B6, d6, rfl, p6, l6⟩ := Kd.R_reads g6
  obtain ⟨B7, d7, rfl, p7, l7⟩ := Kd.R_reads g7
  obtain ⟨B8, d8, rfl, p8, l8⟩ := Kd.R_reads g8
  obtain ⟨B9, d9, rfl, p9, l9⟩ := Kd.R_reads g9
  exact ⟨A6, c6, A7, c7, A8, c8, A9, c9, B6, d6, B7, d7, B8, d8, B9, d9, rfl, ⟨k6, q6, k7, q7, k8, q8, k9, q9⟩, ⟨l6, p6, l7, p7, l8, p8, l9, p9⟩, hb⟩
theorem join_go {v1 r1 : Int} {lo1 hi1 : ByteArray} {al1 de1 : Bool} {ks1 vs1 : List ByteArray} {gs1 : List Bool} {T1 : List Int} {B6 B7 B8 B9 : Option Addr} {d6 d7 d8 d9 : Nat} {v2 r2 : Int} {lo2 hi2 : ByteArray} {al2 de2 ok : Bool} {ks2 vs2 : List ByteArray} {gs2 : List Bool} {T2 : List Int} (hA : RevAt W ks vs gs T A6 c6 A7 c7 A8 c8 A9 c9) (hB : RevAt W ks1 vs1 gs1 T1 B6 d6 B7 d7 B8 d8 B9 d9) (h : Ev (fun n => rev_Join.f n v r lo hi al de ks vs gs T v1 r1 lo1 hi1 al1 de1 ks1 vs1 gs1 T1) (v2, r2, lo2, hi2, al2, de2, ks2, vs2, gs2, T2, ok)) :
    Calls Try.prog 49 #[.agg (revA v r lo hi al de ks vs gs T A6 c6 A7 c7 A8 c8 A9 c9), .agg (revA v1 r1 lo1 hi1 al1 de1 ks1 vs1 gs1 T1 B6 d6 B7 d7 B8 d8 B9 d9)] W fun e w' => ∃ A6 c6 A7 c7 A8 c8 A9 c9, e = .returned (.tuple #[.agg (revA v2 r2 lo2 hi2 al2 de2 ks2 vs2 gs2 T2 A6 c6 A7 c7 A8 c8 A9 c9), .bool ok]) ∧ RevAt w' ks2 vs2 gs2 T2 A6 c6 A7 c7 A8 c8 A9 c9 ∧ Below W.heap.size W w' := by
  obtain ⟨k, hk⟩ := Ev.rounds h
  refine (rev_Join.calls k v r lo hi al de A6 c6 ks A7 c7 vs A8 c8 gs A9 c9 T v1 r1 lo1 hi1 al1 de1 B6 d6 ks1 B7 d7 vs1 B8 d8 gs1 B9 d9 T1 v2 r2 lo2 hi2 al2 de2 ks2 vs2 gs2 T2 ok W hA.k hA.kc hA.v hA.vc hA.g hA.gc hA.t hA.tc hB.k hB.kc hB.v hB.vc hB.g hB.gc hB.t hB.tc hk).mono ?_
  rintro e w' ⟨v6, v7, v8, v9, rfl, h6, h7, h8, h9, hb⟩
  obtain ⟨A6, c6, rfl, q6, k6⟩ := Kd.R_reads h6
  obtain ⟨A7, c7, rfl, q7, k7⟩ := Kd.R_reads h7
  obtain ⟨A8, c8, rfl, q8, k8⟩ := Kd.R_reads h8
  obtain ⟨A9, c9, rfl, q9, k9⟩ := Kd.R_reads h9
  exact ⟨A6, c6, A7, c7, A8, c8, A9, c9, rfl, ⟨k6, q6, k7, q7, k8, q8, k9, q9⟩, hb⟩
end
end Go.Proofs.Ytoaacdjcjicemaa.RvRevBack
