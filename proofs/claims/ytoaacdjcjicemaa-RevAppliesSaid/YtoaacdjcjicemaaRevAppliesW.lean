/- RevApplies, by hand: what any changes make of any revision, or that they may not be, is the document's; the revision stays as it was. -/
import Derived.Test.YtoaacdjcjicemaaRvRevApplies
import Derived.Test.YtoaacdjcjicemaaPRevAppliesx13
import Derived.Test.YtoaacdjcjicemaaPRevAppliesx14
namespace Go.Proofs.Ytoaacdjcjicemaa.RvRevApplies
open Go.RowKit Go.Proofs.YtoaacdjcjicemaaW.PrintWords Go.Proofs.YtoaacdjcjicemaaW.PrintLast Go.Proofs.YtoaacdjcjicemaaW.PrintMore Go.Proofs.Ytoaacdjcjicemaa.PRevApplies Go.Proofs.Ytoaacdjcjicemaa.Pure
set_option linter.unusedVariables false
set_option linter.unusedSimpArgs false
variable {W W1 : World}
theorem froz_all {g : Nat} {t : TypeId} {cs : Array Value} {w : World} (h : w.heap[g]? = some (.cells cs t (0, 0))) : w.frozen? ⟨g, 0, none⟩ = false ∧ w.frozen? ⟨g, 1, none⟩ = false ∧ w.frozen? ⟨g, 2, none⟩ = false ∧ w.frozen? ⟨g, 3, none⟩ = false ∧ w.frozen? ⟨g, 4, none⟩ = false ∧ w.frozen? ⟨g, 5, none⟩ = false ∧ w.frozen? ⟨g, 6, none⟩ = false ∧ w.frozen? ⟨g, 7, none⟩ = false ∧ w.frozen? ⟨g, 8, none⟩ = false ∧ w.frozen? ⟨g, 9, none⟩ = false :=
  ⟨blk_frozen h 0, blk_frozen h 1, blk_frozen h 2, blk_frozen h 3, blk_frozen h 4, blk_frozen h 5, blk_frozen h 6, blk_frozen h 7, blk_frozen h 8, blk_frozen h 9⟩
abbrev set10_ (w : World) (b : Nat) (v0 v1 v2 v3 v4 v5 v6 v7 v8 v9 : Value) : World := ((((((((((w.setCell ⟨b, 0, none⟩ v0).setCell ⟨b, 1, none⟩ v1).setCell ⟨b, 2, none⟩ v2).setCell ⟨b, 3, none⟩ v3).setCell ⟨b, 4, none⟩ v4).setCell ⟨b, 5, none⟩ v5).setCell ⟨b, 6, none⟩ v6).setCell ⟨b, 7, none⟩ v7).setCell ⟨b, 8, none⟩ v8).setCell ⟨b, 9, none⟩ v9)
theorem blk10_ {b : Nat} {t : TypeId} {w : World} {u0 u1 u2 u3 u4 u5 u6 u7 u8 u9 : Value} (h : w.heap[b]? = some (.cells #[u0, u1, u2, u3, u4, u5, u6, u7, u8, u9] t (0, 0))) (v0 v1 v2 v3 v4 v5 v6 v7 v8 v9 : Value) : (set10_ w b v0 v1 v2 v3 v4 v5 v6 v7 v8 v9).heap[b]? = some (.cells #[v0, v1, v2, v3, v4, v5, v6, v7, v8, v9] t (0, 0)) := by
  have h0 : (w.setCell ⟨b, 0, none⟩ v0).heap[b]? = some (.cells #[v0, u1, u2, u3, u4, u5, u6, u7, u8, u9] t (0, 0)) := blk_put h 0 v0 rfl
  have h1 : ((w.setCell ⟨b, 0, none⟩ v0).setCell ⟨b, 1, none⟩ v1).heap[b]? = some (.cells #[v0, v1, u2, u3, u4, u5, u6, u7, u8, u9] t (0, 0)) := blk_put h0 1 v1 rfl
  have h2 : (((w.setCell ⟨b, 0, none⟩ v0).setCell ⟨b, 1, none⟩ v1).setCell ⟨b, 2, none⟩ v2).heap[b]? = some (.cells #[v0, v1, v2, u3, u4, u5, u6, u7, u8, u9] t (0, 0)) := blk_put h1 2 v2 rfl
  have h3 : ((((w.setCell ⟨b, 0, none⟩ v0).setCell ⟨b, 1, none⟩ v1).setCell ⟨b, 2, none⟩ v2).setCell ⟨b, 3, none⟩ v3).heap[b]? = some (.cells #[v0, v1, v2, v3, u4, u5, u6, u7, u8, u9] t (0, 0)) := blk_put h2 3 v3 rfl
  have h4 : (((((w.setCell ⟨b, 0, none⟩ v0).setCell ⟨b, 1, none⟩ v1).setCell ⟨b, 2, none⟩ v2).setCell ⟨b, 3, none⟩ v3).setCell ⟨b, 4, none⟩ v4).heap[b]? = some (.cells #[v0, v1, v2, v3, v4, u5, u6, u7, u8, u9] t (0, 0)) := blk_put h3 4 v4 rfl
  have h5 : ((((((w.setCell ⟨b, 0, none⟩ v0).setCell ⟨b, 1, none⟩ v1).setCell ⟨b, 2, none⟩ v2).setCell ⟨b, 3, none⟩ v3).setCell ⟨b, 4, none⟩ v4).setCell ⟨b, 5, none⟩ v5).heap[b]? = some (.cells #[v0, v1, v2, v3, v4, v5, u6, u7, u8, u9] t (0, 0)) := blk_put h4 5 v5 rfl
  have h6 : (((((((w.setCell ⟨b, 0, none⟩ v0).setCell ⟨b, 1, none⟩ v1).setCell ⟨b, 2, none⟩ v2).setCell ⟨b, 3, none⟩ v3).setCell ⟨b, 4, none⟩ v4).setCell ⟨b, 5, none⟩ v5).setCell ⟨b, 6, none⟩ v6).heap[b]? = some (.cells #[v0, v1, v2, v3, v4, v5, v6, u7, u8, u9] t (0, 0)) := blk_put h5 6 v6 rfl
  have h7 : ((((((((w.setCell ⟨b, 0, none⟩ v0).setCell ⟨b, 1, none⟩ v1).setCell ⟨b, 2, none⟩ v2).setCell ⟨b, 3, none⟩ v3).setCell ⟨b, 4, none⟩ v4).setCell ⟨b, 5, none⟩ v5).setCell ⟨b, 6, none⟩ v6).setCell ⟨b, 7, none⟩ v7).heap[b]? = some (.cells #[v0, v1, v2, v3, v4, v5, v6, v7, u8, u9] t (0, 0)) := blk_put h6 7 v7 rfl
  have h8 : (((((((((w.setCell ⟨b, 0, none⟩ v0).setCell ⟨b, 1, none⟩ v1).setCell ⟨b, 2, none⟩ v2).setCell ⟨b, 3, none⟩ v3).setCell ⟨b, 4, none⟩ v4).setCell ⟨b, 5, none⟩ v5).setCell ⟨b, 6, none⟩ v6).setCell ⟨b, 7, none⟩ v7).setCell ⟨b, 8, none⟩ v8).heap[b]? = some (.cells #[v0, v1, v2, v3, v4, v5, v6, v7, v8, u9] t (0, 0)) := blk_put h7 8 v8 rfl
  have h9 : ((((((((((w.setCell ⟨b, 0, none⟩ v0).setCell ⟨b, 1, none⟩ v1).setCell ⟨b, 2, none⟩ v2).setCell ⟨b, 3, none⟩ v3).setCell ⟨b, 4, none⟩ v4).setCell ⟨b, 5, none⟩ v5).setCell ⟨b, 6, none⟩ v6).setCell ⟨b, 7, none⟩ v7).setCell ⟨b, 8, none⟩ v8).setCell ⟨b, 9, none⟩ v9).heap[b]? = some (.cells #[v0, v1, v2, v3, v4, v5, v6, v7, v8, v9] t (0, 0)) := blk_put h8 9 v9 rfl
  exact h9
theorem below10 {w W : World} (h : Below w.heap.size w W) {b : Nat} (hb : w.heap.size ≤ b) (v0 v1 v2 v3 v4 v5 v6 v7 v8 v9 : Value) : Below w.heap.size w (set10_ W b v0 v1 v2 v3 v4 v5 v6 v7 v8 v9) :=
  below_set (below_set (below_set (below_set (below_set (below_set (below_set (below_set (below_set (below_set h hb) hb) hb) hb) hb) hb) hb) hb) hb) hb
theorem any10 {W : World} {b k : Nat} (h : k ≠ b) (v0 v1 v2 v3 v4 v5 v6 v7 v8 v9 : Value) : (set10_ W b v0 v1 v2 v3 v4 v5 v6 v7 v8 v9).heap[k]? = W.heap[k]? := ((Below.heap_setCell _ ⟨b, 9, none⟩ v9 k h).trans ((Below.heap_setCell _ ⟨b, 8, none⟩ v8 k h).trans ((Below.heap_setCell _ ⟨b, 7, none⟩ v7 k h).trans ((Below.heap_setCell _ ⟨b, 6, none⟩ v6 k h).trans ((Below.heap_setCell _ ⟨b, 5, none⟩ v5 k h).trans ((Below.heap_setCell _ ⟨b, 4, none⟩ v4 k h).trans ((Below.heap_setCell _ ⟨b, 3, none⟩ v3 k h).trans ((Below.heap_setCell _ ⟨b, 2, none⟩ v2 k h).trans ((Below.heap_setCell _ ⟨b, 1, none⟩ v1 k h).trans (Below.heap_setCell _ ⟨b, 0, none⟩ v0 k h))))))))))
/-- A revision's rows, of its own. -/
structure RevR (W : World) (base : Nat) (ks vs : List ByteArray) (gs : List Bool) (T : List Int) (A6 : Option Addr) (c6 : Nat) (A7 : Option Addr) (c7 : Nat) (A8 : Option Addr) (c8 : Nat) (A9 : Option Addr) (c9 : Nat) : Prop where
  k : Kd.R Kd.string 9 W base (fun _ => True) (.slice A6 ks.length c6) ks
  v : Kd.R Kd.string 9 W base (fun _ => True) (.slice A7 vs.length c7) vs
  g : Kd.R Kd.bool 4 W base (fun _ => True) (.slice A8 gs.length c8) gs
  t : Kd.R (Kd.int .i64) 3 W base (fun _ => True) (.slice A9 T.length c9) T
theorem reads_ {α : Type} {d : Kd α} {e base n c : Nat} {w : World} {ok : Nat → Prop} {A : Option Addr} {xs : List α} (h : d.R e w base ok (.slice A xs.length c) xs) : Kd.C d w A xs.length xs ∧ xs.length ≤ c := by
  obtain ⟨A', c', e1, h1, h2⟩ := Kd.R_reads h
  injection e1 with e1 e2 e3
  subst e1 e3
  exact ⟨h2, h1⟩
theorem RevR.rd {base : Nat} {ks vs : List ByteArray} {gs : List Bool} {T : List Int} {A6 A7 A8 A9 : Option Addr} {c6 c7 c8 c9 : Nat} (h : RevR W base ks vs gs T A6 c6 A7 c7 A8 c8 A9 c9) : RevAt W ks vs gs T A6 c6 A7 c7 A8 c8 A9 c9 :=
  ⟨(reads_ (n := 0) h.k).1, (reads_ (n := 0) h.k).2, (reads_ (n := 0) h.v).1, (reads_ (n := 0) h.v).2, (reads_ (n := 0) h.g).1, (reads_ (n := 0) h.g).2, (reads_ (n := 0) h.t).1, (reads_ (n := 0) h.t).2⟩
theorem Rset {α : Type} {d : Kd α} {e base b : Nat} {w X : World} {v : Value} {xs : List α} {cs : Array Value} (h : d.R e w base (fun _ => True) v xs) (hb : w.heap[b]? = some (.cells cs 37 (0, 0))) (ht : ∀ q, q ∈ e :: d.E → q ≠ 37) (hX : ∀ k, k ≠ b → X.heap[k]? = w.heap[k]?) : d.R e X base (fun _ => True) v xs :=
  Kd.R_mono (Kd.R_step (Kd.R_types h hb ht) (fun k ho _ => hX k ho.2)) (fun _ _ => trivial)
theorem RevR.set {base b : Nat} {ks vs : List ByteArray} {gs : List Bool} {T : List Int} {A6 A7 A8 A9 : Option Addr} {c6 c7 c8 c9 : Nat} {cs : Array Value} {X : World} (h : RevR W base ks vs gs T A6 c6 A7 c7 A8 c8 A9 c9) (hb : W.heap[b]? = some (.cells cs 37 (0, 0))) (hX : ∀ k, k ≠ b → X.heap[k]? = W.heap[k]?) : RevR X base ks vs gs T A6 c6 A7 c7 A8 c8 A9 c9 :=
  ⟨Rset h.k hb (by intro q hq; simp [Kd.string, Kd.scalar] at hq; omega) hX, Rset h.v hb (by intro q hq; simp [Kd.string, Kd.scalar] at hq; omega) hX, Rset h.g hb (by intro q hq; simp [Kd.bool, Kd.scalar] at hq; omega) hX, Rset h.t hb (by intro q hq; simp [Kd.int, Kd.scalar] at hq; omega) hX⟩
theorem apply_goR {v r : Int} {lo hi : ByteArray} {al de : Bool} {ks vs : List ByteArray} {gs : List Bool} {T : List Int} {A6 A7 A8 A9 : Option Addr} {c6 c7 c8 c9 : Nat} {nx : Int} {B : Option Addr} {q : Nat} {m : List S114} {v2 r2 : Int} {lo2 hi2 : ByteArray} {al2 de2 : Bool} {ks2 vs2 : List ByteArray} {gs2 : List Bool} {T2 : List Int} {e2 : Int} (hA : RevAt W ks vs gs T A6 c6 A7 c7 A8 c8 A9 c9) (hR : Kd.C k114 W B m.length m) (hc : m.length ≤ q) (h : Ev (fun n => rev_Apply.f n v r lo hi al de ks vs gs T nx m) (v2, r2, lo2, hi2, al2, de2, ks2, vs2, gs2, T2, e2)) :
    Calls Try.prog 19 #[.agg (revA v r lo hi al de ks vs gs T A6 c6 A7 c7 A8 c8 A9 c9), .int .i64 nx, .slice B m.length q] W fun e w' => ∃ A6 c6 A7 c7 A8 c8 A9 c9, e = .returned (.tuple #[.agg (revA v2 r2 lo2 hi2 al2 de2 ks2 vs2 gs2 T2 A6 c6 A7 c7 A8 c8 A9 c9), .int .i64 e2]) ∧ RevR w' W.heap.size ks2 vs2 gs2 T2 A6 c6 A7 c7 A8 c8 A9 c9 ∧ Below W.heap.size W w' := by
  obtain ⟨k, hk⟩ := Ev.rounds h
  refine (rev_Apply.calls k v r lo hi al de A6 c6 ks A7 c7 vs A8 c8 gs A9 c9 T nx B q m v2 r2 lo2 hi2 al2 de2 ks2 vs2 gs2 T2 e2 W hA.k hA.kc hA.v hA.vc hA.g hA.gc hA.t hA.tc hR hc hk).mono ?_
  rintro e w' ⟨v6, v7, v8, v9, rfl, h6, h7, h8, h9, hb⟩
  obtain ⟨A6, c6, rfl, -⟩ := Kd.R_reads h6
  obtain ⟨A7, c7, rfl, -⟩ := Kd.R_reads h7
  obtain ⟨A8, c8, rfl, -⟩ := Kd.R_reads h8
  obtain ⟨A9, c9, rfl, -⟩ := Kd.R_reads h9
  exact ⟨A6, c6, A7, c7, A8, c8, A9, c9, rfl, ⟨Kd.R_mono h6 (fun _ _ => trivial), Kd.R_mono h7 (fun _ _ => trivial), Kd.R_mono h8 (fun _ _ => trivial), Kd.R_mono h9 (fun _ _ => trivial)⟩, hb⟩
theorem tomb_go (v : Int) (W : World) : Calls Try.prog 22 #[.int .i64 v] W fun e w' => ∃ A6 c6 A7 c7 A8 c8 A9 c9, e = .returned (.agg (revA v 0 ⟨#[]⟩ ⟨#[]⟩ false true [] [] [] [] A6 c6 A7 c7 A8 c8 A9 c9)) ∧ RevAt w' [] [] [] [] A6 c6 A7 c7 A8 c8 A9 c9 ∧ Below W.heap.size W w' := by
  refine (rev_Tomb.calls v v 0 ⟨#[]⟩ ⟨#[]⟩ false true [] [] [] [] W rfl).mono ?_
  rintro e w' ⟨v6, v7, v8, v9, rfl, h6, h7, h8, h9, hb⟩
  obtain ⟨A6, c6, rfl, q6, k6⟩ := Kd.R_reads h6
  obtain ⟨A7, c7, rfl, q7, k7⟩ := Kd.R_reads h7
  obtain ⟨A8, c8, rfl, q8, k8⟩ := Kd.R_reads h8
  obtain ⟨A9, c9, rfl, q9, k9⟩ := Kd.R_reads h9
  exact ⟨A6, c6, A7, c7, A8, c8, A9, c9, rfl, ⟨k6, q6, k7, q7, k8, q8, k9, q9⟩, hb⟩
theorem rapply_go {A B : Option Addr} {c q : Nat} {l m : List S62} {v r nx : Int} {lo hi : ByteArray} {al de : Bool} {v2 r2 : Int} {R : List S62} (hR : Kd.C k62 W A l.length l) (hc : l.length ≤ c) (hS : Kd.C k62 W B m.length m) (hq : m.length ≤ q) (h : Ev (fun n => rundleref08_Apply.f n v r lo hi al de l nx m) (v2, r2, lo, hi, al, false, R)) :
    Calls Try.prog 23 #[.agg (refA v r lo hi al de A l.length c), .int .i64 nx, .slice B m.length q] W fun e w' => ∃ C p, e = .returned (.agg (refA v2 r2 lo hi al false C R.length p)) ∧ Kd.C k62 w' C R.length R ∧ R.length ≤ p ∧ Below W.heap.size W w' := by
  obtain ⟨n, hk⟩ := Ev.rounds h
  refine (rundleref08_Apply.calls n v r lo hi al de A c l nx B q m v2 r2 lo hi al false R W hR hc hS hq hk).mono ?_
  rintro e w' ⟨v6, rfl, h6, hb⟩
  obtain ⟨C, p, rfl, q6, k6⟩ := Kd.R_reads h6
  exact ⟨C, p, rfl, k6, q6, hb⟩
/-- What holds while the answers are compared. -/
structure KA (b13 b15 b8 : Nat) (rv rf : Array Value) (lo hi : ByteArray) (al : Bool) (A : Option Addr) (l : List S62) (B : Option Addr) (m : List S62) (ks vs : List ByteArray) (gs : List Bool) (T : List Int) (A6 : Option Addr) (c6 : Nat) (A7 : Option Addr) (c7 : Nat) (A8 : Option Addr) (c8 : Nat) (A9 : Option Addr) (c9 : Nat) (w W : World) : Prop where
  B_ : Below w.heap.size w W
  kr : W.heap[b15]? = some (.cells rv 37 (0, 0))
  kf : W.heap[b13]? = some (.cells rf 29 (0, 0))
  ki : W.heap[b8]? = some (.cells #[.string lo, .string hi, .bool al] 23 (0, 0))
  V : RevAt W ks vs gs T A6 c6 A7 c7 A8 c8 A9 c9
  L : Kd.C k62 W A l.length l
  L2 : Kd.C k62 W B m.length m
theorem KA.below {b13 b15 b8 : Nat} {rv rf : Array Value} {lo hi : ByteArray} {al : Bool} {A : Option Addr} {l : List S62} {B : Option Addr} {m : List S62} {ks vs : List ByteArray} {gs : List Bool} {T : List Int} {A6 A7 A8 A9 : Option Addr} {c6 c7 c8 c9 : Nat} {w : World} (h : KA b13 b15 b8 rv rf lo hi al A l B m ks vs gs T A6 c6 A7 c7 A8 c8 A9 c9 w W) (hb : Below W.heap.size W W1) : KA b13 b15 b8 rv rf lo hi al A l B m ks vs gs T A6 c6 A7 c7 A8 c8 A9 c9 w W1 :=
  ⟨below_then h.B_ h.B_.size hb, blk_below h.kr hb, blk_below h.kf hb, blk_below h.ki hb, h.V.below hb, Kd.C_below h.L hb, Kd.C_below h.L2 hb⟩
set_option maxHeartbeats 6400000 in
set_option maxRecDepth 100000 in
theorem RevApplies_walk (v r : Int) (lo hi : ByteArray) (al : Bool) (A : Option Addr) (c : Nat) (l : List S62) (B : Option Addr) (q : Nat) (m : List S62) (nx : Int) (w : World) (hR : Kd.C k62 w A l.length l) (hc : l.length ≤ c) (hS : Kd.C k62 w B m.length m) (hq : m.length ≤ q) :
    Calls Try.prog 3 #[.int .i64 v, .int .i64 r, .agg #[.string lo, .string hi, .bool al], .slice A l.length c, .slice B m.length q, .int .i64 nx] w fun e w' => e = .returned (.bool true) ∧ Below w.heap.size w w' := by
  obtain ⟨W1, hW1⟩ : ∃ W1 : World, W1 = w.alloc (.cells #[.string lo, .string hi, .bool al] 23) := ⟨_, rfl⟩
  have hB1 : Below w.heap.size w W1 := hW1 ▸ below_alloc (Below.refl _ _) _
  have k1 : W1.heap[w.heap.size]? = some (.cells #[.string lo, .string hi, .bool al] 23 (0, 0)) := hW1 ▸ blk_new _ _
  have hR1 := Kd.C_below hR hB1
  have hS1 := Kd.C_below hS hB1
  have HW1 := Aside0.mk hW1
  have HC := Aside0.mk hc
  have HQ := Aside0.mk hq
  clear hW1 hR hc hS hq
  go_enter Try.func3, Try.ntmps3
  go_upto_region 1 with fail
  rw [← HW1.out]
  clear HW1
  go_wp2_with fail
  refine (awake_go W1).mono ?_
  rintro e W2 ⟨rfl, hb2⟩
  have hR2 := Kd.C_below hR1 hb2
  have hS2 := Kd.C_below hS1 hb2
  have l1 := blk_below k1 hb2
  have HB2 := Aside0.mk (below_then hB1 hB1.size hb2)
  clear hb2 k1 hB1 hR1 hS1
  have short : ∀ X, Below w.heap.size w X → Calls Try.prog 12 #[] X fun e w' => e = .returned (.bool true) ∧ Below w.heap.size w w' := fun X hX => (awake_go X).mono (by
    rintro e w' ⟨rfl, hb⟩
    exact ⟨rfl, below_then hX hX.size hb⟩)
  have SH := Aside0.mk short
  clear short
  rcases few8 l with ⟨f1, hl, sl, vl⟩ | f1
  rotate_left
  · go_wp2_with fail
    refine (few_go hR2 HC.out f1).mono ?_
    rintro e W3 ⟨rfl, hb3⟩
    have HB3 := Aside0.mk (below_then HB2.out HB2.out.size hb3)
    clear hb3
    go_wp2_with fail
    refine (SH.out _ HB3.out).mono ?_
    rintro e W9 ⟨rfl, hb9⟩
    have HB9 := Aside0.mk hb9
    clear hb9
    go_wp2_with fail
    go_ret
    exact ⟨rfl, HB9.out⟩
  go_wp2_with fail
  refine (few_go hR2 HC.out f1).mono ?_
  rintro e W3 ⟨rfl, hb3⟩
  have hR3 := Kd.C_below hR2 hb3
  have hS3 := Kd.C_below hS2 hb3
  have m1 := blk_below l1 hb3
  have HB3 := Aside0.mk (below_then HB2.out HB2.out.size hb3)
  clear hb3 l1 hR2 hS2 f1
  rcases few8 m with ⟨f2, hm, sm, vm⟩ | f2
  rotate_left
  · go_wp2_with fail
    refine (few_go hS3 HQ.out f2).mono ?_
    rintro e W4 ⟨rfl, hb4⟩
    have HB4 := Aside0.mk (below_then HB3.out HB3.out.size hb4)
    clear hb4
    go_wp2_with fail
    refine (SH.out _ HB4.out).mono ?_
    rintro e W9 ⟨rfl, hb9⟩
    have HB9 := Aside0.mk hb9
    clear hb9
    go_wp2_with fail
    go_ret
    exact ⟨rfl, HB9.out⟩
  go_wp2_with fail
  refine (few_go hS3 HQ.out f2).mono ?_
  rintro e W4 ⟨rfl, hb4⟩
  have hR4 := Kd.C_below hR3 hb4
  have hS4 := Kd.C_below hS3 hb4
  have n1 := blk_below m1 hb4
  have HB4 := Aside0.mk (below_then HB3.out HB3.out.size hb4)
  clear hb4 m1 hR3 hS3 f2
  obtain ⟨s0, s1, s2⟩ := box3_ n1
  go_wp2_with fail
  refine (short_go lo hi al W4).mono ?_
  rintro e W5 ⟨rfl, hb5⟩
  have hR5 := Kd.C_below hR4 hb5
  have hS5 := Kd.C_below hS4 hb5
  have m1 := blk_below n1 hb5
  have HB5 := Aside0.mk (below_then HB4.out HB4.out.size hb5)
  clear hb5 n1 hR4 hS4 s0 s1 s2
  obtain ⟨d, hd⟩ : ∃ d, (decide ((lo.size : Int) ≤ 40) && decide ((hi.size : Int) ≤ 40)) = d := ⟨_, rfl⟩
  rw [hd]
  clear hd
  cases d
  · skip
    go_wp2_with fail
    refine (SH.out _ HB5.out).mono ?_
    rintro e W9 ⟨rfl, hb9⟩
    have HB9 := Aside0.mk hb9
    clear hb9
    go_wp2_with fail
    go_ret
    exact ⟨rfl, HB9.out⟩
  obtain ⟨s0, s1, s2⟩ := box3_ m1
  have hl9 : l.length ≤ 1000 := by omega
  have hm9 : m.length ≤ 1000 := by omega
  have hml0 : (l.map cv).length ≤ 1000 := by rw [List.length_map]; exact hl9
  have hmm0 : (l.map cv).length + (m.map cv).length ≤ 1000 := by rw [List.length_map, List.length_map]; omega
  have hof := ev_of8 l hl9
  have hof2 := ev_of8 m hm9
  have hrm := ev_rmay lo hi al l hl9 sl
  have hrm2 := ev_rmay lo hi al m hm9 sm
  have hsm := fun T hT => same_ok v r lo hi al l hl9 sl T hT
  have hra : ∀ r0, Rise (l.map cv) → Rise (m.map cv) → ∃ R : List S62, R.map cv = mergeL (l.map cv) (m.map cv) ∧ Ev (fun n => rundleref08_Apply.f n v r0 lo hi al false l nx m) (nx, rateF r0 m.length, lo, hi, al, false, R) := fun r0 h1 h2 => ev_rapply l m (by omega) (by omega) sl sm h1 h2 v r0 nx lo hi al false
  obtain ⟨hML, hMM⟩ := mergeL_len _ (l.map cv) (m.map cv) rfl
  have hrt : ∀ n : Int, n = m.length → rateF r n = rateF r ((m.map cv).length : Int) := fun n hn => by rw [hn, List.length_map]
  obtain ⟨M, hME⟩ : ∃ M, l.map cv = M := ⟨_, rfl⟩
  obtain ⟨M2, hME2⟩ : ∃ M2, m.map cv = M2 := ⟨_, rfl⟩
  rw [hME] at hml0 hof hrm sl hML hMM hmm0
  rw [hME2] at hof2 hrm2 sm hML hMM hrt hmm0
  simp only [hME] at hsm
  simp only [hME, hME2] at hra
  have HSM := Aside0.mk hsm
  have HRA := Aside0.mk hra
  have HOF2 := Aside0.mk hof2
  have HRT := Aside0.mk hrt
  have HMM := Aside0.mk hMM
  have HML := Aside0.mk hML
  have HSL := Aside0.mk sl
  have HSM2 := Aside0.mk sm
  have HOF := Aside0.mk hof
  have HMM0 := Aside0.mk hmm0
  have hml := hml0
  obtain ⟨bm, hbm, hbi⟩ := hrm
  obtain ⟨bm2, hbm2, hbi2⟩ := hrm2
  have HBM := Aside0.mk hbm
  have HBM2 := Aside0.mk hbm2
  have HBI2 := Aside0.mk hbi2
  have HBI := Aside0.mk hbi
  clear hME hME2 hsm hra hof2 hrt hMM hML hml0 hof hbm hbm2 hbi2 hbi vl vm hmm0
  go_wp2_with fail
  refine (made_go (v := v) (r := r) hR5 HC.out HBM.out).mono ?_
  rintro e W6 ⟨rfl, hb6⟩
  have hR6 := Kd.C_below hR5 hb6
  have hS6 := Kd.C_below hS5 hb6
  have n1 := blk_below m1 hb6
  have HB6 := Aside0.mk (below_then HB5.out HB5.out.size hb6)
  clear hb6 m1 hR5 hS5 s0 s1 s2
  rcases ev_new M hml sl v r lo hi al with ⟨hM, T, hT, h1⟩ | ⟨hM, h1⟩
  · obtain rfl : bm = true := HBI.out.2 hM
    have HM := Aside0.mk hM
    have HT := Aside0.mk hT
    have H1 := Aside0.mk h1
    clear hM hT h1
    simp only [if_true]
    obtain ⟨W7, hW7⟩ : ∃ W7 : World, W7 = W6.alloc (.cells (#[.int .i64 v, .int .i64 r, .string lo, .string hi, .bool al, .bool false, .slice A l.length c] : Array Value) 29) := ⟨_, rfl⟩
    have hb7 : Below W6.heap.size W6 W7 := hW7 ▸ below_alloc (Below.refl _ _) _
    have kf : W7.heap[W6.heap.size]? = some (.cells (#[.int .i64 v, .int .i64 r, .string lo, .string hi, .bool al, .bool false, .slice A l.length c] : Array Value) 29 (0, 0)) := hW7 ▸ blk_new _ _
    have hR7 := Kd.C_below hR6 hb7
    have hS7 := Kd.C_below hS6 hb7
    have m1 := blk_below n1 hb7
    have HB7 := Aside0.mk (below_then HB6.out HB6.out.size hb7)
    have HW7 := Aside0.mk hW7
    clear hW7 hb7 hR6 hS6 n1
    go_upto_region 4 with fail
    rw [← HW7.out]
    clear HW7
    obtain ⟨s0, s1, s2⟩ := box3_ m1
    go_wp2_with fail
    refine (of4_go lo hi al W7).mono ?_
    rintro e W8 ⟨rfl, hb8⟩
    have hR8 := Kd.C_below hR7 hb8
    have hS8 := Kd.C_below hS7 hb8
    have n1 := blk_below m1 hb8
    have kf8 := blk_below kf hb8
    have HB8 := Aside0.mk (below_then HB7.out HB7.out.size hb8)
    clear hb8 m1 hR7 hS7 kf s0 s1 s2
    go_wp2_with fail
    refine (of_go hR8 HC.out HOF.out).mono ?_
    rintro e W9 ⟨B9, q9, rfl, hM9, hq9, hb9⟩
    have hR9 := Kd.C_below hR8 hb9
    have hS9 := Kd.C_below hS8 hb9
    have m1 := blk_below n1 hb9
    have kf9 := blk_below kf8 hb9
    have HB9 := Aside0.mk (below_then HB8.out HB8.out.size hb9)
    clear hb9 n1 hR8 hS8 kf8
    go_wp2_with fail
    refine (new_go hM9 hq9 H1.out).mono ?_
    rintro e Wa ⟨A6, c6, A7, c7, A8, c8, A9, c9, rfl, hAa, hba⟩
    have hRa := Kd.C_below hR9 hba
    have hSa := Kd.C_below hS9 hba
    have n1 := blk_below m1 hba
    have kfa := blk_below kf9 hba
    have HBa := Aside0.mk (below_then HB9.out HB9.out.size hba)
    clear hba m1 hR9 hS9 kf9 hM9 H1
    obtain ⟨RV, hRV⟩ : ∃ RV, RV = (#[.int .i64 v, .int .i64 r, .string lo, .string hi, .bool al, .bool false, .slice A6 (keysOf M).length c6, .slice A7 (valsOf M).length c7, .slice A8 (goneOf M).length c8, .slice A9 T.length c9] : Array Value) := ⟨_, rfl⟩
    obtain ⟨Wb, hWb⟩ : ∃ Wb : World, Wb = Wa.alloc (.cells (#[.int .i64 v, .int .i64 r, .string lo, .string hi, .bool al, .bool false, .slice A6 (keysOf M).length c6, .slice A7 (valsOf M).length c7, .slice A8 (goneOf M).length c8, .slice A9 T.length c9] : Array Value) 37) := ⟨_, rfl⟩
    have hbb : Below Wa.heap.size Wa Wb := hWb ▸ below_alloc (Below.refl _ _) _
    have kb : Wb.heap[Wa.heap.size]? = some (.cells RV 37 (0, 0)) := by rw [hRV, hWb]; exact blk_new _ _
    have hRb := Kd.C_below hRa hbb
    have hSb := Kd.C_below hSa hbb
    have hAb := hAa.below hbb
    have p1 := blk_below n1 hbb
    have kfb := blk_below kfa hbb
    have HBb := Aside0.mk (below_then HBa.out HBa.out.size hbb)
    have HWb := Aside0.mk hWb
    have HRV := Aside0.mk hRV
    clear hbb hWb hRa hSa hAa n1 kfa hRV
    go_upto_region 5 with fail
    rw [← HWb.out]
    clear HWb
    have K0 := Aside0.mk (show KA W6.heap.size Wa.heap.size w.heap.size RV (#[.int .i64 v, .int .i64 r, .string lo, .string hi, .bool al, .bool false, .slice A l.length c] : Array Value) lo hi al A l B m (keysOf M) (valsOf M) (goneOf M) T A6 c6 A7 c7 A8 c8 A9 c9 w Wb from ⟨HBb.out, kb, kfb, p1, hAb, hRb, hSb⟩)
    clear kb kfb p1 hAb hRb hSb
    have SOF := Aside0.mk (show ∀ w', KA W6.heap.size Wa.heap.size w.heap.size RV (#[.int .i64 v, .int .i64 r, .string lo, .string hi, .bool al, .bool false, .slice A l.length c] : Array Value) lo hi al A l B m (keysOf M) (valsOf M) (goneOf M) T A6 c6 A7 c7 A8 c8 A9 c9 w w' → (w'.cell? ⟨Wa.heap.size, 0, none⟩ = some (.int .i64 v) ∧ w'.cell? ⟨Wa.heap.size, 1, none⟩ = some (.int .i64 r) ∧ w'.cell? ⟨Wa.heap.size, 2, none⟩ = some (.string lo) ∧ w'.cell? ⟨Wa.heap.size, 3, none⟩ = some (.string hi) ∧ w'.cell? ⟨Wa.heap.size, 4, none⟩ = some (.bool al) ∧ w'.cell? ⟨Wa.heap.size, 5, none⟩ = some (.bool false) ∧ w'.cell? ⟨Wa.heap.size, 6, none⟩ = some (.slice A6 (keysOf M).length c6) ∧ w'.cell? ⟨Wa.heap.size, 7, none⟩ = some (.slice A7 (valsOf M).length c7) ∧ w'.cell? ⟨Wa.heap.size, 8, none⟩ = some (.slice A8 (goneOf M).length c8) ∧ w'.cell? ⟨Wa.heap.size, 9, none⟩ = some (.slice A9 T.length c9) ∧ KA W6.heap.size Wa.heap.size w.heap.size RV (#[.int .i64 v, .int .i64 r, .string lo, .string hi, .bool al, .bool false, .slice A l.length c] : Array Value) lo hi al A l B m (keysOf M) (valsOf M) (goneOf M) T A6 c6 A7 c7 A8 c8 A9 c9 w w') from fun w' hk => by
      have kx := hk.kr
      rw [HRV.out] at kx
      obtain ⟨x0, x1, x2, x3, x4, x5, x6, x7, x8, x9⟩ := box10_ kx
      exact ⟨x0, x1, x2, x3, x4, x5, x6, x7, x8, x9, hk⟩)
    have LASTK := Aside0.mk (show ∀ w', (w'.cell? ⟨Wa.heap.size, 0, none⟩ = some (.int .i64 v) ∧ w'.cell? ⟨Wa.heap.size, 1, none⟩ = some (.int .i64 r) ∧ w'.cell? ⟨Wa.heap.size, 2, none⟩ = some (.string lo) ∧ w'.cell? ⟨Wa.heap.size, 3, none⟩ = some (.string hi) ∧ w'.cell? ⟨Wa.heap.size, 4, none⟩ = some (.bool al) ∧ w'.cell? ⟨Wa.heap.size, 5, none⟩ = some (.bool false) ∧ w'.cell? ⟨Wa.heap.size, 6, none⟩ = some (.slice A6 (keysOf M).length c6) ∧ w'.cell? ⟨Wa.heap.size, 7, none⟩ = some (.slice A7 (valsOf M).length c7) ∧ w'.cell? ⟨Wa.heap.size, 8, none⟩ = some (.slice A8 (goneOf M).length c8) ∧ w'.cell? ⟨Wa.heap.size, 9, none⟩ = some (.slice A9 T.length c9) ∧ KA W6.heap.size Wa.heap.size w.heap.size RV (#[.int .i64 v, .int .i64 r, .string lo, .string hi, .bool al, .bool false, .slice A l.length c] : Array Value) lo hi al A l B m (keysOf M) (valsOf M) (goneOf M) T A6 c6 A7 c7 A8 c8 A9 c9 w w') → KA W6.heap.size Wa.heap.size w.heap.size RV (#[.int .i64 v, .int .i64 r, .string lo, .string hi, .bool al, .bool false, .slice A l.length c] : Array Value) lo hi al A l B m (keysOf M) (valsOf M) (goneOf M) T A6 c6 A7 c7 A8 c8 A9 c9 w w' from fun w' h => h.2.2.2.2.2.2.2.2.2.2)
    have AP := Aside0.mk (show ∃ (v2 r2 : Int) (lo2 hi2 : ByteArray) (al2 : Bool) (ks2 vs2 : List ByteArray) (gs2 : List Bool) (T2 : List Int) (e2 : Int), Ev (fun n => rev_Apply.f n v r lo hi al false (keysOf M) (valsOf M) (goneOf M) T nx M2) (v2, r2, lo2, hi2, al2, false, ks2, vs2, gs2, T2, e2) ∧ ((bm2 = true ∧ e2 = 0 ∧ ∃ R : List S62, Ev (fun n => rundleref08_Apply.f n v r lo hi al false l nx m) (v2, r2, lo, hi, al, false, R) ∧ Ev (fun n => rundlelaw08_Same.f n v2 r2 lo2 hi2 al2 false ks2 vs2 gs2 T2 v2 r2 lo hi al false R) 1) ∨ (bm2 = false ∧ e2 = 1 ∧ Ev (fun n => rundlelaw08_Same.f n v2 r2 lo2 hi2 al2 false ks2 vs2 gs2 T2 0 0 (⟨#[]⟩ : ByteArray) (⟨#[]⟩ : ByteArray) false false ([] : List S62)) 1)) from by
      rcases ev_apply M M2 HMM0.out HSL.out HSM2.out T v r nx lo hi al with ⟨hm2, T', hT', h2⟩ | ⟨hm2, h2⟩
      · obtain ⟨R, hR1, hR2⟩ := HRA.out r (may_rise HM.out) (may_rise hm2)
        refine ⟨_, _, _, _, _, _, _, _, _, _, h2, Or.inl ⟨HBI2.out.2 hm2, rfl, R, ?_, ?_⟩⟩
        · rw [← HRT.out _ rfl]
          exact hR2
        · have hRl : R.length ≤ 1000 := by
            have e9 : (R.map cv).length = R.length := List.length_map _
            rw [← e9, hR1]
            have := HML.out
            have := HMM0.out
            omega
          have hT2 : Tab (keysOf (R.map cv)) T' := hR1.symm ▸ hT'
          have := same_ok nx (rateF r (M2.length : Int)) lo hi al R hRl (by
            rw [hR1]
            intro x hx
            rcases HMM.out x hx with h | h
            · exact HSL.out x h
            · exact HSM2.out x h) T' hT2
          rw [hR1] at this
          exact this
      · exact ⟨_, _, _, _, _, _, _, _, _, _, h2, Or.inr ⟨Bool.eq_false_iff.2 fun e => hm2 (HBI2.out.1 e), rfl, same_zero⟩⟩)
    obtain ⟨v2, r2, lo2, hi2, al2, ks2, vs2, gs2, T2, e2, hap, hcase⟩ := AP.out
    have HAP := Aside0.mk hap
    have HCASE := Aside0.mk hcase
    have HSR := Aside0.mk (HSM.out T HT.out)
    clear hap hcase AP HRA HRT HMM HSL HSM2 HM HT HSM
    go_upto_region 7 with fail
    have KS := Aside0.mk (SOF.out _ (K0.out.below (pw_below_drewN (Below.refl Wb.heap.size Wb) 1)))

    have KS0 := Aside0.mk (show KA W6.heap.size Wa.heap.size w.heap.size RV (#[.int .i64 v, .int .i64 r, .string lo, .string hi, .bool al, .bool false, .slice A l.length c] : Array Value) lo hi al A l B m (keysOf M) (valsOf M) (goneOf M) T A6 c6 A7 c7 A8 c8 A9 c9 w Wb.drew from LASTK.out _ KS.out)
    refine start_ (n := 11) (S := fun w' => w'.cell? ⟨Wa.heap.size, 0, none⟩ = some (.int .i64 v) ∧ w'.cell? ⟨Wa.heap.size, 1, none⟩ = some (.int .i64 r) ∧ w'.cell? ⟨Wa.heap.size, 2, none⟩ = some (.string lo) ∧ w'.cell? ⟨Wa.heap.size, 3, none⟩ = some (.string hi) ∧ w'.cell? ⟨Wa.heap.size, 4, none⟩ = some (.bool al) ∧ w'.cell? ⟨Wa.heap.size, 5, none⟩ = some (.bool false) ∧ w'.cell? ⟨Wa.heap.size, 6, none⟩ = some (.slice A6 (keysOf M).length c6) ∧ w'.cell? ⟨Wa.heap.size, 7, none⟩ = some (.slice A7 (valsOf M).length c7) ∧ w'.cell? ⟨Wa.heap.size, 8, none⟩ = some (.slice A8 (goneOf M).length c8) ∧ w'.cell? ⟨Wa.heap.size, 9, none⟩ = some (.slice A9 T.length c9) ∧ KA W6.heap.size Wa.heap.size w.heap.size RV (#[.int .i64 v, .int .i64 r, .string lo, .string hi, .bool al, .bool false, .slice A l.length c] : Array Value) lo hi al A l B m (keysOf M) (valsOf M) (goneOf M) T A6 c6 A7 c7 A8 c8 A9 c9 w w') (ds := [9]) #[false, false, false, false, false, false, false, false, false, false, false] rfl rfl rfl (KS.out) ?_
    intro hHeld
    refine take_ (i := 0) (N := some 70) (v := ?_) (a' := ?_) #[true, false, false, false, false, false, false, false, false, false, false] rfl rfl (by kernel_rfl) (fun _ _ _ h => h) (Or.inl ⟨by rfl, ?_⟩) hHeld ?_ ?_
    rotate_left
    · rintro w' hHeld'
      have hHeld'' := hHeld'
      (try obtain ⟨r0_, r1_⟩ := hHeld')
      (try obtain ⟨r1_, r2_⟩ := r1_)
      (try obtain ⟨r2_, r3_⟩ := r2_)
      (try obtain ⟨r3_, r4_⟩ := r3_)
      (try obtain ⟨r4_, r5_⟩ := r4_)
      (try obtain ⟨r5_, r6_⟩ := r5_)
      (try obtain ⟨r6_, r7_⟩ := r6_)
      (try obtain ⟨r7_, r8_⟩ := r7_)
      (try obtain ⟨r8_, r9_⟩ := r8_)
      (try obtain ⟨r9_, r10_⟩ := r9_)
      (try obtain ⟨r10_, r11_⟩ := r10_)
      (try obtain ⟨r11_, r12_⟩ := r11_)
      (try obtain ⟨r12_, r13_⟩ := r12_)
      (try obtain ⟨r13_, r14_⟩ := r13_)
      (try obtain ⟨r14_, r15_⟩ := r14_)
      (try obtain ⟨r15_, r16_⟩ := r15_)
      (try obtain ⟨r16_, r17_⟩ := r16_)
      (try obtain ⟨r17_, r18_⟩ := r17_)
      (try obtain ⟨r18_, r19_⟩ := r18_)
      (try obtain ⟨r19_, r20_⟩ := r19_)
      (try obtain ⟨r20_, r21_⟩ := r20_)
      (try obtain ⟨r21_, r22_⟩ := r21_)
      (try obtain ⟨r22_, r23_⟩ := r22_)
      (try obtain ⟨r23_, r24_⟩ := r23_)
      (try obtain ⟨r24_, r25_⟩ := r24_)
      (try obtain ⟨r25_, r26_⟩ := r25_)
      (try obtain ⟨r26_, r27_⟩ := r26_)
      (try obtain ⟨r27_, r28_⟩ := r27_)
      (try obtain ⟨r28_, r29_⟩ := r28_)
      (try obtain ⟨r29_, r30_⟩ := r29_)
      (try obtain ⟨r7_, r8_⟩ := r7_)
      (try obtain ⟨r8_, r9_⟩ := r8_)
      go_simp
      with_reducible rfl
    rotate_left
    · simp only [Act.put, List.setIfInBounds_toArray, List.set_cons_zero, List.set_cons_succ, i64_w, i32_w]
      rfl
    refine pure_ (i := 1) (N := some 71) (v := ?_) (a' := ?_) #[true, true, false, false, false, false, false, false, false, false, false] rfl rfl (by kernel_rfl) (fun _ _ _ h => h) (Or.inl ⟨by rfl, ?_⟩) ?_ ?_
    rotate_left
    · intro w'
      go_simp
      with_reducible rfl
    rotate_left
    · simp only [Act.put, List.setIfInBounds_toArray, List.set_cons_zero, List.set_cons_succ, i64_w, i32_w]
      rfl
    refine pure_ (i := 2) (N := some 72) (v := ?_) (a' := ?_) #[true, true, true, false, false, false, false, false, false, false, false] rfl rfl (by kernel_rfl) (fun _ _ _ h => h) (Or.inl ⟨by rfl, ?_⟩) ?_ ?_
    rotate_left
    · intro w'
      go_simp
      with_reducible rfl
    rotate_left
    · simp only [Act.put, List.setIfInBounds_toArray, List.set_cons_zero, List.set_cons_succ, i64_w, i32_w]
      rfl
    refine join_ (σ := Option Addr × Nat × Option Addr × Nat × Option Addr × Nat × Option Addr × Nat × Nat × Option Addr × Nat) (fuel' := 0) #[true, true, true, true, true, true, true, true, true, true, true] (fun s => [(73, .slice s.2.2.2.2.2.2.2.2.2.1 M2.length s.2.2.2.2.2.2.2.2.2.2), (74, .tuple #[.agg (revA v2 r2 lo2 hi2 al2 false ks2 vs2 gs2 T2 s.1 s.2.1 s.2.2.1 s.2.2.2.1 s.2.2.2.2.1 s.2.2.2.2.2.1 s.2.2.2.2.2.2.1 s.2.2.2.2.2.2.2.1), .int .i64 e2]), (69, .tuple #[.agg (revA v2 r2 lo2 hi2 al2 false ks2 vs2 gs2 T2 s.1 s.2.1 s.2.2.1 s.2.2.2.1 s.2.2.2.2.1 s.2.2.2.2.2.1 s.2.2.2.2.2.2.1 s.2.2.2.2.2.2.2.1), .int .i64 e2]), (75, .agg (revA v2 r2 lo2 hi2 al2 false ks2 vs2 gs2 T2 s.1 s.2.1 s.2.2.1 s.2.2.2.1 s.2.2.2.2.1 s.2.2.2.2.2.1 s.2.2.2.2.2.2.1 s.2.2.2.2.2.2.2.1)), (76, .int .i64 e2), (18, .int .i64 e2), (17, .pointer (some ⟨s.2.2.2.2.2.2.2.2.1, 0, none⟩))]) (fun s w' => (KA W6.heap.size Wa.heap.size w.heap.size RV (#[.int .i64 v, .int .i64 r, .string lo, .string hi, .bool al, .bool false, .slice A l.length c] : Array Value) lo hi al A l B m (keysOf M) (valsOf M) (goneOf M) T A6 c6 A7 c7 A8 c8 A9 c9 w w' ∧ w'.heap[s.2.2.2.2.2.2.2.2.1]? = some (.cells (revA v2 r2 lo2 hi2 al2 false ks2 vs2 gs2 T2 s.1 s.2.1 s.2.2.1 s.2.2.2.1 s.2.2.2.2.1 s.2.2.2.2.2.1 s.2.2.2.2.2.2.1 s.2.2.2.2.2.2.2.1) 37 (0, 0)) ∧ RevAt w' ks2 vs2 gs2 T2 s.1 s.2.1 s.2.2.1 s.2.2.2.1 s.2.2.2.2.1 s.2.2.2.2.2.1 s.2.2.2.2.2.2.1 s.2.2.2.2.2.2.2.1)) ?_ ?_
    rotate_left
    · intro hcont
      refine two_ (i := 3) (j := 8) (Ni := some 73) (Nj := some 17) #[true, true, true, true, false, false, false, false, false, false, false] #[true, true, true, false, false, false, false, false, true, false, false] rfl rfl rfl rfl (by kernel_rfl) (by decide) (by decide) (fun K hSh => ?_) (fun K hSh => ?_)
      · skip
        refine goes_ Try.func18 (by kernel_rfl) rfl #[.slice B m.length q] (by rfl) rfl rfl (by (try simp only [List.map_toArray, List.map_cons, List.map_nil]); rfl) ?_
        refine (of_go (LASTK.out _ hHeld).L2 HQ.out HOF2.out).mono ?_
        rintro e V3 ⟨B3, q3, rfl, hC3, hq3, hb⟩
        have HW3 := Aside0.mk hb
        refine ⟨_, rfl, hSh.out _ _ (SOF.out _ ((LASTK.out _ hHeld).below hb)) ?_⟩
        clear hHeld hb hSh
        intro hHeld
        refine norm_ (a' := ?_) ?_ ?_
        rotate_left
        · simp only [Act.put, List.setIfInBounds_toArray, List.set_cons_zero, List.set_cons_succ, i64_w, i32_w]
          rfl
        refine two_ (i := 4) (j := 8) (Ni := some 74) (Nj := some 17) #[true, true, true, true, true, false, false, false, false, false, false] #[true, true, true, true, false, false, false, false, true, false, false] rfl rfl rfl rfl (by kernel_rfl) (by decide) (by decide) (fun K hSh => ?_) (fun K hSh => ?_)
        · skip
          refine goes_ Try.func19 (by kernel_rfl) rfl #[.agg (revA v r lo hi al false (keysOf M) (valsOf M) (goneOf M) T A6 c6 A7 c7 A8 c8 A9 c9), .int .i64 nx, .slice B3 M2.length q3] (by rfl) rfl rfl (by (try simp only [List.map_toArray, List.map_cons, List.map_nil]); rfl) ?_
          refine (apply_goR (LASTK.out _ hHeld).V hC3 hq3 HAP.out).mono ?_
          rintro e V4 ⟨D6, d6, D7, d7, D8, d8, D9, d9, rfl, hT4, hb⟩
          refine ⟨_, rfl, hSh.out _ _ (SOF.out _ ((LASTK.out _ hHeld).below hb)) ?_⟩
          clear hHeld hb hSh
          intro hHeld
          refine norm_ (a' := ?_) ?_ ?_
          rotate_left
          · simp only [Act.put, List.setIfInBounds_toArray, List.set_cons_zero, List.set_cons_succ, i64_w, i32_w]
            rfl
          refine pure_ (i := 5) (N := some 69) (v := ?_) (a' := ?_) #[true, true, true, true, true, true, false, false, false, false, false] rfl rfl (by kernel_rfl) (fun _ _ _ h => h) (Or.inl ⟨by rfl, ?_⟩) ?_ ?_
          rotate_left
          · intro w'
            go_simp
            with_reducible rfl
          rotate_left
          · simp only [Act.put, List.setIfInBounds_toArray, List.set_cons_zero, List.set_cons_succ, i64_w, i32_w]
            rfl
          refine pure_ (i := 6) (N := some 75) (v := ?_) (a' := ?_) #[true, true, true, true, true, true, true, false, false, false, false] rfl rfl (by kernel_rfl) (fun _ _ _ h => h) (Or.inl ⟨by rfl, ?_⟩) ?_ ?_
          rotate_left
          · intro w'
            go_simp
            with_reducible rfl
          rotate_left
          · simp only [Act.put, List.setIfInBounds_toArray, List.set_cons_zero, List.set_cons_succ, i64_w, i32_w]
            rfl
          refine pure_ (i := 7) (N := some 76) (v := ?_) (a' := ?_) #[true, true, true, true, true, true, true, true, false, false, false] rfl rfl (by kernel_rfl) (fun _ _ _ h => h) (Or.inl ⟨by rfl, ?_⟩) ?_ ?_
          rotate_left
          · intro w'
            go_simp
            with_reducible rfl
          rotate_left
          · simp only [Act.put, List.setIfInBounds_toArray, List.set_cons_zero, List.set_cons_succ, i64_w, i32_w]
            rfl
          refine one_ (i := 8) (N := some 17) #[true, true, true, true, true, true, true, true, true, false, false] rfl rfl (by kernel_rfl) (by decide) (fun K hSh => ?_)
          refine value_ (v := .pointer (some ⟨V4.heap.size, 0, none⟩)) (w1 := V4.alloc (.cells #[.int .i64 0, .int .i64 0, .string ⟨#[]⟩, .string ⟨#[]⟩, .bool false, .bool false, .slice none 0 0, .slice none 0 0, .slice none 0 0, .slice none 0 0] 37)) (by rfl) rfl (by go_simp) ?_
          have kz := blk_new V4 (.cells #[.int .i64 0, .int .i64 0, .string ⟨#[]⟩, .string ⟨#[]⟩, .bool false, .bool false, .slice none 0 0, .slice none 0 0, .slice none 0 0, .slice none 0 0] 37)
          have hbz : Below V4.heap.size V4 (V4.alloc (.cells #[.int .i64 0, .int .i64 0, .string ⟨#[]⟩, .string ⟨#[]⟩, .bool false, .bool false, .slice none 0 0, .slice none 0 0, .slice none 0 0, .slice none 0 0] 37)) := below_alloc (Below.refl _ _) _
          have hbx : Below V4.heap.size V4 (V4.alloc (.cells #[.int .i64 v2, .int .i64 r2, .string lo2, .string hi2, .bool al2, .bool false, .slice D6 ks2.length d6, .slice D7 vs2.length d7, .slice D8 gs2.length d8, .slice D9 T2.length d9] 37)) := below_alloc (Below.refl _ _) _
          have KX := Aside0.mk ((LASTK.out _ hHeld).below hbx)
          have hTX := hT4.rd.below hbx
          refine hSh.out _ _ (SOF.out _ ((LASTK.out _ hHeld).below hbz)) ?_
          clear hHeld hSh hbx hbz
          intro hHeld
          refine norm_ (a' := ?_) ?_ ?_
          rotate_left
          · simp only [Act.put, List.setIfInBounds_toArray, List.set_cons_zero, List.set_cons_succ, i64_w, i32_w]
            rfl
          obtain ⟨x0, x1, x2, x3, x4, x5, x6, x7, x8, x9⟩ := box10_ kz
          obtain ⟨z0, z1, z2, z3, z4, z5, z6, z7, z8, z9⟩ := froz_all kz
          refine last_ (i := 9) (N := none) #[true, true, true, true, true, true, true, true, true, true, false] rfl rfl (by kernel_rfl) (by decide) (fun K hSh => ?_)
          refine skip_ (w1 := V4.alloc (.cells #[.int .i64 v2, .int .i64 r2, .string lo2, .string hi2, .bool al2, .bool false, .slice D6 ks2.length d6, .slice D7 vs2.length d7, .slice D8 gs2.length d8, .slice D9 T2.length d9] 37)) (by rfl) rfl (by go_simp) ?_
          refine hSh.out _ _ ?_
          refine pure_ (i := 10) (N := some 18) (v := ?_) (a' := ?_) #[true, true, true, true, true, true, true, true, true, true, true] rfl rfl (by kernel_rfl) (fun _ _ _ h => h) (Or.inl ⟨by rfl, ?_⟩) ?_ ?_
          rotate_left
          · intro w'
            go_simp
            with_reducible rfl
          rotate_left
          · simp only [Act.put, List.setIfInBounds_toArray, List.set_cons_zero, List.set_cons_succ, i64_w, i32_w]
            rfl
          exact hcont (D6, d6, D7, d7, D8, d8, D9, d9, V4.heap.size, B3, q3) _ ⟨KX.out, blk_new _ _, hTX⟩
        · skip
          refine value_ (v := .pointer (some ⟨V3.heap.size, 0, none⟩)) (w1 := V3.alloc (.cells #[.int .i64 0, .int .i64 0, .string ⟨#[]⟩, .string ⟨#[]⟩, .bool false, .bool false, .slice none 0 0, .slice none 0 0, .slice none 0 0, .slice none 0 0] 37)) (by rfl) rfl (by go_simp) ?_
          have kz : (V3.alloc (.cells #[.int .i64 0, .int .i64 0, .string ⟨#[]⟩, .string ⟨#[]⟩, .bool false, .bool false, .slice none 0 0, .slice none 0 0, .slice none 0 0, .slice none 0 0] 37)).heap[V3.heap.size]? = some (.cells #[.int .i64 0, .int .i64 0, .string ⟨#[]⟩, .string ⟨#[]⟩, .bool false, .bool false, .slice none 0 0, .slice none 0 0, .slice none 0 0, .slice none 0 0] 37 (0, 0)) := blk_new V3 (.cells #[.int .i64 0, .int .i64 0, .string ⟨#[]⟩, .string ⟨#[]⟩, .bool false, .bool false, .slice none 0 0, .slice none 0 0, .slice none 0 0, .slice none 0 0] 37)
          have hbz : Below V3.heap.size V3 (V3.alloc (.cells #[.int .i64 0, .int .i64 0, .string ⟨#[]⟩, .string ⟨#[]⟩, .bool false, .bool false, .slice none 0 0, .slice none 0 0, .slice none 0 0, .slice none 0 0] 37)) := below_alloc (Below.refl _ _) _
          refine hSh.out _ _ (SOF.out _ ((LASTK.out _ hHeld).below hbz)) ?_
          have HWz := Aside0.mk (below_then HW3.out HW3.out.size hbz)
          clear hHeld hSh hbz
          intro hHeld
          have hC3' := Kd.C_alloc hC3 (.cells #[.int .i64 0, .int .i64 0, .string ⟨#[]⟩, .string ⟨#[]⟩, .bool false, .bool false, .slice none 0 0, .slice none 0 0, .slice none 0 0, .slice none 0 0] 37)
          have hC3 := hC3'
          refine norm_ (a' := ?_) ?_ ?_
          rotate_left
          · simp only [Act.put, List.setIfInBounds_toArray, List.set_cons_zero, List.set_cons_succ, i64_w, i32_w]
            rfl
          refine one_ (i := 4) (N := some 74) #[true, true, true, true, true, false, false, false, true, false, false] rfl rfl (by kernel_rfl) (by decide) (fun K hSh => ?_)
          refine goes_ Try.func19 (by kernel_rfl) rfl #[.agg (revA v r lo hi al false (keysOf M) (valsOf M) (goneOf M) T A6 c6 A7 c7 A8 c8 A9 c9), .int .i64 nx, .slice B3 M2.length q3] (by rfl) rfl rfl (by (try simp only [List.map_toArray, List.map_cons, List.map_nil]); rfl) ?_
          refine (apply_goR (LASTK.out _ hHeld).V hC3 hq3 HAP.out).mono ?_
          rintro e V4 ⟨D6, d6, D7, d7, D8, d8, D9, d9, rfl, hT4, hb⟩
          have HW4 := Aside0.mk (below_then HWz.out HWz.out.size hb)
          have hge : Wb.drew.heap.size ≤ V3.heap.size := HW3.out.size
          have kz' := blk_below kz hb
          refine ⟨_, rfl, hSh.out _ _ (SOF.out _ ((LASTK.out _ hHeld).below hb)) ?_⟩
          clear hHeld hb hSh kz
          intro hHeld
          refine norm_ (a' := ?_) ?_ ?_
          rotate_left
          · simp only [Act.put, List.setIfInBounds_toArray, List.set_cons_zero, List.set_cons_succ, i64_w, i32_w]
            rfl
          refine pure_ (i := 5) (N := some 69) (v := ?_) (a' := ?_) #[true, true, true, true, true, true, false, false, true, false, false] rfl rfl (by kernel_rfl) (fun _ _ _ h => h) (Or.inl ⟨by rfl, ?_⟩) ?_ ?_
          rotate_left
          · intro w'
            go_simp
            with_reducible rfl
          rotate_left
          · simp only [Act.put, List.setIfInBounds_toArray, List.set_cons_zero, List.set_cons_succ, i64_w, i32_w]
            rfl
          refine pure_ (i := 6) (N := some 75) (v := ?_) (a' := ?_) #[true, true, true, true, true, true, true, false, true, false, false] rfl rfl (by kernel_rfl) (fun _ _ _ h => h) (Or.inl ⟨by rfl, ?_⟩) ?_ ?_
          rotate_left
          · intro w'
            go_simp
            with_reducible rfl
          rotate_left
          · simp only [Act.put, List.setIfInBounds_toArray, List.set_cons_zero, List.set_cons_succ, i64_w, i32_w]
            rfl
          refine pure_ (i := 7) (N := some 76) (v := ?_) (a' := ?_) #[true, true, true, true, true, true, true, true, true, false, false] rfl rfl (by kernel_rfl) (fun _ _ _ h => h) (Or.inl ⟨by rfl, ?_⟩) ?_ ?_
          rotate_left
          · intro w'
            go_simp
            with_reducible rfl
          rotate_left
          · simp only [Act.put, List.setIfInBounds_toArray, List.set_cons_zero, List.set_cons_succ, i64_w, i32_w]
            rfl
          obtain ⟨bz, hbzz⟩ : ∃ b, b = V3.heap.size := ⟨_, rfl⟩
          obtain ⟨x0, x1, x2, x3, x4, x5, x6, x7, x8, x9⟩ := box10_ kz'
          obtain ⟨z0, z1, z2, z3, z4, z5, z6, z7, z8, z9⟩ := froz_all kz'
          refine last_ (i := 9) (N := none) #[true, true, true, true, true, true, true, true, true, true, false] rfl rfl (by kernel_rfl) (by decide) (fun K hSh => ?_)
          refine skip_ (w1 := set10_ V4 V3.heap.size (.int .i64 v2) (.int .i64 r2) (.string lo2) (.string hi2) (.bool al2) (.bool false) (.slice D6 ks2.length d6) (.slice D7 vs2.length d7) (.slice D8 gs2.length d8) (.slice D9 T2.length d9)) (by rfl) rfl (by go_simp) ?_
          refine hSh.out _ _ ?_
          refine pure_ (i := 10) (N := some 18) (v := ?_) (a' := ?_) #[true, true, true, true, true, true, true, true, true, true, true] rfl rfl (by kernel_rfl) (fun _ _ _ h => h) (Or.inl ⟨by rfl, ?_⟩) ?_ ?_
          rotate_left
          · intro w'
            go_simp
            with_reducible rfl
          rotate_left
          · simp only [Act.put, List.setIfInBounds_toArray, List.set_cons_zero, List.set_cons_succ, i64_w, i32_w]
            rfl
          exact hcont (D6, d6, D7, d7, D8, d8, D9, d9, V3.heap.size, B3, q3) _ ⟨KS0.out.below (below10 HW4.out hge (.int .i64 v2) (.int .i64 r2) (.string lo2) (.string hi2) (.bool al2) (.bool false) (.slice D6 ks2.length d6) (.slice D7 vs2.length d7) (.slice D8 gs2.length d8) (.slice D9 T2.length d9)), blk10_ kz' (.int .i64 v2) (.int .i64 r2) (.string lo2) (.string hi2) (.bool al2) (.bool false) (.slice D6 ks2.length d6) (.slice D7 vs2.length d7) (.slice D8 gs2.length d8) (.slice D9 T2.length d9), (hT4.set kz' (fun k hk => any10 hk (.int .i64 v2) (.int .i64 r2) (.string lo2) (.string hi2) (.bool al2) (.bool false) (.slice D6 ks2.length d6) (.slice D7 vs2.length d7) (.slice D8 gs2.length d8) (.slice D9 T2.length d9))).rd⟩
      · skip
        refine value_ (v := .pointer (some ⟨Wb.heap.size, 0, none⟩)) (w1 := Wb.drew.alloc (.cells #[.int .i64 0, .int .i64 0, .string ⟨#[]⟩, .string ⟨#[]⟩, .bool false, .bool false, .slice none 0 0, .slice none 0 0, .slice none 0 0, .slice none 0 0] 37)) (by rfl) rfl (by go_simp) ?_
        have kz : (Wb.drew.alloc (.cells #[.int .i64 0, .int .i64 0, .string ⟨#[]⟩, .string ⟨#[]⟩, .bool false, .bool false, .slice none 0 0, .slice none 0 0, .slice none 0 0, .slice none 0 0] 37)).heap[Wb.heap.size]? = some (.cells #[.int .i64 0, .int .i64 0, .string ⟨#[]⟩, .string ⟨#[]⟩, .bool false, .bool false, .slice none 0 0, .slice none 0 0, .slice none 0 0, .slice none 0 0] 37 (0, 0)) := blk_new Wb.drew (.cells #[.int .i64 0, .int .i64 0, .string ⟨#[]⟩, .string ⟨#[]⟩, .bool false, .bool false, .slice none 0 0, .slice none 0 0, .slice none 0 0, .slice none 0 0] 37)
        have hbz : Below Wb.drew.heap.size Wb.drew (Wb.drew.alloc (.cells #[.int .i64 0, .int .i64 0, .string ⟨#[]⟩, .string ⟨#[]⟩, .bool false, .bool false, .slice none 0 0, .slice none 0 0, .slice none 0 0, .slice none 0 0] 37)) := below_alloc (Below.refl _ _) _
        refine hSh.out _ _ (SOF.out _ ((LASTK.out _ hHeld).below hbz)) ?_
        have HWz := Aside0.mk hbz
        clear hHeld hSh hbz
        intro hHeld
        refine norm_ (a' := ?_) ?_ ?_
        rotate_left
        · simp only [Act.put, List.setIfInBounds_toArray, List.set_cons_zero, List.set_cons_succ, i64_w, i32_w]
          rfl
        refine one_ (i := 3) (N := some 73) #[true, true, true, true, false, false, false, false, true, false, false] rfl rfl (by kernel_rfl) (by decide) (fun K hSh => ?_)
        refine goes_ Try.func18 (by kernel_rfl) rfl #[.slice B m.length q] (by rfl) rfl rfl (by (try simp only [List.map_toArray, List.map_cons, List.map_nil]); rfl) ?_
        refine (of_go (LASTK.out _ hHeld).L2 HQ.out HOF2.out).mono ?_
        rintro e V3 ⟨B3, q3, rfl, hC3, hq3, hb⟩
        have HW3 := Aside0.mk (below_then HWz.out HWz.out.size hb)
        have kz' := blk_below kz hb
        refine ⟨_, rfl, hSh.out _ _ (SOF.out _ ((LASTK.out _ hHeld).below hb)) ?_⟩
        clear hHeld hb hSh kz
        intro hHeld
        refine norm_ (a' := ?_) ?_ ?_
        rotate_left
        · simp only [Act.put, List.setIfInBounds_toArray, List.set_cons_zero, List.set_cons_succ, i64_w, i32_w]
          rfl
        refine one_ (i := 4) (N := some 74) #[true, true, true, true, true, false, false, false, true, false, false] rfl rfl (by kernel_rfl) (by decide) (fun K hSh => ?_)
        refine goes_ Try.func19 (by kernel_rfl) rfl #[.agg (revA v r lo hi al false (keysOf M) (valsOf M) (goneOf M) T A6 c6 A7 c7 A8 c8 A9 c9), .int .i64 nx, .slice B3 M2.length q3] (by rfl) rfl rfl (by (try simp only [List.map_toArray, List.map_cons, List.map_nil]); rfl) ?_
        refine (apply_goR (LASTK.out _ hHeld).V hC3 hq3 HAP.out).mono ?_
        rintro e V4 ⟨D6, d6, D7, d7, D8, d8, D9, d9, rfl, hT4, hb⟩
        have HW4 := Aside0.mk (below_then HW3.out HW3.out.size hb)
        have hge : Wb.drew.heap.size ≤ Wb.heap.size := Nat.le_refl _
        have kz := kz'
        clear kz'
        have kz' := blk_below kz hb
        refine ⟨_, rfl, hSh.out _ _ (SOF.out _ ((LASTK.out _ hHeld).below hb)) ?_⟩
        clear hHeld hb hSh kz
        intro hHeld
        refine norm_ (a' := ?_) ?_ ?_
        rotate_left
        · simp only [Act.put, List.setIfInBounds_toArray, List.set_cons_zero, List.set_cons_succ, i64_w, i32_w]
          rfl
        refine pure_ (i := 5) (N := some 69) (v := ?_) (a' := ?_) #[true, true, true, true, true, true, false, false, true, false, false] rfl rfl (by kernel_rfl) (fun _ _ _ h => h) (Or.inl ⟨by rfl, ?_⟩) ?_ ?_
        rotate_left
        · intro w'
          go_simp
          with_reducible rfl
        rotate_left
        · simp only [Act.put, List.setIfInBounds_toArray, List.set_cons_zero, List.set_cons_succ, i64_w, i32_w]
          rfl
        refine pure_ (i := 6) (N := some 75) (v := ?_) (a' := ?_) #[true, true, true, true, true, true, true, false, true, false, false] rfl rfl (by kernel_rfl) (fun _ _ _ h => h) (Or.inl ⟨by rfl, ?_⟩) ?_ ?_
        rotate_left
        · intro w'
          go_simp
          with_reducible rfl
        rotate_left
        · simp only [Act.put, List.setIfInBounds_toArray, List.set_cons_zero, List.set_cons_succ, i64_w, i32_w]
          rfl
        refine pure_ (i := 7) (N := some 76) (v := ?_) (a' := ?_) #[true, true, true, true, true, true, true, true, true, false, false] rfl rfl (by kernel_rfl) (fun _ _ _ h => h) (Or.inl ⟨by rfl, ?_⟩) ?_ ?_
        rotate_left
        · intro w'
          go_simp
          with_reducible rfl
        rotate_left
        · simp only [Act.put, List.setIfInBounds_toArray, List.set_cons_zero, List.set_cons_succ, i64_w, i32_w]
          rfl
        obtain ⟨bz, hbzz⟩ : ∃ b, b = Wb.heap.size := ⟨_, rfl⟩
        obtain ⟨x0, x1, x2, x3, x4, x5, x6, x7, x8, x9⟩ := box10_ kz'
        obtain ⟨z0, z1, z2, z3, z4, z5, z6, z7, z8, z9⟩ := froz_all kz'
        refine last_ (i := 9) (N := none) #[true, true, true, true, true, true, true, true, true, true, false] rfl rfl (by kernel_rfl) (by decide) (fun K hSh => ?_)
        refine skip_ (w1 := set10_ V4 Wb.heap.size (.int .i64 v2) (.int .i64 r2) (.string lo2) (.string hi2) (.bool al2) (.bool false) (.slice D6 ks2.length d6) (.slice D7 vs2.length d7) (.slice D8 gs2.length d8) (.slice D9 T2.length d9)) (by rfl) rfl (by go_simp) ?_
        refine hSh.out _ _ ?_
        refine pure_ (i := 10) (N := some 18) (v := ?_) (a' := ?_) #[true, true, true, true, true, true, true, true, true, true, true] rfl rfl (by kernel_rfl) (fun _ _ _ h => h) (Or.inl ⟨by rfl, ?_⟩) ?_ ?_
        rotate_left
        · intro w'
          go_simp
          with_reducible rfl
        rotate_left
        · simp only [Act.put, List.setIfInBounds_toArray, List.set_cons_zero, List.set_cons_succ, i64_w, i32_w]
          rfl
        exact hcont (D6, d6, D7, d7, D8, d8, D9, d9, Wb.heap.size, B3, q3) _ ⟨KS0.out.below (below10 HW4.out hge (.int .i64 v2) (.int .i64 r2) (.string lo2) (.string hi2) (.bool al2) (.bool false) (.slice D6 ks2.length d6) (.slice D7 vs2.length d7) (.slice D8 gs2.length d8) (.slice D9 T2.length d9)), blk10_ kz' (.int .i64 v2) (.int .i64 r2) (.string lo2) (.string hi2) (.bool al2) (.bool false) (.slice D6 ks2.length d6) (.slice D7 vs2.length d7) (.slice D8 gs2.length d8) (.slice D9 T2.length d9), (hT4.set kz' (fun k hk => any10 hk (.int .i64 v2) (.int .i64 r2) (.string lo2) (.string hi2) (.bool al2) (.bool false) (.slice D6 ks2.length d6) (.slice D7 vs2.length d7) (.slice D8 gs2.length d8) (.slice D9 T2.length d9))).rd⟩
    rintro ⟨D6, d6, D7, d7, D8, d8, D9, d9, b17, B3, q3⟩ X1 ⟨hk1, hk2, hT6⟩
    simp only at hk2 hT6
    have K6 := Aside0.mk hk1
    have HK := Aside0.mk hk2
    simp only [putAll]
    refine norm_ (a' := ?_) ?_ ?_
    rotate_left
    · simp only [Act.put, List.setIfInBounds_toArray, List.set_cons_zero, List.set_cons_succ, i64_w, i32_w]
      rfl
    refine done_ (by kernel_rfl) ?_
    clear hk1 hk2 K0 KS SOF LASTK
    obtain ⟨s0, s1, s2⟩ := box3_ K6.out.ki
    go_wp2_with fail
    refine (may_go K6.out.L2 HQ.out HBM2.out).mono ?_
    rintro e X2 ⟨rfl, hb⟩
    have K7 := Aside0.mk (K6.out.below hb)
    have hT7 := hT6.below hb
    have kt7 := blk_below HK.out hb
    clear hb K6 hT6 HK s0 s1 s2
    have kx := K7.out.kr
    rw [HRV.out] at kx
    rcases HCASE.out with ⟨rfl, rfl, R, hRA, hSR⟩ | ⟨rfl, rfl, hSZ⟩
    · have HRAP := Aside0.mk hRA
      have HSAM := Aside0.mk hSR
      clear hRA hSR kx
      go_wp2_with fail
      refine (tomb_go v X2).mono ?_
      rintro e X3 ⟨E6, e6, E7, e7, E8, e8, E9, e9, rfl, hE3, hb⟩
      have K8 := Aside0.mk (K7.out.below hb)
      have hT8 := hT7.below hb
      have kt8 := blk_below kt7 hb
      clear hb K7 hT7 kt7
      go_wp2_with fail
      refine (apply_go (m := []) (B := none) (q := 0) hE3 (Kd.C_nil k114 X3) (Nat.le_refl _) (ev_dead v nx)).mono ?_
      rintro e X4 ⟨G6, g6, G7, g7, G8, g8, G9, g9, rfl, hG4, hb⟩
      have K9 := Aside0.mk (K8.out.below hb)
      have hT9 := hT8.below hb
      have kt9 := blk_below kt8 hb
      clear hb K8 hT8 kt8 hE3 hG4
      obtain ⟨X5, hX5⟩ : ∃ X5 : World, X5 = X4.alloc (.cells (#[.int .i64 0, .int .i64 0, .string ⟨#[]⟩, .string ⟨#[]⟩, .bool false, .bool false, .slice G6 0 g6, .slice G7 0 g7, .slice G8 0 g8, .slice G9 0 g9] : Array Value) 37) := ⟨_, rfl⟩
      have hb5 : Below X4.heap.size X4 X5 := hX5 ▸ below_alloc (Below.refl _ _) _
      have KX := Aside0.mk (show (KA W6.heap.size Wa.heap.size w.heap.size RV (#[.int .i64 v, .int .i64 r, .string lo, .string hi, .bool al, .bool false, .slice A l.length c] : Array Value) lo hi al A l B m (keysOf M) (valsOf M) (goneOf M) T A6 c6 A7 c7 A8 c8 A9 c9 w (X5.drewN 1) ∧ (X5.drewN 1).heap[b17]? = some (.cells #[.int .i64 v2, .int .i64 r2, .string lo2, .string hi2, .bool al2, .bool false, .slice D6 ks2.length d6, .slice D7 vs2.length d7, .slice D8 gs2.length d8, .slice D9 T2.length d9] 37 (0, 0)) ∧ RevAt (X5.drewN 1) ks2 vs2 gs2 T2 D6 d6 D7 d7 D8 d8 D9 d9) from ⟨K9.out.below (pw_below_drewN hb5 1), blk_below kt9 (pw_below_drewN hb5 1), hT9.below (pw_below_drewN hb5 1)⟩)
      have HX5 := Aside0.mk hX5
      clear hX5 hb5 K9 hT9 kt9
      have SOF := Aside0.mk (show ∀ w', (KA W6.heap.size Wa.heap.size w.heap.size RV (#[.int .i64 v, .int .i64 r, .string lo, .string hi, .bool al, .bool false, .slice A l.length c] : Array Value) lo hi al A l B m (keysOf M) (valsOf M) (goneOf M) T A6 c6 A7 c7 A8 c8 A9 c9 w w' ∧ w'.heap[b17]? = some (.cells #[.int .i64 v2, .int .i64 r2, .string lo2, .string hi2, .bool al2, .bool false, .slice D6 ks2.length d6, .slice D7 vs2.length d7, .slice D8 gs2.length d8, .slice D9 T2.length d9] 37 (0, 0)) ∧ RevAt w' ks2 vs2 gs2 T2 D6 d6 D7 d7 D8 d8 D9 d9) → (w'.cell? ⟨b17, 0, none⟩ = some (.int .i64 v2) ∧ w'.cell? ⟨b17, 1, none⟩ = some (.int .i64 r2) ∧ w'.cell? ⟨b17, 2, none⟩ = some (.string lo2) ∧ w'.cell? ⟨b17, 3, none⟩ = some (.string hi2) ∧ w'.cell? ⟨b17, 4, none⟩ = some (.bool al2) ∧ w'.cell? ⟨b17, 5, none⟩ = some (.bool false) ∧ w'.cell? ⟨b17, 6, none⟩ = some (.slice D6 ks2.length d6) ∧ w'.cell? ⟨b17, 7, none⟩ = some (.slice D7 vs2.length d7) ∧ w'.cell? ⟨b17, 8, none⟩ = some (.slice D8 gs2.length d8) ∧ w'.cell? ⟨b17, 9, none⟩ = some (.slice D9 T2.length d9) ∧ w'.cell? ⟨W6.heap.size, 0, none⟩ = some (.int .i64 v) ∧ w'.cell? ⟨W6.heap.size, 1, none⟩ = some (.int .i64 r) ∧ w'.cell? ⟨W6.heap.size, 2, none⟩ = some (.string lo) ∧ w'.cell? ⟨W6.heap.size, 3, none⟩ = some (.string hi) ∧ w'.cell? ⟨W6.heap.size, 4, none⟩ = some (.bool al) ∧ w'.cell? ⟨W6.heap.size, 5, none⟩ = some (.bool false) ∧ w'.cell? ⟨W6.heap.size, 6, none⟩ = some (.slice A l.length c) ∧ w'.cell? ⟨Wa.heap.size, 0, none⟩ = some (.int .i64 v) ∧ w'.cell? ⟨Wa.heap.size, 1, none⟩ = some (.int .i64 r) ∧ w'.cell? ⟨Wa.heap.size, 2, none⟩ = some (.string lo) ∧ w'.cell? ⟨Wa.heap.size, 3, none⟩ = some (.string hi) ∧ w'.cell? ⟨Wa.heap.size, 4, none⟩ = some (.bool al) ∧ w'.cell? ⟨Wa.heap.size, 5, none⟩ = some (.bool false) ∧ w'.cell? ⟨Wa.heap.size, 6, none⟩ = some (.slice A6 (keysOf M).length c6) ∧ w'.cell? ⟨Wa.heap.size, 7, none⟩ = some (.slice A7 (valsOf M).length c7) ∧ w'.cell? ⟨Wa.heap.size, 8, none⟩ = some (.slice A8 (goneOf M).length c8) ∧ w'.cell? ⟨Wa.heap.size, 9, none⟩ = some (.slice A9 T.length c9) ∧ (KA W6.heap.size Wa.heap.size w.heap.size RV (#[.int .i64 v, .int .i64 r, .string lo, .string hi, .bool al, .bool false, .slice A l.length c] : Array Value) lo hi al A l B m (keysOf M) (valsOf M) (goneOf M) T A6 c6 A7 c7 A8 c8 A9 c9 w w' ∧ w'.heap[b17]? = some (.cells #[.int .i64 v2, .int .i64 r2, .string lo2, .string hi2, .bool al2, .bool false, .slice D6 ks2.length d6, .slice D7 vs2.length d7, .slice D8 gs2.length d8, .slice D9 T2.length d9] 37 (0, 0)) ∧ RevAt w' ks2 vs2 gs2 T2 D6 d6 D7 d7 D8 d8 D9 d9)) from fun w' hk => by
        have kx := hk.1.kr
        rw [HRV.out] at kx
        obtain ⟨x0, x1, x2, x3, x4, x5, x6, x7, x8, x9⟩ := box10_ kx
        obtain ⟨y0, y1, y2, y3, y4, y5, y6⟩ := box7_ hk.1.kf
        obtain ⟨t0, t1, t2, t3, t4, t5, t6, t7, t8, t9⟩ := box10_ hk.2.1
        exact ⟨t0, t1, t2, t3, t4, t5, t6, t7, t8, t9, y0, y1, y2, y3, y4, y5, y6, x0, x1, x2, x3, x4, x5, x6, x7, x8, x9, hk⟩)
      have LASTK := Aside0.mk (show ∀ w', (w'.cell? ⟨b17, 0, none⟩ = some (.int .i64 v2) ∧ w'.cell? ⟨b17, 1, none⟩ = some (.int .i64 r2) ∧ w'.cell? ⟨b17, 2, none⟩ = some (.string lo2) ∧ w'.cell? ⟨b17, 3, none⟩ = some (.string hi2) ∧ w'.cell? ⟨b17, 4, none⟩ = some (.bool al2) ∧ w'.cell? ⟨b17, 5, none⟩ = some (.bool false) ∧ w'.cell? ⟨b17, 6, none⟩ = some (.slice D6 ks2.length d6) ∧ w'.cell? ⟨b17, 7, none⟩ = some (.slice D7 vs2.length d7) ∧ w'.cell? ⟨b17, 8, none⟩ = some (.slice D8 gs2.length d8) ∧ w'.cell? ⟨b17, 9, none⟩ = some (.slice D9 T2.length d9) ∧ w'.cell? ⟨W6.heap.size, 0, none⟩ = some (.int .i64 v) ∧ w'.cell? ⟨W6.heap.size, 1, none⟩ = some (.int .i64 r) ∧ w'.cell? ⟨W6.heap.size, 2, none⟩ = some (.string lo) ∧ w'.cell? ⟨W6.heap.size, 3, none⟩ = some (.string hi) ∧ w'.cell? ⟨W6.heap.size, 4, none⟩ = some (.bool al) ∧ w'.cell? ⟨W6.heap.size, 5, none⟩ = some (.bool false) ∧ w'.cell? ⟨W6.heap.size, 6, none⟩ = some (.slice A l.length c) ∧ w'.cell? ⟨Wa.heap.size, 0, none⟩ = some (.int .i64 v) ∧ w'.cell? ⟨Wa.heap.size, 1, none⟩ = some (.int .i64 r) ∧ w'.cell? ⟨Wa.heap.size, 2, none⟩ = some (.string lo) ∧ w'.cell? ⟨Wa.heap.size, 3, none⟩ = some (.string hi) ∧ w'.cell? ⟨Wa.heap.size, 4, none⟩ = some (.bool al) ∧ w'.cell? ⟨Wa.heap.size, 5, none⟩ = some (.bool false) ∧ w'.cell? ⟨Wa.heap.size, 6, none⟩ = some (.slice A6 (keysOf M).length c6) ∧ w'.cell? ⟨Wa.heap.size, 7, none⟩ = some (.slice A7 (valsOf M).length c7) ∧ w'.cell? ⟨Wa.heap.size, 8, none⟩ = some (.slice A8 (goneOf M).length c8) ∧ w'.cell? ⟨Wa.heap.size, 9, none⟩ = some (.slice A9 T.length c9) ∧ (KA W6.heap.size Wa.heap.size w.heap.size RV (#[.int .i64 v, .int .i64 r, .string lo, .string hi, .bool al, .bool false, .slice A l.length c] : Array Value) lo hi al A l B m (keysOf M) (valsOf M) (goneOf M) T A6 c6 A7 c7 A8 c8 A9 c9 w w' ∧ w'.heap[b17]? = some (.cells #[.int .i64 v2, .int .i64 r2, .string lo2, .string hi2, .bool al2, .bool false, .slice D6 ks2.length d6, .slice D7 vs2.length d7, .slice D8 gs2.length d8, .slice D9 T2.length d9] 37 (0, 0)) ∧ RevAt w' ks2 vs2 gs2 T2 D6 d6 D7 d7 D8 d8 D9 d9)) → (KA W6.heap.size Wa.heap.size w.heap.size RV (#[.int .i64 v, .int .i64 r, .string lo, .string hi, .bool al, .bool false, .slice A l.length c] : Array Value) lo hi al A l B m (keysOf M) (valsOf M) (goneOf M) T A6 c6 A7 c7 A8 c8 A9 c9 w w' ∧ w'.heap[b17]? = some (.cells #[.int .i64 v2, .int .i64 r2, .string lo2, .string hi2, .bool al2, .bool false, .slice D6 ks2.length d6, .slice D7 vs2.length d7, .slice D8 gs2.length d8, .slice D9 T2.length d9] 37 (0, 0)) ∧ RevAt w' ks2 vs2 gs2 T2 D6 d6 D7 d7 D8 d8 D9 d9) from fun w' h => h.2.2.2.2.2.2.2.2.2.2.2.2.2.2.2.2.2.2.2.2.2.2.2.2.2.2.2)
      have NEXT := Aside0.mk (show ∀ w' w2, Below w'.heap.size w' w2 → (KA W6.heap.size Wa.heap.size w.heap.size RV (#[.int .i64 v, .int .i64 r, .string lo, .string hi, .bool al, .bool false, .slice A l.length c] : Array Value) lo hi al A l B m (keysOf M) (valsOf M) (goneOf M) T A6 c6 A7 c7 A8 c8 A9 c9 w w' ∧ w'.heap[b17]? = some (.cells #[.int .i64 v2, .int .i64 r2, .string lo2, .string hi2, .bool al2, .bool false, .slice D6 ks2.length d6, .slice D7 vs2.length d7, .slice D8 gs2.length d8, .slice D9 T2.length d9] 37 (0, 0)) ∧ RevAt w' ks2 vs2 gs2 T2 D6 d6 D7 d7 D8 d8 D9 d9) → (KA W6.heap.size Wa.heap.size w.heap.size RV (#[.int .i64 v, .int .i64 r, .string lo, .string hi, .bool al, .bool false, .slice A l.length c] : Array Value) lo hi al A l B m (keysOf M) (valsOf M) (goneOf M) T A6 c6 A7 c7 A8 c8 A9 c9 w w2 ∧ w2.heap[b17]? = some (.cells #[.int .i64 v2, .int .i64 r2, .string lo2, .string hi2, .bool al2, .bool false, .slice D6 ks2.length d6, .slice D7 vs2.length d7, .slice D8 gs2.length d8, .slice D9 T2.length d9] 37 (0, 0)) ∧ RevAt w2 ks2 vs2 gs2 T2 D6 d6 D7 d7 D8 d8 D9 d9) from fun w' w2 hb h => ⟨h.1.below hb, blk_below h.2.1 hb, h.2.2.below hb⟩)
      go_upto_region 11 with fail
      rw [← HX5.out]
      clear HX5
      have KS := Aside0.mk (SOF.out _ KX.out)
      refine start_ (n := 22) (S := fun w' => w'.cell? ⟨b17, 0, none⟩ = some (.int .i64 v2) ∧ w'.cell? ⟨b17, 1, none⟩ = some (.int .i64 r2) ∧ w'.cell? ⟨b17, 2, none⟩ = some (.string lo2) ∧ w'.cell? ⟨b17, 3, none⟩ = some (.string hi2) ∧ w'.cell? ⟨b17, 4, none⟩ = some (.bool al2) ∧ w'.cell? ⟨b17, 5, none⟩ = some (.bool false) ∧ w'.cell? ⟨b17, 6, none⟩ = some (.slice D6 ks2.length d6) ∧ w'.cell? ⟨b17, 7, none⟩ = some (.slice D7 vs2.length d7) ∧ w'.cell? ⟨b17, 8, none⟩ = some (.slice D8 gs2.length d8) ∧ w'.cell? ⟨b17, 9, none⟩ = some (.slice D9 T2.length d9) ∧ w'.cell? ⟨W6.heap.size, 0, none⟩ = some (.int .i64 v) ∧ w'.cell? ⟨W6.heap.size, 1, none⟩ = some (.int .i64 r) ∧ w'.cell? ⟨W6.heap.size, 2, none⟩ = some (.string lo) ∧ w'.cell? ⟨W6.heap.size, 3, none⟩ = some (.string hi) ∧ w'.cell? ⟨W6.heap.size, 4, none⟩ = some (.bool al) ∧ w'.cell? ⟨W6.heap.size, 5, none⟩ = some (.bool false) ∧ w'.cell? ⟨W6.heap.size, 6, none⟩ = some (.slice A l.length c) ∧ w'.cell? ⟨Wa.heap.size, 0, none⟩ = some (.int .i64 v) ∧ w'.cell? ⟨Wa.heap.size, 1, none⟩ = some (.int .i64 r) ∧ w'.cell? ⟨Wa.heap.size, 2, none⟩ = some (.string lo) ∧ w'.cell? ⟨Wa.heap.size, 3, none⟩ = some (.string hi) ∧ w'.cell? ⟨Wa.heap.size, 4, none⟩ = some (.bool al) ∧ w'.cell? ⟨Wa.heap.size, 5, none⟩ = some (.bool false) ∧ w'.cell? ⟨Wa.heap.size, 6, none⟩ = some (.slice A6 (keysOf M).length c6) ∧ w'.cell? ⟨Wa.heap.size, 7, none⟩ = some (.slice A7 (valsOf M).length c7) ∧ w'.cell? ⟨Wa.heap.size, 8, none⟩ = some (.slice A8 (goneOf M).length c8) ∧ w'.cell? ⟨Wa.heap.size, 9, none⟩ = some (.slice A9 T.length c9) ∧ (KA W6.heap.size Wa.heap.size w.heap.size RV (#[.int .i64 v, .int .i64 r, .string lo, .string hi, .bool al, .bool false, .slice A l.length c] : Array Value) lo hi al A l B m (keysOf M) (valsOf M) (goneOf M) T A6 c6 A7 c7 A8 c8 A9 c9 w w' ∧ w'.heap[b17]? = some (.cells #[.int .i64 v2, .int .i64 r2, .string lo2, .string hi2, .bool al2, .bool false, .slice D6 ks2.length d6, .slice D7 vs2.length d7, .slice D8 gs2.length d8, .slice D9 T2.length d9] 37 (0, 0)) ∧ RevAt w' ks2 vs2 gs2 T2 D6 d6 D7 d7 D8 d8 D9 d9)) (ds := []) #[false, false, false, false, false, false, false, false, false, false, false, false, false, false, false, false, false, false, false, false, false, false] rfl rfl rfl (KS.out) ?_
      intro hHeld
      refine pure_ (i := 0) (N := some 102) (v := ?_) (a' := ?_) #[true, false, false, false, false, false, false, false, false, false, false, false, false, false, false, false, false, false, false, false, false, false] rfl rfl (by kernel_rfl) (fun _ _ _ h => h) (Or.inl ⟨by rfl, ?_⟩) ?_ ?_
      rotate_left
      · intro w'
        go_simp
        with_reducible rfl
      rotate_left
      · simp only [Act.put, List.setIfInBounds_toArray, List.set_cons_zero, List.set_cons_succ, i64_w, i32_w]
        rfl
      refine pure_ (i := 1) (N := some 103) (v := ?_) (a' := ?_) #[true, true, false, false, false, false, false, false, false, false, false, false, false, false, false, false, false, false, false, false, false, false] rfl rfl (by kernel_rfl) (fun _ _ _ h => h) (Or.inl ⟨by rfl, ?_⟩) ?_ ?_
      rotate_left
      · intro w'
        go_simp
        with_reducible rfl
      rotate_left
      · simp only [Act.put, List.setIfInBounds_toArray, List.set_cons_zero, List.set_cons_succ, i64_w, i32_w]
        rfl
      refine pure_ (i := 2) (N := some 104) (v := ?_) (a' := ?_) #[true, true, true, false, false, false, false, false, false, false, false, false, false, false, false, false, false, false, false, false, false, false] rfl rfl (by kernel_rfl) (fun _ _ _ h => h) (Or.inl ⟨by rfl, ?_⟩) ?_ ?_
      rotate_left
      · intro w'
        go_simp
        with_reducible rfl
      rotate_left
      · simp only [Act.put, List.setIfInBounds_toArray, List.set_cons_zero, List.set_cons_succ, i64_w, i32_w]
        rfl
      refine take_ (i := 3) (N := some 105) (v := ?_) (a' := ?_) #[true, true, true, true, false, false, false, false, false, false, false, false, false, false, false, false, false, false, false, false, false, false] rfl rfl (by kernel_rfl) (fun _ _ _ h => h) (Or.inl ⟨by rfl, ?_⟩) hHeld ?_ ?_
      rotate_left
      · rintro w' hHeld'
        have hHeld'' := hHeld'
        (try obtain ⟨r0_, r1_⟩ := hHeld')
        (try obtain ⟨r1_, r2_⟩ := r1_)
        (try obtain ⟨r2_, r3_⟩ := r2_)
        (try obtain ⟨r3_, r4_⟩ := r3_)
        (try obtain ⟨r4_, r5_⟩ := r4_)
        (try obtain ⟨r5_, r6_⟩ := r5_)
        (try obtain ⟨r6_, r7_⟩ := r6_)
        (try obtain ⟨r7_, r8_⟩ := r7_)
        (try obtain ⟨r8_, r9_⟩ := r8_)
        (try obtain ⟨r9_, r10_⟩ := r9_)
        (try obtain ⟨r10_, r11_⟩ := r10_)
        (try obtain ⟨r11_, r12_⟩ := r11_)
        (try obtain ⟨r12_, r13_⟩ := r12_)
        (try obtain ⟨r13_, r14_⟩ := r13_)
        (try obtain ⟨r14_, r15_⟩ := r14_)
        (try obtain ⟨r15_, r16_⟩ := r15_)
        (try obtain ⟨r16_, r17_⟩ := r16_)
        (try obtain ⟨r17_, r18_⟩ := r17_)
        (try obtain ⟨r18_, r19_⟩ := r18_)
        (try obtain ⟨r19_, r20_⟩ := r19_)
        (try obtain ⟨r20_, r21_⟩ := r20_)
        (try obtain ⟨r21_, r22_⟩ := r21_)
        (try obtain ⟨r22_, r23_⟩ := r22_)
        (try obtain ⟨r23_, r24_⟩ := r23_)
        (try obtain ⟨r24_, r25_⟩ := r24_)
        (try obtain ⟨r25_, r26_⟩ := r25_)
        (try obtain ⟨r26_, r27_⟩ := r26_)
        (try obtain ⟨r27_, r28_⟩ := r27_)
        (try obtain ⟨r28_, r29_⟩ := r28_)
        (try obtain ⟨r29_, r30_⟩ := r29_)
        (try obtain ⟨r7_, r8_⟩ := r7_)
        (try obtain ⟨r8_, r9_⟩ := r8_)
        go_simp
        with_reducible rfl
      rotate_left
      · simp only [Act.put, List.setIfInBounds_toArray, List.set_cons_zero, List.set_cons_succ, i64_w, i32_w]
        rfl
      refine take_ (i := 4) (N := some 106) (v := ?_) (a' := ?_) #[true, true, true, true, true, false, false, false, false, false, false, false, false, false, false, false, false, false, false, false, false, false] rfl rfl (by kernel_rfl) (fun _ _ _ h => h) (Or.inl ⟨by rfl, ?_⟩) hHeld ?_ ?_
      rotate_left
      · rintro w' hHeld'
        have hHeld'' := hHeld'
        (try obtain ⟨r0_, r1_⟩ := hHeld')
        (try obtain ⟨r1_, r2_⟩ := r1_)
        (try obtain ⟨r2_, r3_⟩ := r2_)
        (try obtain ⟨r3_, r4_⟩ := r3_)
        (try obtain ⟨r4_, r5_⟩ := r4_)
        (try obtain ⟨r5_, r6_⟩ := r5_)
        (try obtain ⟨r6_, r7_⟩ := r6_)
        (try obtain ⟨r7_, r8_⟩ := r7_)
        (try obtain ⟨r8_, r9_⟩ := r8_)
        (try obtain ⟨r9_, r10_⟩ := r9_)
        (try obtain ⟨r10_, r11_⟩ := r10_)
        (try obtain ⟨r11_, r12_⟩ := r11_)
        (try obtain ⟨r12_, r13_⟩ := r12_)
        (try obtain ⟨r13_, r14_⟩ := r13_)
        (try obtain ⟨r14_, r15_⟩ := r14_)
        (try obtain ⟨r15_, r16_⟩ := r15_)
        (try obtain ⟨r16_, r17_⟩ := r16_)
        (try obtain ⟨r17_, r18_⟩ := r17_)
        (try obtain ⟨r18_, r19_⟩ := r18_)
        (try obtain ⟨r19_, r20_⟩ := r19_)
        (try obtain ⟨r20_, r21_⟩ := r20_)
        (try obtain ⟨r21_, r22_⟩ := r21_)
        (try obtain ⟨r22_, r23_⟩ := r22_)
        (try obtain ⟨r23_, r24_⟩ := r23_)
        (try obtain ⟨r24_, r25_⟩ := r24_)
        (try obtain ⟨r25_, r26_⟩ := r25_)
        (try obtain ⟨r26_, r27_⟩ := r26_)
        (try obtain ⟨r27_, r28_⟩ := r27_)
        (try obtain ⟨r28_, r29_⟩ := r28_)
        (try obtain ⟨r29_, r30_⟩ := r29_)
        (try obtain ⟨r7_, r8_⟩ := r7_)
        (try obtain ⟨r8_, r9_⟩ := r8_)
        go_simp
        with_reducible rfl
      rotate_left
      · simp only [Act.put, List.setIfInBounds_toArray, List.set_cons_zero, List.set_cons_succ, i64_w, i32_w]
        rfl
      refine pure_ (i := 5) (N := some 107) (v := ?_) (a' := ?_) #[true, true, true, true, true, true, false, false, false, false, false, false, false, false, false, false, false, false, false, false, false, false] rfl rfl (by kernel_rfl) (fun _ _ _ h => h) (Or.inl ⟨by rfl, ?_⟩) ?_ ?_
      rotate_left
      · intro w'
        go_simp
        with_reducible rfl
      rotate_left
      · simp only [Act.put, List.setIfInBounds_toArray, List.set_cons_zero, List.set_cons_succ, i64_w, i32_w]
        rfl
      refine pure_ (i := 6) (N := some 108) (v := ?_) (a' := ?_) #[true, true, true, true, true, true, true, false, false, false, false, false, false, false, false, false, false, false, false, false, false, false] rfl rfl (by kernel_rfl) (fun _ _ _ h => h) (Or.inl ⟨by rfl, ?_⟩) ?_ ?_
      rotate_left
      · intro w'
        go_simp
        with_reducible rfl
      rotate_left
      · simp only [Act.put, List.setIfInBounds_toArray, List.set_cons_zero, List.set_cons_succ, i64_w, i32_w]
        rfl
      refine one_ (i := 7) (N := some 109) #[true, true, true, true, true, true, true, true, false, false, false, false, false, false, false, false, false, false, false, false, false, false] rfl rfl (by kernel_rfl) (by decide) (fun K hSh => ?_)
      refine goes_ Try.func23 (by kernel_rfl) rfl #[.agg (refA v r lo hi al false A l.length c), .int .i64 nx, .slice B m.length q] (by rfl) rfl rfl (by (try simp only [List.map_toArray, List.map_cons, List.map_nil]); rfl) ?_
      refine (rapply_go (LASTK.out _ hHeld).1.L HC.out (LASTK.out _ hHeld).1.L2 HQ.out HRAP.out).mono ?_
      rintro e Y7 ⟨C7, p7, rfl, hC7, hp7, hb⟩
      refine ⟨_, rfl, hSh.out _ _ (SOF.out _ (NEXT.out _ _ hb (LASTK.out _ hHeld))) ?_⟩
      clear hHeld hb hSh
      intro hHeld
      refine norm_ (a' := ?_) ?_ ?_
      rotate_left
      · simp only [Act.put, List.setIfInBounds_toArray, List.set_cons_zero, List.set_cons_succ, i64_w, i32_w]
        rfl
      refine one_ (i := 8) (N := some 110) #[true, true, true, true, true, true, true, true, true, false, false, false, false, false, false, false, false, false, false, false, false, false] rfl rfl (by kernel_rfl) (by decide) (fun K hSh => ?_)
      refine goes_ Try.func21 (by kernel_rfl) rfl #[.agg (revA v2 r2 lo2 hi2 al2 false ks2 vs2 gs2 T2 D6 d6 D7 d7 D8 d8 D9 d9), .agg (refA v2 r2 lo hi al false C7 R.length p7)] (by rfl) rfl rfl (by (try simp only [List.map_toArray, List.map_cons, List.map_nil]); rfl) ?_
      refine (same_go (LASTK.out _ hHeld).2.2 hC7 hp7 HSAM.out).mono ?_
      rintro e Y8 ⟨rfl, hb⟩
      refine ⟨_, rfl, hSh.out _ _ (SOF.out _ (NEXT.out _ _ hb (LASTK.out _ hHeld))) ?_⟩
      clear hHeld hb hSh
      intro hHeld
      refine norm_ (a' := ?_) ?_ ?_
      rotate_left
      · simp only [Act.put, List.setIfInBounds_toArray, List.set_cons_zero, List.set_cons_succ, i64_w, i32_w]
        rfl
      refine pure_ (i := 9) (N := some 111) (v := ?_) (a' := ?_) #[true, true, true, true, true, true, true, true, true, true, false, false, false, false, false, false, false, false, false, false, false, false] rfl rfl (by kernel_rfl) (fun _ _ _ h => h) (Or.inl ⟨by rfl, ?_⟩) ?_ ?_
      rotate_left
      · intro w'
        go_simp
        with_reducible rfl
      rotate_left
      · simp only [Act.put, List.setIfInBounds_toArray, List.set_cons_zero, List.set_cons_succ, i64_w, i32_w]
        rfl
      refine pure_ (i := 10) (N := some 112) (v := ?_) (a' := ?_) #[true, true, true, true, true, true, true, true, true, true, true, false, false, false, false, false, false, false, false, false, false, false] rfl rfl (by kernel_rfl) (fun _ _ _ h => h) (Or.inl ⟨by rfl, ?_⟩) ?_ ?_
      rotate_left
      · intro w'
        go_simp
        with_reducible rfl
      rotate_left
      · simp only [Act.put, List.setIfInBounds_toArray, List.set_cons_zero, List.set_cons_succ, i64_w, i32_w]
        rfl
      refine pure_ (i := 11) (N := some 113) (v := ?_) (a' := ?_) #[true, true, true, true, true, true, true, true, true, true, true, true, false, false, false, false, false, false, false, false, false, false] rfl rfl (by kernel_rfl) (fun _ _ _ h => h) (Or.inl ⟨by rfl, ?_⟩) ?_ ?_
      rotate_left
      · intro w'
        go_simp
        with_reducible rfl
      rotate_left
      · simp only [Act.put, List.setIfInBounds_toArray, List.set_cons_zero, List.set_cons_succ, i64_w, i32_w]
        rfl
      refine take_ (i := 12) (N := some 114) (v := ?_) (a' := ?_) #[true, true, true, true, true, true, true, true, true, true, true, true, true, false, false, false, false, false, false, false, false, false] rfl rfl (by kernel_rfl) (fun _ _ _ h => h) (Or.inl ⟨by rfl, ?_⟩) hHeld ?_ ?_
      rotate_left
      · rintro w' hHeld'
        have hHeld'' := hHeld'
        (try obtain ⟨r0_, r1_⟩ := hHeld')
        (try obtain ⟨r1_, r2_⟩ := r1_)
        (try obtain ⟨r2_, r3_⟩ := r2_)
        (try obtain ⟨r3_, r4_⟩ := r3_)
        (try obtain ⟨r4_, r5_⟩ := r4_)
        (try obtain ⟨r5_, r6_⟩ := r5_)
        (try obtain ⟨r6_, r7_⟩ := r6_)
        (try obtain ⟨r7_, r8_⟩ := r7_)
        (try obtain ⟨r8_, r9_⟩ := r8_)
        (try obtain ⟨r9_, r10_⟩ := r9_)
        (try obtain ⟨r10_, r11_⟩ := r10_)
        (try obtain ⟨r11_, r12_⟩ := r11_)
        (try obtain ⟨r12_, r13_⟩ := r12_)
        (try obtain ⟨r13_, r14_⟩ := r13_)
        (try obtain ⟨r14_, r15_⟩ := r14_)
        (try obtain ⟨r15_, r16_⟩ := r15_)
        (try obtain ⟨r16_, r17_⟩ := r16_)
        (try obtain ⟨r17_, r18_⟩ := r17_)
        (try obtain ⟨r18_, r19_⟩ := r18_)
        (try obtain ⟨r19_, r20_⟩ := r19_)
        (try obtain ⟨r20_, r21_⟩ := r20_)
        (try obtain ⟨r21_, r22_⟩ := r21_)
        (try obtain ⟨r22_, r23_⟩ := r22_)
        (try obtain ⟨r23_, r24_⟩ := r23_)
        (try obtain ⟨r24_, r25_⟩ := r24_)
        (try obtain ⟨r25_, r26_⟩ := r25_)
        (try obtain ⟨r26_, r27_⟩ := r26_)
        (try obtain ⟨r27_, r28_⟩ := r27_)
        (try obtain ⟨r28_, r29_⟩ := r28_)
        (try obtain ⟨r29_, r30_⟩ := r29_)
        (try obtain ⟨r7_, r8_⟩ := r7_)
        (try obtain ⟨r8_, r9_⟩ := r8_)
        go_simp
        with_reducible rfl
      rotate_left
      · simp only [Act.put, List.setIfInBounds_toArray, List.set_cons_zero, List.set_cons_succ, i64_w, i32_w]
        rfl
      refine take_ (i := 13) (N := some 115) (v := ?_) (a' := ?_) #[true, true, true, true, true, true, true, true, true, true, true, true, true, true, false, false, false, false, false, false, false, false] rfl rfl (by kernel_rfl) (fun _ _ _ h => h) (Or.inl ⟨by rfl, ?_⟩) hHeld ?_ ?_
      rotate_left
      · rintro w' hHeld'
        have hHeld'' := hHeld'
        (try obtain ⟨r0_, r1_⟩ := hHeld')
        (try obtain ⟨r1_, r2_⟩ := r1_)
        (try obtain ⟨r2_, r3_⟩ := r2_)
        (try obtain ⟨r3_, r4_⟩ := r3_)
        (try obtain ⟨r4_, r5_⟩ := r4_)
        (try obtain ⟨r5_, r6_⟩ := r5_)
        (try obtain ⟨r6_, r7_⟩ := r6_)
        (try obtain ⟨r7_, r8_⟩ := r7_)
        (try obtain ⟨r8_, r9_⟩ := r8_)
        (try obtain ⟨r9_, r10_⟩ := r9_)
        (try obtain ⟨r10_, r11_⟩ := r10_)
        (try obtain ⟨r11_, r12_⟩ := r11_)
        (try obtain ⟨r12_, r13_⟩ := r12_)
        (try obtain ⟨r13_, r14_⟩ := r13_)
        (try obtain ⟨r14_, r15_⟩ := r14_)
        (try obtain ⟨r15_, r16_⟩ := r15_)
        (try obtain ⟨r16_, r17_⟩ := r16_)
        (try obtain ⟨r17_, r18_⟩ := r17_)
        (try obtain ⟨r18_, r19_⟩ := r18_)
        (try obtain ⟨r19_, r20_⟩ := r19_)
        (try obtain ⟨r20_, r21_⟩ := r20_)
        (try obtain ⟨r21_, r22_⟩ := r21_)
        (try obtain ⟨r22_, r23_⟩ := r22_)
        (try obtain ⟨r23_, r24_⟩ := r23_)
        (try obtain ⟨r24_, r25_⟩ := r24_)
        (try obtain ⟨r25_, r26_⟩ := r25_)
        (try obtain ⟨r26_, r27_⟩ := r26_)
        (try obtain ⟨r27_, r28_⟩ := r27_)
        (try obtain ⟨r28_, r29_⟩ := r28_)
        (try obtain ⟨r29_, r30_⟩ := r29_)
        (try obtain ⟨r7_, r8_⟩ := r7_)
        (try obtain ⟨r8_, r9_⟩ := r8_)
        go_simp
        with_reducible rfl
      rotate_left
      · simp only [Act.put, List.setIfInBounds_toArray, List.set_cons_zero, List.set_cons_succ, i64_w, i32_w]
        rfl
      refine one_ (i := 14) (N := some 116) #[true, true, true, true, true, true, true, true, true, true, true, true, true, true, true, false, false, false, false, false, false, false] rfl rfl (by kernel_rfl) (by decide) (fun K hSh => ?_)
      refine goes_ Try.func21 (by kernel_rfl) rfl #[.agg (revA v r lo hi al false (keysOf M) (valsOf M) (goneOf M) T A6 c6 A7 c7 A8 c8 A9 c9), .agg (refA v r lo hi al false A l.length c)] (by rfl) rfl rfl (by (try simp only [List.map_toArray, List.map_cons, List.map_nil]); rfl) ?_
      refine (same_go (LASTK.out _ hHeld).1.V (LASTK.out _ hHeld).1.L HC.out HSR.out).mono ?_
      rintro e Y14 ⟨rfl, hb⟩
      refine ⟨_, rfl, hSh.out _ _ (SOF.out _ (NEXT.out _ _ hb (LASTK.out _ hHeld))) ?_⟩
      clear hHeld hb hSh
      intro hHeld
      refine norm_ (a' := ?_) ?_ ?_
      rotate_left
      · simp only [Act.put, List.setIfInBounds_toArray, List.set_cons_zero, List.set_cons_succ, i64_w, i32_w]
        rfl
      refine pure_ (i := 15) (N := some 117) (v := ?_) (a' := ?_) #[true, true, true, true, true, true, true, true, true, true, true, true, true, true, true, true, false, false, false, false, false, false] rfl rfl (by kernel_rfl) (fun _ _ _ h => h) (Or.inl ⟨by rfl, ?_⟩) ?_ ?_
      rotate_left
      · intro w'
        go_simp
        with_reducible rfl
      rotate_left
      · simp only [Act.put, List.setIfInBounds_toArray, List.set_cons_zero, List.set_cons_succ, i64_w, i32_w]
        rfl
      refine pure_ (i := 16) (N := some 118) (v := ?_) (a' := ?_) #[true, true, true, true, true, true, true, true, true, true, true, true, true, true, true, true, true, false, false, false, false, false] rfl rfl (by kernel_rfl) (fun _ _ _ h => h) (Or.inl ⟨by rfl, ?_⟩) ?_ ?_
      rotate_left
      · intro w'
        go_simp
        with_reducible rfl
      rotate_left
      · simp only [Act.put, List.setIfInBounds_toArray, List.set_cons_zero, List.set_cons_succ, i64_w, i32_w]
        rfl
      refine pure_ (i := 17) (N := some 119) (v := ?_) (a' := ?_) #[true, true, true, true, true, true, true, true, true, true, true, true, true, true, true, true, true, true, false, false, false, false] rfl rfl (by kernel_rfl) (fun _ _ _ h => h) (Or.inl ⟨by rfl, ?_⟩) ?_ ?_
      rotate_left
      · intro w'
        go_simp
        with_reducible rfl
      rotate_left
      · simp only [Act.put, List.setIfInBounds_toArray, List.set_cons_zero, List.set_cons_succ, i64_w, i32_w]
        rfl
      refine pure_ (i := 18) (N := some 120) (v := ?_) (a' := ?_) #[true, true, true, true, true, true, true, true, true, true, true, true, true, true, true, true, true, true, true, false, false, false] rfl rfl (by kernel_rfl) (fun _ _ _ h => h) (Or.inl ⟨by rfl, ?_⟩) ?_ ?_
      rotate_left
      · intro w'
        go_simp
        with_reducible rfl
      rotate_left
      · simp only [Act.put, List.setIfInBounds_toArray, List.set_cons_zero, List.set_cons_succ, i64_w, i32_w]
        rfl
      refine pure_ (i := 19) (N := some 121) (v := ?_) (a' := ?_) #[true, true, true, true, true, true, true, true, true, true, true, true, true, true, true, true, true, true, true, true, false, false] rfl rfl (by kernel_rfl) (fun _ _ _ h => h) (Or.inl ⟨by rfl, ?_⟩) ?_ ?_
      rotate_left
      · intro w'
        go_simp
        with_reducible rfl
      rotate_left
      · simp only [Act.put, List.setIfInBounds_toArray, List.set_cons_zero, List.set_cons_succ, i64_w, i32_w]
        rfl
      refine pure_ (i := 20) (N := some 122) (v := ?_) (a' := ?_) #[true, true, true, true, true, true, true, true, true, true, true, true, true, true, true, true, true, true, true, true, true, false] rfl rfl (by kernel_rfl) (fun _ _ _ h => h) (Or.inl ⟨by rfl, ?_⟩) ?_ ?_
      rotate_left
      · intro w'
        go_simp
        with_reducible rfl
      rotate_left
      · simp only [Act.put, List.setIfInBounds_toArray, List.set_cons_zero, List.set_cons_succ, i64_w, i32_w]
        rfl
      refine pure_ (i := 21) (N := some 12) (v := ?_) (a' := ?_) #[true, true, true, true, true, true, true, true, true, true, true, true, true, true, true, true, true, true, true, true, true, true] rfl rfl (by kernel_rfl) (fun _ _ _ h => h) (Or.inl ⟨by rfl, ?_⟩) ?_ ?_
      rotate_left
      · intro w'
        go_simp
        with_reducible rfl
      rotate_left
      · simp only [Act.put, List.setIfInBounds_toArray, List.set_cons_zero, List.set_cons_succ, i64_w, i32_w]
        rfl
      refine done_ (by kernel_rfl) ?_
      have FIN := Aside0.mk (LASTK.out _ hHeld).1.B_
      clear hHeld
      go_wp2_with fail
      go_ret
      exact ⟨rfl, FIN.out⟩
    · have HSZ := Aside0.mk (same_go hT7 (Kd.C_nil k62 X2) (Nat.le_refl _) hSZ)
      obtain ⟨t0, t1, t2, t3, t4, t5, t6, t7, t8, t9⟩ := box10_ kt7
      clear hSZ hT7 kt7 kx
      go_wp2_with fail
      refine HSZ.out.mono ?_
      rintro e X3 ⟨rfl, hb⟩
      have K8 := Aside0.mk (K7.out.below hb)
      clear hb K7 HSZ t0 t1 t2 t3 t4 t5 t6 t7 t8 t9
      have kx := K8.out.kr
      rw [HRV.out] at kx
      obtain ⟨x0, x1, x2, x3, x4, x5, x6, x7, x8, x9⟩ := box10_ kx
      obtain ⟨y0, y1, y2, y3, y4, y5, y6⟩ := box7_ K8.out.kf
      clear kx
      go_wp2_with fail
      refine (same_go K8.out.V K8.out.L HC.out HSR.out).mono ?_
      rintro e X4 ⟨rfl, hb⟩
      have FIN := Aside0.mk (K8.out.below hb).B_
      clear hb x0 x1 x2 x3 x4 x5 x6 x7 x8 x9 y0 y1 y2 y3 y4 y5 y6 K8
      go_wp2_with fail
      go_ret
      exact ⟨rfl, FIN.out⟩
  · obtain rfl : bm = false := Bool.eq_false_iff.2 fun e => hM (HBI.out.1 e)
    have H1 := Aside0.mk h1
    clear hM h1
    simp only [Bool.false_eq_true, if_false]
    obtain ⟨W7, hW7⟩ : ∃ W7 : World, W7 = W6.alloc (.cells (#[.int .i64 0, .int .i64 0, .string ⟨#[]⟩, .string ⟨#[]⟩, .bool false, .bool false, .slice none 0 0] : Array Value) 29) := ⟨_, rfl⟩
    have hb7 : Below W6.heap.size W6 W7 := hW7 ▸ below_alloc (Below.refl _ _) _
    have kf : W7.heap[W6.heap.size]? = some (.cells (#[.int .i64 0, .int .i64 0, .string ⟨#[]⟩, .string ⟨#[]⟩, .bool false, .bool false, .slice none 0 0] : Array Value) 29 (0, 0)) := hW7 ▸ blk_new _ _
    have hR7 := Kd.C_below hR6 hb7
    have hS7 := Kd.C_below hS6 hb7
    have m1 := blk_below n1 hb7
    have HB7 := Aside0.mk (below_then HB6.out HB6.out.size hb7)
    have HW7 := Aside0.mk hW7
    clear hW7 hb7 hR6 hS6 n1
    go_upto_region 4 with fail
    rw [← HW7.out]
    clear HW7
    obtain ⟨s0, s1, s2⟩ := box3_ m1
    go_wp2_with fail
    refine (of4_go lo hi al W7).mono ?_
    rintro e W8 ⟨rfl, hb8⟩
    have hR8 := Kd.C_below hR7 hb8
    have hS8 := Kd.C_below hS7 hb8
    have n1 := blk_below m1 hb8
    have kf8 := blk_below kf hb8
    have HB8 := Aside0.mk (below_then HB7.out HB7.out.size hb8)
    clear hb8 m1 hR7 hS7 kf s0 s1 s2
    go_wp2_with fail
    refine (of_go hR8 HC.out HOF.out).mono ?_
    rintro e W9 ⟨B9, q9, rfl, hM9, hq9, hb9⟩
    have hR9 := Kd.C_below hR8 hb9
    have hS9 := Kd.C_below hS8 hb9
    have m1 := blk_below n1 hb9
    have kf9 := blk_below kf8 hb9
    have HB9 := Aside0.mk (below_then HB8.out HB8.out.size hb9)
    clear hb9 n1 hR8 hS8 kf8
    go_wp2_with fail
    refine (new_go hM9 hq9 H1.out).mono ?_
    rintro e Wa ⟨A6, c6, A7, c7, A8, c8, A9, c9, rfl, hAa, hba⟩
    have hRa := Kd.C_below hR9 hba
    have hSa := Kd.C_below hS9 hba
    have n1 := blk_below m1 hba
    have kfa := blk_below kf9 hba
    have HBa := Aside0.mk (below_then HB9.out HB9.out.size hba)
    clear hba m1 hR9 hS9 kf9 hM9 H1
    obtain ⟨RV, hRV⟩ : ∃ RV, RV = (#[.int .i64 0, .int .i64 0, .string ⟨#[]⟩, .string ⟨#[]⟩, .bool false, .bool false, .slice A6 0 c6, .slice A7 0 c7, .slice A8 0 c8, .slice A9 0 c9] : Array Value) := ⟨_, rfl⟩
    obtain ⟨Wb, hWb⟩ : ∃ Wb : World, Wb = Wa.alloc (.cells (#[.int .i64 0, .int .i64 0, .string ⟨#[]⟩, .string ⟨#[]⟩, .bool false, .bool false, .slice A6 0 c6, .slice A7 0 c7, .slice A8 0 c8, .slice A9 0 c9] : Array Value) 37) := ⟨_, rfl⟩
    have hbb : Below Wa.heap.size Wa Wb := hWb ▸ below_alloc (Below.refl _ _) _
    have kb : Wb.heap[Wa.heap.size]? = some (.cells RV 37 (0, 0)) := by rw [hRV, hWb]; exact blk_new _ _
    have hRb := Kd.C_below hRa hbb
    have hSb := Kd.C_below hSa hbb
    have hAb := hAa.below hbb
    have p1 := blk_below n1 hbb
    have kfb := blk_below kfa hbb
    have HBb := Aside0.mk (below_then HBa.out HBa.out.size hbb)
    have HWb := Aside0.mk hWb
    have HRV := Aside0.mk hRV
    clear hbb hWb hRa hSa hAa n1 kfa hRV
    go_upto_region 5 with fail
    rw [← HWb.out]
    clear HWb
    clear kb kfb p1 hAb hRb hSb
    go_wp2_with fail
    go_ret
    exact ⟨rfl, HBb.out⟩
end Go.Proofs.Ytoaacdjcjicemaa.RvRevApplies
