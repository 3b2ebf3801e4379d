/- What befalls a register: the law's closure, by hand. -/
import Derived.Test.YtahnmklofgnagaaRegRel
import Derived.Test.YtahnmklofgnagaaAct15
import Derived.Deep.CutBlock
namespace Go.Proofs.Ytahnmklofgnagaa.Mem
open Go.RowKit Go.Proofs.YtahnmklofgnagaaW.PrintWords Go.Proofs.YtahnmklofgnagaaW.PrintLast Go.Proofs.Ytahnmklofgnagaa.Tags
set_option linter.unusedVariables false
set_option linter.unusedSimpArgs false
theorem box5a {g : Nat} {t : TypeId} {a b c d e : Value} {w : World} (h : w.heap[g]? = some (.cells #[a, b, c, d, e] t (0, 0))) : w.cell? ⟨g, 0, none⟩ = some a ∧ w.cell? ⟨g, 1, none⟩ = some b ∧ w.cell? ⟨g, 2, none⟩ = some c ∧ w.cell? ⟨g, 3, none⟩ = some d ∧ w.cell? ⟨g, 4, none⟩ = some e :=
  ⟨(blk_cell h 0).trans rfl, (blk_cell h 1).trans rfl, (blk_cell h 2).trans rfl, (blk_cell h 3).trans rfl, (blk_cell h 4).trans rfl⟩
/-- Whatever is neither memory nor one of two boxes stays. -/
def Kp (w w' : World) (bw bt : Nat) : Prop := ∀ (k : Nat) (t : TypeId) (cs : Array Value), w.heap[k]? = some (Obj.cells cs t (0, 0)) → t ≠ 132 → t ≠ 165 → k ≠ bw → k ≠ bt → w'.heap[k]? = some (Obj.cells cs t (0, 0))
/-- A row is the one that was, or a new one. -/
def Ow (vs0 : Value) (n0 : Nat) (vs : Value) : Prop := vs.ownBlock = vs0.ownBlock ∨ ∃ g, vs.ownBlock = some g ∧ n0 ≤ g
/-- Memory, a register, the document's, and the law's boxes. -/
structure Rs (vs0 : Value) (n0 : Nat) (w0 : World) (pb mb cb bx by_ bw bt bi : Nat) (xs : Array Value) (top : Int) (A : Option Addr) (ca : Nat) (B : Option Addr) (cc : Nat) (ts ss : List Int) (id : Int) (m : M) (r : Rg) (vs vp : Value) (told : Int) (w : World) : Prop where
  S : St w0 w pb mb cb m
  R : RegAt w 0 A ca B cc ts ss
  kx : w.heap[bx]? = some (.cells xs 91 (0, 0))
  ky : w.heap[by_]? = some (.cells #[ptr mb, .int .i64 top, .slice A ts.length ca, .slice B ss.length cc] 86 (0, 0))
  kw : w.heap[bw]? = some (.cells #[.int .i64 r.V, vs, vp] 97 (0, 0))
  kt : w.heap[bt]? = some (.cells #[.int .i64 told] 3 (0, 0))
  ki : w.heap[bi]? = some (.cells #[.int .i64 id] 3 (0, 0))
  X : RgV w (.agg #[.int .i64 r.V, vs, vp]) r
  tb : told ≤ 9223372036854775807
  ow : Ow vs0 n0 vs
  n0w : n0 ≤ w.heap.size
section
variable {w0 w w' : World} {pb mb cb bx by_ bw bt bi : Nat} {xs : Array Value} {top : Int} {A B : Option Addr} {ca cc : Nat} {ts ss : List Int} {id : Int} {m m' : M} {r r' : Rg} {vs vp vs' vp' vs0 : Value} {n0 : Nat} {told : Int}
theorem Kp.refl (w : World) (bw bt : Nat) : Kp w w bw bt := fun _ _ _ h _ _ _ _ => h
theorem Kp.trans {a : World} (h : Kp a w bw bt) (k : Kp w w' bw bt) : Kp a w' bw bt := fun i t cs hi h1 h2 h3 h4 => k i t cs (h i t cs hi h1 h2 h3 h4) h1 h2 h3 h4
theorem Kp.of_fr (hA : At w mb cb m) (hF : Fr w w' mb cb) : Kp w w' bw bt := fun i t cs hi h1 h2 _ _ => hF.blk hA hi h1 h2
theorem Kp.of_below (hb : Below w.heap.size w w') : Kp w w' bw bt := fun i t cs hi _ _ _ _ => blk_below hi hb
theorem Kp.of_w (k : Only w w' bw) : Kp w w' bw bt := fun i t cs hi _ _ h3 _ => (k.block i h3).trans hi
theorem Kp.of_t (k : Only w w' bt) : Kp w w' bw bt := fun i t cs hi _ _ _ h4 => (k.block i h4).trans hi
theorem Rs.call (h : Rs vs0 n0 w0 pb mb cb bx by_ bw bt bi xs top A ca B cc ts ss id m r vs vp told w) (hS : St w0 w' pb mb cb m') (hF : Fr w w' mb cb) : Rs vs0 n0 w0 pb mb cb bx by_ bw bt bi xs top A ca B cc ts ss id m' r vs vp told w' :=
  ⟨hS, h.R.fr h.S.A hF, hF.blk h.S.A h.kx (by decide) (by decide), hF.blk h.S.A h.ky (by decide) (by decide), hF.blk h.S.A h.kw (by decide) (by decide), hF.blk h.S.A h.kt (by decide) (by decide), hF.blk h.S.A h.ki (by decide) (by decide), h.X.fr h.S.A hF, h.tb, h.ow, Nat.le_trans h.n0w hF.size⟩
theorem Rs.below (h : Rs vs0 n0 w0 pb mb cb bx by_ bw bt bi xs top A ca B cc ts ss id m r vs vp told w) (hb : Below w.heap.size w w') : Rs vs0 n0 w0 pb mb cb bx by_ bw bt bi xs top A ca B cc ts ss id m r vs vp told w' :=
  ⟨h.S.below hb, h.R.below hb, blk_below h.kx hb, blk_below h.ky hb, blk_below h.kw hb, blk_below h.kt hb, blk_below h.ki hb, h.X.below hb, h.tb, h.ow, Nat.le_trans h.n0w hb.size⟩
theorem RegAt.only {base : Nat} (h : RegAt w base A ca B cc ts ss) {b : Nat} {t : TypeId} {cs : Array Value} (k : Only w w' b) (hg : w.heap[b]? = some (.cells cs t (0, 0))) (ht : t ≠ 3) : RegAt w' base A ca B cc ts ss := ⟨h.a.only1 k hg ht, h.b.only1 k hg ht, h.la, h.lb⟩
/-- The document's register is another one. -/
theorem Rs.put (h : Rs vs0 n0 w0 pb mb cb bx by_ bw bt bi xs top A ca B cc ts ss id m r vs vp told w) (hb : w0.heap.size ≤ bw) (hX : RgV w (.agg #[.int .i64 r'.V, vs', vp']) r') (how : Ow vs0 n0 vs') (k : Only w w' bw) (hk : w'.heap[bw]? = some (.cells #[.int .i64 r'.V, vs', vp'] 97 (0, 0))) : Rs vs0 n0 w0 pb mb cb bx by_ bw bt bi xs top A ca B cc ts ss id m r' vs' vp' told w' :=
  ⟨h.S.only k h.kw (by decide) (by decide) (by decide) hb, h.R.only k h.kw (by decide), (k.block bx (blk_ne h.kx h.kw (by decide))).trans h.kx, (k.block by_ (blk_ne h.ky h.kw (by decide))).trans h.ky, hk, (k.block bt (blk_ne h.kt h.kw (by decide))).trans h.kt, (k.block bi (blk_ne h.ki h.kw (by decide))).trans h.ki, hX.only k h.kw (by decide) (by decide), h.tb, how, Nat.le_trans h.n0w (Nat.le_of_eq k.size.symm)⟩
theorem OwnI.off {base b : Nat} {v : Value} {xs : List Int} (h : OwnI w base v xs) (k : Only w w' b) (hn : v.ownBlock ≠ some b) : OwnI w' base v xs := h.move fun i hi => k.block i (by rintro rfl; exact hn hi)
/-- An id is told. -/
theorem Rs.tell (h : Rs vs0 n0 w0 pb mb cb bx by_ bw bt bi xs top A ca B cc ts ss id m r vs vp told w) (hb : w0.heap.size ≤ bt) (hbi : bi ≠ bt) (hA : (Value.slice A ts.length ca).ownBlock ≠ some bt) (hB : (Value.slice B ss.length cc).ownBlock ≠ some bt) (hV : vs.ownBlock ≠ some bt) (z : Int) (hz : z ≤ 9223372036854775807) : Rs vs0 n0 w0 pb mb cb bx by_ bw bt bi xs top A ca B cc ts ss id m r vs vp z (w.setCell ⟨bt, 0, none⟩ (.int .i64 z)) := by
  have k : Only w (w.setCell ⟨bt, 0, none⟩ (.int .i64 z)) bt := Only.set _ _ _
  refine ⟨h.S.only k h.kt (by decide) (by decide) (by decide) hb, ⟨h.R.a.off k hA, h.R.b.off k hB, h.R.la, h.R.lb⟩, (k.block bx (blk_ne h.kx h.kt (by decide))).trans h.kx, (k.block by_ (blk_ne h.ky h.kt (by decide))).trans h.ky, (k.block bw (blk_ne h.kw h.kt (by decide))).trans h.kw, blk_put h.kt 0 _ rfl, (k.block bi hbi).trans h.ki, ?_, hz, h.ow, Nat.le_trans h.n0w (Nat.le_of_eq k.size.symm)⟩
  obtain ⟨a1, a2, vs1, vp1, e, h3, h4⟩ := h.X
  injection e with e
  have e' : vs = vs1 ∧ vp = vp1 := by simpa using e
  obtain ⟨rfl, rfl⟩ := e'
  exact ⟨a1, a2, _, _, rfl, h3.off k hV, h4.only k h.kt (by decide)⟩
end
/-- Behind the act. -/
def MidR (vs0 : Value) (n0 : Nat) (w0 : World) (pb mb cb bx by_ bw bt bi : Nat) (xs : Array Value) (top hd : Int) (d : D) (A : Option Addr) (ca : Nat) (B : Option Addr) (cc : Nat) (ts ss : List Int) (kk : Nat) (g b id V : Int) (w : World) (v8 v9 v10 v11 : Value) (wx : World) : Prop := ∃ (ev nv : Int) (m : M) (r : Rg) (vs vp : Value) (told : Int), v8 = .int .i64 ev ∧ v9 = .int .i64 ev ∧ v10 = .int .i64 nv ∧ v11 = .int .i64 nv ∧ Rs vs0 n0 w0 pb mb cb bx by_ bw bt bi xs top A ca B cc ts ss id m r vs vp told wx ∧ Al15 m top hd d ts ss kk g (b + 1) r ∧ r.V = V ∧ Kp w wx bw bt
/-- What the closure comes to. -/
def DoneR (vs0 : Value) (n0 : Nat) (w0 : World) (pb mb cb bx by_ bw bt bi : Nat) (xs : Array Value) (top hd : Int) (d : D) (A : Option Addr) (ca : Nat) (B : Option Addr) (cc : Nat) (ts ss : List Int) (kk : Nat) (g b id V : Int) (w : World) (e : Ending) (w' : World) : Prop := e = .returned (.iface 4 (.bool true)) ∧ ∃ (m : M) (r : Rg) (vs vp : Value) (told : Int), Rs vs0 n0 w0 pb mb cb bx by_ bw bt bi xs top A ca B cc ts ss id m r vs vp told w' ∧ Al15 m top hd d ts ss kk g (b + 1) r ∧ r.V = V ∧ Kp w w' bw bt
section
variable {w0 w : World} {pb mb cb bx by_ bw bt bi : Nat} {top hd : Int} {d : D} {A B : Option Addr} {ca cc : Nat} {ts ss : List Int} {id : Int} {m : M} {r : Rg} {vs vp vs0 : Value} {n0 : Nat} {told : Int} {kk : Nat} {g b : Int}
theorem regv_open {w : World} {x : Value} {r : Rg} (h : RgV w x r) : ∃ vs vp, x = .agg #[.int .i64 r.V, vs, vp] := by
  obtain ⟨_, _, vs, vp, e, _⟩ := h
  exact ⟨vs, vp, e⟩
theorem regv_kind {w : World} {V : Int} {vs vp : Value} {r : Rg} (h : RgV w (.agg #[.int .i64 V, vs, vp]) r) : (∃ A n c, vs = .slice A n c) ∧ ∃ A n c, vp = .slice A n c := by
  obtain ⟨_, _, vs1, vp1, e, h3, h4⟩ := h
  injection e with e
  have e' : V = r.V ∧ vs = vs1 ∧ vp = vp1 := by simpa using e
  obtain ⟨_, rfl, rfl⟩ := e'
  obtain ⟨A, c, rfl⟩ := h3.slice
  obtain ⟨B, c', rfl⟩ := h4.slice
  exact ⟨⟨_, _, _, rfl⟩, ⟨_, _, _, rfl⟩⟩
theorem Al15.open_le {m : M} {top hd : Int} {d : D} {ts ss : List Int} {k : Nat} {g b : Int} {r : Rg} (h : Al15 m top hd d ts ss k g b r) (hb : b ≤ 1000) (h64 : r.P.length ≤ 64) (v : Int) : (r.open_ v).2.1 ≤ 1000000 := by
  unfold Rg.open_
  split
  · show (0 : Int) ≤ 1000000
    omega
  · cases e : r.P.findIdx? (fun p => decide (p.2 < 0)) with
    | none =>
      show (0 : Int) ≤ 1000000
      omega
    | some i =>
      obtain ⟨hi, _⟩ := List.findIdx?_eq_some_iff_getElem.1 e
      have := h.pb i hi
      simp only
      omega
theorem ow_slot {w : World} {V r1V : Int} {vs vs' vp' : Value} (h : Ow vs0 n0 vs) (hn : n0 ≤ w.heap.size) (hf : ∃ vs1 vp1, Value.agg #[.int .i64 r1V, vs', vp'] = .agg #[.int .i64 V, vs1, vp1] ∧ (vs1.ownBlock = vs.ownBlock ∨ ∃ g, vs1.ownBlock = some g ∧ w.heap.size ≤ g)) : Ow vs0 n0 vs' := by
  obtain ⟨vs1, vp1, e, hg⟩ := hf
  simp at e
  obtain ⟨_, rfl, rfl⟩ := e
  rcases hg with hg | ⟨g, e1, e2⟩
  · unfold Ow
    rw [hg]
    exact h
  · exact Or.inr ⟨g, e1, Nat.le_trans hn e2⟩
theorem ow_same {V r1V : Int} {vs vs' vp' : Value} (h : Ow vs0 n0 vs) (hf : ∃ vp2, Value.agg #[.int .i64 r1V, vs', vp'] = .agg #[.int .i64 V, vs, vp2]) : Ow vs0 n0 vs' := by
  obtain ⟨vp2, e⟩ := hf
  simp at e
  obtain ⟨_, rfl, rfl⟩ := e
  exact h
theorem slot_V (r : Rg) (c v : Int) : (r.slot c v).1.V = r.V := by unfold Rg.slot; split <;> rfl
theorem open_V (r : Rg) (v : Int) : (r.open_ v).1.V = r.V := by
  unfold Rg.open_
  split
  · rfl
  · split <;> rfl
theorem close_V (r : Rg) (id : Int) : (r.close id).1.V = r.V := by unfold Rg.close; split <;> rfl
set_option maxHeartbeats 6400000 in
set_option maxRecDepth 100000 in
theorem does15_fn {xd c v at_ : Int} {raw : Bool} (hb : b ≤ 1000) (hid : id ≤ 9223372036854775807) (hRs : Rs vs0 n0 w0 pb mb cb bx by_ bw bt bi #[.int .u8 xd, .int .i64 c, .int .i64 at_, .int .i64 v, .bool raw] top A ca B cc ts ss id m r vs vp told w) (hL : Al15 m top hd d ts ss kk g b r) (hbw : w0.heap.size ≤ bw) (hbt : w0.heap.size ≤ bt) (hbi : bi ≠ bt) (hA : (Value.slice A ts.length ca).ownBlock ≠ some bt) (hB : (Value.slice B ss.length cc).ownBlock ≠ some bt) (hV : vs.ownBlock ≠ some bt) (hx0 : 0 ≤ xd) (hx7 : xd % 7 ≠ 0) :
    Calls Try.prog 100 #[ptr pb, .pointer (some ⟨bx, 0, none⟩), .pointer (some ⟨by_, 0, none⟩), .pointer (some ⟨bw, 0, none⟩), .pointer (some ⟨bt, 0, none⟩), .pointer (some ⟨bi, 0, none⟩)] w (DoneR vs0 n0 w0 pb mb cb bx by_ bw bt bi #[.int .u8 xd, .int .i64 c, .int .i64 at_, .int .i64 v, .bool raw] top hd d A ca B cc ts ss kk g b id r.V w) := by
  obtain ⟨⟨Av, nv_, cv, evs⟩, ⟨Ap, np_, cp, evp⟩⟩ := regv_kind hRs.X
  subst evs evp
  obtain ⟨x0, x1, x2, x3, x4⟩ := box5a hRs.kx
  obtain ⟨y0, y1, y2, y3⟩ := box4 hRs.ky
  obtain ⟨q0, q1, q2⟩ := box3s hRs.kw
  have i0 := box1 hRs.ki
  have t0 := box1 hRs.kt
  have HRS := Lib.hid hRs
  have HL := Lib.hid hL
  have HB := Lib.hid (And.intro hb (And.intro hid (And.intro hbw (And.intro hbt hbi))))
  have HD := Lib.hid (And.intro hA (And.intro hB hV))
  have H0 := Lib.hid (And.intro hx0 hx7)
  clear hb hid hbw hbt hbi hA hB hV hRs hL hx7
  go_enter Try.func100, Try.ntmps100
  go_upto_block 0 with fail
  go_cut [8, 9, 10, 11] (fun v8 v9 v10 v11 wx => MidR vs0 n0 w0 pb mb cb bx by_ bw bt bi #[.int .u8 xd, .int .i64 c, .int .i64 at_, .int .i64 v, .bool raw] top hd d A ca B cc ts ss kk g b id r.V w v8 v9 v10 v11 wx)
  case first =>
    have h7 : xd % 7 = 1 ∨ xd % 7 = 2 ∨ xd % 7 = 3 ∨ xd % 7 = 4 ∨ xd % 7 = 5 ∨ xd % 7 = 6 := by have := H0.out; omega
    rcases h7 with hx | hx | hx | hx | hx | hx
    · skip
      have s1 : (xd % 7 == 1) = true := by simp [hx]
      have s2 : (xd % 7 == 2) = false := by simp [hx]
      have s3 : (xd % 7 == 3) = false := by simp [hx]
      have s4 : (xd % 7 == 4) = false := by simp [hx]
      have s5 : (xd % 7 == 5) = false := by simp [hx]
      clear hx
      obtain ⟨M1, n1, e1, r1, hc1, hl1, hs1, hn1⟩ := p_enter HRS.out.S HRS.out.R HL.out c
      have HC := Lib.hid hc1
      have HL1 := Lib.hid hl1
      have HS1 := Lib.hid hs1
      have HN1 := Lib.hid hn1
      have HV1 := Lib.hid (show r1.V = r.V from by have := congrArg (fun y => y.1.V) hs1; exact this.symm.trans (slot_V r c r.V))
      clear hc1 hl1 hs1 hn1
      go_wp2_with fail
      refine HC.out.mono ?_
      clear HC
      rintro e W1 ⟨rfl, hS1, hF1⟩
      have HR1 := Lib.hid (HRS.out.call hS1 hF1)
      have HK1 := Lib.hid ((Kp.refl w bw bt).trans (Kp.of_fr (bw := bw) (bt := bt) HRS.out.S.A hF1))
      clear hS1 hF1 x0 x1 x2 x3 x4 y0 y1 y2 y3 q0 q1 q2 i0 t0
      obtain ⟨x0, x1, x2, x3, x4⟩ := box5a HR1.out.kx
      obtain ⟨y0, y1, y2, y3⟩ := box4 HR1.out.ky
      obtain ⟨q0, q1, q2⟩ := box3s HR1.out.kw
      have i0 := box1 HR1.out.ki
      have t0 := box1 HR1.out.kt
      have hc2 := rgslot_calls HR1.out.X c r.V
      rw [HS1.out] at hc2
      have HC2 := Lib.hid hc2
      clear hc2
      go_wp2_with fail
      refine HC2.out.mono ?_
      clear HC2
      rintro e W2 ⟨x', rfl, hX', hb2, hfr⟩
      obtain ⟨vs', vp', rfl⟩ := regv_open hX'
      have how : Ow vs0 n0 vs' := ow_slot HR1.out.ow HR1.out.n0w (hfr _ _ _ rfl)
      obtain ⟨⟨Av', nv', cv', evs⟩, ⟨Ap', np', cp', evp⟩⟩ := regv_kind hX'
      subst evs evp
      have hR2 := HR1.out.below hb2
      obtain ⟨W3, hW3⟩ : ∃ y : World, y = set3r W2 bw (.int .i64 r1.V) (.slice Av' nv' cv') (.slice Ap' np' cp') := ⟨_, rfl⟩
      have hO3 : Only W2 W3 bw := hW3 ▸ only3r _ _ _ _ _
      have HR3 := Lib.hid (hR2.put (r' := r1) HB.out.2.2.1 hX' how hO3 (hW3 ▸ blk3r hR2.kw _ _ _))
      have HK3 := Lib.hid ((HK1.out.trans (Kp.of_below hb2)).trans (Kp.of_w hO3))
      have HW3 := Lib.hid hW3
      have z0 := blk_frozen hR2.kw 0
      have z1 := blk_frozen hR2.kw 1
      have z2 := blk_frozen hR2.kw 2
      unfold set3r at HW3
      clear x0 x1 x2 x3 x4 y0 y1 y2 y3 q0 q1 q2 i0 t0
      obtain ⟨x0, x1, x2, x3, x4⟩ := box5a hR2.kx
      obtain ⟨y0, y1, y2, y3⟩ := box4 hR2.ky
      obtain ⟨q0, q1, q2⟩ := box3s hR2.kw
      have i0 := box1 hR2.ki
      have t0 := box1 hR2.kt
      clear hR2 hb2 hX' hW3 hO3
      go_upto_region 10 with fail
      rw [← HW3.out]
      clear HW3 z0 z1 z2 x0 x1 x2 x3 x4 y0 y1 y2 y3 q0 q1 q2 i0 t0
      obtain ⟨x0, x1, x2, x3, x4⟩ := box5a HR3.out.kx
      obtain ⟨y0, y1, y2, y3⟩ := box4 HR3.out.ky
      obtain ⟨q0, q1, q2⟩ := box3s HR3.out.kw
      have i0 := box1 HR3.out.ki
      have t0 := box1 HR3.out.kt
      rcases HN1.out with ⟨rfl, rfl⟩ | ⟨rfl, rfl⟩
      · go_wp2_with fail
        go_meet
        exact ⟨0, _, M1, r1, _, _, told, rfl, rfl, rfl, by rw [HV1.out], HR3.out, HL1.out.more, HV1.out, HK3.out⟩
      · go_wp2_with fail
        go_meet
        exact ⟨10, 0, M1, r1, _, _, told, rfl, rfl, rfl, rfl, HR3.out, HL1.out.more, HV1.out, HK3.out⟩
    · skip
      have s1 : (xd % 7 == 1) = false := by simp [hx]
      have s2 : (xd % 7 == 2) = true := by simp [hx]
      have s3 : (xd % 7 == 3) = false := by simp [hx]
      have s4 : (xd % 7 == 4) = false := by simp [hx]
      have s5 : (xd % 7 == 5) = false := by simp [hx]
      clear hx
      obtain ⟨M1, e1, r1, hc1, hl1, hs1⟩ := p_hold HRS.out.S HRS.out.R HL.out c v
      have HC := Lib.hid hc1
      have HL1 := Lib.hid hl1
      have HS1 := Lib.hid hs1
      clear hc1 hl1 hs1
      go_wp2_with fail
      refine HC.out.mono ?_
      clear HC
      rintro e W1 ⟨rfl, hS1, hF1⟩
      have HR1 := Lib.hid (HRS.out.call hS1 hF1)
      have HK1 := Lib.hid ((Kp.refl w bw bt).trans (Kp.of_fr (bw := bw) (bt := bt) HRS.out.S.A hF1))
      clear hS1 hF1 x0 x1 x2 x3 x4 y0 y1 y2 y3 q0 q1 q2 i0 t0
      obtain ⟨x0, x1, x2, x3, x4⟩ := box5a HR1.out.kx
      obtain ⟨y0, y1, y2, y3⟩ := box4 HR1.out.ky
      obtain ⟨q0, q1, q2⟩ := box3s HR1.out.kw
      have i0 := box1 HR1.out.ki
      have t0 := box1 HR1.out.kt
      by_cases hv : v < 0 ∨ 1073741824 < v
      · have hs1 := HS1.out
        rw [if_pos hv] at hs1
        injection hs1 with h1 h2
        subst h1 h2
        by_cases h0 : v < 0
        · have g1 : decide (v < 0) = true := decide_eq_true h0
          clear hv h0
          go_wp2_with fail
          go_meet
          exact ⟨10, 0, M1, r, _, _, told, rfl, rfl, rfl, rfl, HR1.out, HL1.out.more, rfl, HK1.out⟩
        · have g1 : decide (v < 0) = false := decide_eq_false h0
          have g2 : decide (1073741824 < v) = true := decide_eq_true (by omega)
          clear hv h0
          go_wp2_with fail
          go_meet
          exact ⟨10, 0, M1, r, _, _, told, rfl, rfl, rfl, rfl, HR1.out, HL1.out.more, rfl, HK1.out⟩
      · have hs1 := HS1.out
        rw [if_neg hv] at hs1
        have g1 : decide (v < 0) = false := decide_eq_false (by omega)
        have g2 : decide (1073741824 < v) = false := decide_eq_false (by omega)
        have HV1 := Lib.hid (show r1.V = r.V from by have := congrArg (fun y => y.1.V) hs1; exact this.symm.trans (slot_V r c v))
        have hc2 := rgslot_calls HR1.out.X c v
        rw [hs1] at hc2
        have HC2 := Lib.hid hc2
        clear hc2 hs1 hv
        go_wp2_with fail
        refine HC2.out.mono ?_
        clear HC2
        rintro e W2 ⟨x', rfl, hX', hb2, hfr⟩
        obtain ⟨vs', vp', rfl⟩ := regv_open hX'
        have how : Ow vs0 n0 vs' := ow_slot HR1.out.ow HR1.out.n0w (hfr _ _ _ rfl)
        obtain ⟨⟨Av', nv', cv', evs⟩, ⟨Ap', np', cp', evp⟩⟩ := regv_kind hX'
        subst evs evp
        have hR2 := HR1.out.below hb2
        obtain ⟨W3, hW3⟩ : ∃ y : World, y = set3r W2 bw (.int .i64 r1.V) (.slice Av' nv' cv') (.slice Ap' np' cp') := ⟨_, rfl⟩
        have hO3 : Only W2 W3 bw := hW3 ▸ only3r _ _ _ _ _
        have HR3 := Lib.hid (hR2.put (r' := r1) HB.out.2.2.1 hX' how hO3 (hW3 ▸ blk3r hR2.kw _ _ _))
        have HK3 := Lib.hid ((HK1.out.trans (Kp.of_below hb2)).trans (Kp.of_w hO3))
        have HW3 := Lib.hid hW3
        have z0 := blk_frozen hR2.kw 0
        have z1 := blk_frozen hR2.kw 1
        have z2 := blk_frozen hR2.kw 2
        unfold set3r at HW3
        clear x0 x1 x2 x3 x4 y0 y1 y2 y3 q0 q1 q2 i0 t0
        obtain ⟨x0, x1, x2, x3, x4⟩ := box5a hR2.kx
        obtain ⟨y0, y1, y2, y3⟩ := box4 hR2.ky
        obtain ⟨q0, q1, q2⟩ := box3s hR2.kw
        have i0 := box1 hR2.ki
        have t0 := box1 hR2.kt
        clear hR2 hb2 hX' hW3 hO3
        go_upto_region 31 with fail
        rw [← HW3.out]
        clear HW3 z0 z1 z2 x0 x1 x2 x3 x4 y0 y1 y2 y3 q0 q1 q2 i0 t0
        obtain ⟨x0, x1, x2, x3, x4⟩ := box5a HR3.out.kx
        obtain ⟨y0, y1, y2, y3⟩ := box4 HR3.out.ky
        obtain ⟨q0, q1, q2⟩ := box3s HR3.out.kw
        have i0 := box1 HR3.out.ki
        have t0 := box1 HR3.out.kt
        go_wp2_with fail
        go_meet
        exact ⟨e1, 0, M1, r1, _, _, told, rfl, rfl, rfl, rfl, HR3.out, HL1.out.more, HV1.out, HK3.out⟩
    · skip
      have s1 : (xd % 7 == 1) = false := by simp [hx]
      have s2 : (xd % 7 == 2) = false := by simp [hx]
      have s3 : (xd % 7 == 3) = true := by simp [hx]
      have s4 : (xd % 7 == 4) = false := by simp [hx]
      have s5 : (xd % 7 == 5) = false := by simp [hx]
      clear hx
      obtain ⟨M1, e1, r1, hc1, hl1, hs1⟩ := p_leave HRS.out.S HRS.out.R HL.out c
      have HC := Lib.hid hc1
      have HL1 := Lib.hid hl1
      have HS1 := Lib.hid hs1
      have HV1 := Lib.hid (show r1.V = r.V from by have := congrArg (fun y => y.1.V) hs1; exact this.symm.trans (slot_V r c (-1)))
      clear hc1 hl1 hs1
      go_wp2_with fail
      refine HC.out.mono ?_
      clear HC
      rintro e W1 ⟨rfl, hS1, hF1⟩
      have HR1 := Lib.hid (HRS.out.call hS1 hF1)
      have HK1 := Lib.hid ((Kp.refl w bw bt).trans (Kp.of_fr (bw := bw) (bt := bt) HRS.out.S.A hF1))
      clear hS1 hF1 x0 x1 x2 x3 x4 y0 y1 y2 y3 q0 q1 q2 i0 t0
      obtain ⟨x0, x1, x2, x3, x4⟩ := box5a HR1.out.kx
      obtain ⟨y0, y1, y2, y3⟩ := box4 HR1.out.ky
      obtain ⟨q0, q1, q2⟩ := box3s HR1.out.kw
      have i0 := box1 HR1.out.ki
      have t0 := box1 HR1.out.kt
      have hc2 := rgslot_calls HR1.out.X c (-1)
      rw [HS1.out] at hc2
      have HC2 := Lib.hid hc2
      clear hc2
      go_wp2_with fail
      refine HC2.out.mono ?_
      clear HC2
      rintro e W2 ⟨x', rfl, hX', hb2, hfr⟩
      obtain ⟨vs', vp', rfl⟩ := regv_open hX'
      have how : Ow vs0 n0 vs' := ow_slot HR1.out.ow HR1.out.n0w (hfr _ _ _ rfl)
      obtain ⟨⟨Av', nv', cv', evs⟩, ⟨Ap', np', cp', evp⟩⟩ := regv_kind hX'
      subst evs evp
      have hR2 := HR1.out.below hb2
      obtain ⟨W3, hW3⟩ : ∃ y : World, y = set3r W2 bw (.int .i64 r1.V) (.slice Av' nv' cv') (.slice Ap' np' cp') := ⟨_, rfl⟩
      have hO3 : Only W2 W3 bw := hW3 ▸ only3r _ _ _ _ _
      have HR3 := Lib.hid (hR2.put (r' := r1) HB.out.2.2.1 hX' how hO3 (hW3 ▸ blk3r hR2.kw _ _ _))
      have HK3 := Lib.hid ((HK1.out.trans (Kp.of_below hb2)).trans (Kp.of_w hO3))
      have HW3 := Lib.hid hW3
      have z0 := blk_frozen hR2.kw 0
      have z1 := blk_frozen hR2.kw 1
      have z2 := blk_frozen hR2.kw 2
      unfold set3r at HW3
      clear x0 x1 x2 x3 x4 y0 y1 y2 y3 q0 q1 q2 i0 t0
      obtain ⟨x0, x1, x2, x3, x4⟩ := box5a hR2.kx
      obtain ⟨y0, y1, y2, y3⟩ := box4 hR2.ky
      obtain ⟨q0, q1, q2⟩ := box3s hR2.kw
      have i0 := box1 hR2.ki
      have t0 := box1 hR2.kt
      clear hR2 hb2 hX' hW3 hO3
      go_upto_region 31 with fail
      rw [← HW3.out]
      clear HW3 z0 z1 z2 x0 x1 x2 x3 x4 y0 y1 y2 y3 q0 q1 q2 i0 t0
      obtain ⟨x0, x1, x2, x3, x4⟩ := box5a HR3.out.kx
      obtain ⟨y0, y1, y2, y3⟩ := box4 HR3.out.ky
      obtain ⟨q0, q1, q2⟩ := box3s HR3.out.kw
      have i0 := box1 HR3.out.ki
      have t0 := box1 HR3.out.kt
      go_wp2_with fail
      go_meet
      exact ⟨e1, 0, M1, r1, _, _, told, rfl, rfl, rfl, rfl, HR3.out, HL1.out.more, HV1.out, HK3.out⟩
    · skip
      have s1 : (xd % 7 == 1) = false := by simp [hx]
      have s2 : (xd % 7 == 2) = false := by simp [hx]
      have s3 : (xd % 7 == 3) = false := by simp [hx]
      have s4 : (xd % 7 == 4) = true := by simp [hx]
      have s5 : (xd % 7 == 5) = false := by simp [hx]
      clear hx
      have hc1 := p_open HB.out.1 HRS.out.S HRS.out.R HL.out v
      obtain ⟨r1, n1, e1, hs1⟩ : ∃ r1 n1 e1, r.open_ v = (r1, n1, e1) := ⟨_, _, _, rfl⟩
      have HV1 := Lib.hid (show r1.V = r.V from by have := congrArg (fun y => y.1.V) hs1; exact this.symm.trans (open_V r v))
      have hn1 := HL.out.open_le HB.out.1 HRS.out.X.2.1 v
      rw [hs1] at hc1 hn1
      have HN1 := Lib.hid (show n1 ≤ 9223372036854775807 from by have := hn1; simp only at this; omega)
      have HC := Lib.hid hc1
      have HS1 := Lib.hid hs1
      clear hc1 hs1 hn1
      go_wp2_with fail
      refine HC.out.mono ?_
      clear HC
      rintro e W1 ⟨M1, rfl, hS1, hF1, hl1⟩
      have HL1 := Lib.hid hl1
      have HR1 := Lib.hid (HRS.out.call hS1 hF1)
      have HK1 := Lib.hid (Kp.of_fr (bw := bw) (bt := bt) HRS.out.S.A hF1)
      clear hS1 hF1 hl1 x0 x1 x2 x3 x4 y0 y1 y2 y3 q0 q1 q2 i0 t0
      obtain ⟨x0, x1, x2, x3, x4⟩ := box5a HR1.out.kx
      obtain ⟨y0, y1, y2, y3⟩ := box4 HR1.out.ky
      obtain ⟨q0, q1, q2⟩ := box3s HR1.out.kw
      have i0 := box1 HR1.out.ki
      have t0 := box1 HR1.out.kt
      have hc2 := rgopen_calls HR1.out.X v (fun j hj => by have := HL.out.pb j hj; have := HB.out.1; omega)
      rw [HS1.out] at hc2
      have HC2 := Lib.hid hc2
      clear hc2
      go_wp2_with fail
      refine HC2.out.mono ?_
      clear HC2
      rintro e W2 ⟨x', rfl, hX', hb2, hsame⟩
      obtain ⟨vp', e⟩ := hsame _ _ _ rfl
      obtain ⟨vs1, vp1, e1_⟩ := regv_open hX'
      have hve : r.V = r1.V ∧ Value.slice Av nv_ cv = vs1 ∧ vp' = vp1 := by have := e.symm.trans e1_; simpa using this
      obtain ⟨hve1, rfl, rfl⟩ := hve
      subst e
      rw [hve1] at hX' ⊢
      have how : Ow vs0 n0 (.slice Av nv_ cv) := HR1.out.ow
      obtain ⟨_, ⟨Ap', np', cp', evp⟩⟩ := regv_kind hX'
      subst evp
      clear hsame e1_ hve1
      have hR2 := HR1.out.below hb2
      obtain ⟨W3, hW3⟩ : ∃ y : World, y = set3r W2 bw (.int .i64 r1.V) (.slice Av nv_ cv) (.slice Ap' np' cp') := ⟨_, rfl⟩
      have hO3 : Only W2 W3 bw := hW3 ▸ only3r _ _ _ _ _
      have HR3 := Lib.hid (hR2.put (r' := r1) HB.out.2.2.1 hX' how hO3 (hW3 ▸ blk3r hR2.kw _ _ _))
      have HK3 := Lib.hid ((HK1.out.trans (Kp.of_below hb2)).trans (Kp.of_w hO3))
      have HW3 := Lib.hid hW3
      have z0 := blk_frozen hR2.kw 0
      have z1 := blk_frozen hR2.kw 1
      have z2 := blk_frozen hR2.kw 2
      unfold set3r at HW3
      clear x0 x1 x2 x3 x4 y0 y1 y2 y3 q0 q1 q2 i0 t0
      obtain ⟨x0, x1, x2, x3, x4⟩ := box5a hR2.kx
      obtain ⟨y0, y1, y2, y3⟩ := box4 hR2.ky
      obtain ⟨q0, q1, q2⟩ := box3s hR2.kw
      have i0 := box1 hR2.ki
      have t0 := box1 hR2.kt
      clear hR2 hb2 hX' hW3 hO3
      go_upto_region 23 with fail
      rw [← HW3.out]
      clear HW3 z0 z1 z2 x0 x1 x2 x3 x4 y0 y1 y2 y3 q0 q1 q2 i0 t0
      obtain ⟨x0, x1, x2, x3, x4⟩ := box5a HR3.out.kx
      obtain ⟨y0, y1, y2, y3⟩ := box4 HR3.out.ky
      obtain ⟨q0, q1, q2⟩ := box3s HR3.out.kw
      have i0 := box1 HR3.out.ki
      have t0 := box1 HR3.out.kt
      by_cases he : e1 = 0
      · have g1 : (e1 == 0) = true := by simp [he]
        have zt := blk_frozen HR3.out.kt 0
        have FIN := Lib.hid (HR3.out.tell HB.out.2.2.2.1 HB.out.2.2.2.2 HD.out.1 HD.out.2.1 HD.out.2.2 n1 HN1.out)
        have FK := Lib.hid (HK3.out.trans (Kp.of_t (bw := bw) (Only.set W3 ⟨bt, 0, none⟩ (.int .i64 n1))))
        clear he
        go_wp2_with fail
        go_meet
        exact ⟨e1, n1, M1, r1, _, _, n1, rfl, rfl, rfl, rfl, FIN.out, HL1.out, HV1.out, FK.out⟩
      · have g1 : (e1 == 0) = false := by simp [he]
        clear he
        go_wp2_with fail
        go_meet
        exact ⟨e1, n1, M1, r1, _, _, told, rfl, rfl, rfl, rfl, HR3.out, HL1.out, HV1.out, HK3.out⟩
    · skip
      have s1 : (xd % 7 == 1) = false := by simp [hx]
      have s2 : (xd % 7 == 2) = false := by simp [hx]
      have s3 : (xd % 7 == 3) = false := by simp [hx]
      have s4 : (xd % 7 == 4) = false := by simp [hx]
      have s5 : (xd % 7 == 5) = true := by simp [hx]
      clear hx
      obtain ⟨M1, n1, e1, hc1, hl1, hn1⟩ := p_find HB.out.1 HRS.out.S HRS.out.R HL.out id HB.out.2.1
      have HC := Lib.hid hc1
      have HL1 := Lib.hid hl1
      have HN1 := Lib.hid hn1
      clear hc1 hl1 hn1
      go_wp2_with fail
      refine HC.out.mono ?_
      clear HC
      rintro e W1 ⟨rfl, hS1, hF1⟩
      have HR1 := Lib.hid (HRS.out.call hS1 hF1)
      have HK1 := Lib.hid ((Kp.refl w bw bt).trans (Kp.of_fr (bw := bw) (bt := bt) HRS.out.S.A hF1))
      clear hS1 hF1 x0 x1 x2 x3 x4 y0 y1 y2 y3 q0 q1 q2 i0 t0
      obtain ⟨x0, x1, x2, x3, x4⟩ := box5a HR1.out.kx
      obtain ⟨y0, y1, y2, y3⟩ := box4 HR1.out.ky
      obtain ⟨q0, q1, q2⟩ := box3s HR1.out.kw
      have i0 := box1 HR1.out.ki
      have t0 := box1 HR1.out.kt
      have HC2 := Lib.hid (rgfind_calls HR1.out.X id HB.out.2.1)
      go_wp2_with fail
      refine HC2.out.mono ?_
      clear HC2
      rintro e W2 ⟨rfl, hb2⟩
      have HR2 := Lib.hid (HR1.out.below hb2)
      have HK2 := Lib.hid (HK1.out.trans (Kp.of_below (bw := bw) (bt := bt) hb2))
      clear hb2 x0 x1 x2 x3 x4 y0 y1 y2 y3 q0 q1 q2 i0 t0
      obtain ⟨x0, x1, x2, x3, x4⟩ := box5a HR2.out.kx
      obtain ⟨y0, y1, y2, y3⟩ := box4 HR2.out.ky
      obtain ⟨q0, q1, q2⟩ := box3s HR2.out.kw
      have i0 := box1 HR2.out.ki
      have t0 := box1 HR2.out.kt
      rcases HN1.out with ⟨hf, rfl, rfl⟩ | ⟨j, hj, hf, rfl, rfl⟩
      · rw [hf]
        clear hf
        go_wp2_with fail
        go_meet
        exact ⟨2, 0, M1, r, _, _, told, rfl, rfl, rfl, rfl, HR2.out, HL1.out.more, rfl, HK2.out⟩
      · rw [hf]
        have g1 : decide ((0 : Int) ≤ (j : Int)) = true := decide_eq_true (by omega)
        have g2 : decide ((j : Int) < 0) = false := decide_eq_false (by omega)
        have hX2 := HR2.out.X
        obtain ⟨_, _, vs1, vp1, e1_, hI2, hP2⟩ := hX2
        injection e1_ with e1_
        have e2_ : Value.slice Av nv_ cv = vs1 ∧ Value.slice Ap np_ cp = vp1 := by simpa using e1_
        obtain ⟨rfl, rfl⟩ := e2_
        obtain ⟨Ap1, cp1, e3_⟩ := hP2.slice
        injection e3_ with e3_ e4_ e5_
        subst e3_ e4_ e5_
        obtain ⟨gp, egp, c0, c1⟩ := hP2.cell j hj
        subst egp
        obtain ⟨pv, hpv⟩ : ∃ y, (r.P.getD j (0, 0)).2 = y := ⟨_, rfl⟩
        rw [hpv] at c1 ⊢
        have g3 : decide ((j : Int) < (r.P.length : Int)) = true := decide_eq_true (by omega)
        have HJ := Lib.hid hj
        clear hf hI2 hP2 c0 hpv e1_
        go_upto_region 30 with fail
        go_quiet (fail)
        have FIN := Lib.hid (HR2.out.below (pw_below_drewN (Below.refl _ _) nq))
        have FK := Lib.hid (HK2.out.trans (Kp.of_below (bw := bw) (bt := bt) (pw_below_drewN (Below.refl W2.heap.size W2) nq)))
        go_wp2_with fail
        go_meet
        exact ⟨0, pv, M1, r, _, _, told, rfl, rfl, rfl, rfl, FIN.out, HL1.out.more, rfl, FK.out⟩
    · skip
      have s1 : (xd % 7 == 1) = false := by simp [hx]
      have s2 : (xd % 7 == 2) = false := by simp [hx]
      have s3 : (xd % 7 == 3) = false := by simp [hx]
      have s4 : (xd % 7 == 4) = false := by simp [hx]
      have s5 : (xd % 7 == 5) = false := by simp [hx]
      clear hx
      obtain ⟨M1, hc1, hl1⟩ := p_close HB.out.1 HRS.out.S HRS.out.R HL.out id HB.out.2.1
      obtain ⟨r1, e1, hs1⟩ : ∃ r1 e1, r.close id = (r1, e1) := ⟨_, _, rfl⟩
      have HV1 := Lib.hid (show r1.V = r.V from by have := congrArg (fun y => y.1.V) hs1; exact this.symm.trans (close_V r id))
      rw [hs1] at hc1 hl1
      have HC := Lib.hid hc1
      have HL1 := Lib.hid hl1
      have HS1 := Lib.hid hs1
      clear hc1 hl1 hs1
      go_wp2_with fail
      refine HC.out.mono ?_
      clear HC
      rintro e W1 ⟨rfl, hS1, hF1⟩
      have HR1 := Lib.hid (HRS.out.call hS1 hF1)
      have HK1 := Lib.hid ((Kp.refl w bw bt).trans (Kp.of_fr (bw := bw) (bt := bt) HRS.out.S.A hF1))
      clear hS1 hF1 x0 x1 x2 x3 x4 y0 y1 y2 y3 q0 q1 q2 i0 t0
      obtain ⟨x0, x1, x2, x3, x4⟩ := box5a HR1.out.kx
      obtain ⟨y0, y1, y2, y3⟩ := box4 HR1.out.ky
      obtain ⟨q0, q1, q2⟩ := box3s HR1.out.kw
      have i0 := box1 HR1.out.ki
      have t0 := box1 HR1.out.kt
      have hc2 := rgclose_calls HR1.out.X id HB.out.2.1 (fun j hj => by have := HL.out.pb j hj; have := HB.out.1; omega)
      rw [HS1.out] at hc2
      have HC2 := Lib.hid hc2
      clear hc2
      go_wp2_with fail
      refine HC2.out.mono ?_
      clear HC2
      rintro e W2 ⟨x', rfl, hX', hb2, hfr⟩
      obtain ⟨vs', vp', rfl⟩ := regv_open hX'
      have how : Ow vs0 n0 vs' := ow_same HR1.out.ow (hfr _ _ _ rfl)
      obtain ⟨⟨Av', nv', cv', evs⟩, ⟨Ap', np', cp', evp⟩⟩ := regv_kind hX'
      subst evs evp
      have hR2 := HR1.out.below hb2
      obtain ⟨W3, hW3⟩ : ∃ y : World, y = set3r W2 bw (.int .i64 r1.V) (.slice Av' nv' cv') (.slice Ap' np' cp') := ⟨_, rfl⟩
      have hO3 : Only W2 W3 bw := hW3 ▸ only3r _ _ _ _ _
      have HR3 := Lib.hid (hR2.put (r' := r1) HB.out.2.2.1 hX' how hO3 (hW3 ▸ blk3r hR2.kw _ _ _))
      have HK3 := Lib.hid ((HK1.out.trans (Kp.of_below hb2)).trans (Kp.of_w hO3))
      have HW3 := Lib.hid hW3
      have z0 := blk_frozen hR2.kw 0
      have z1 := blk_frozen hR2.kw 1
      have z2 := blk_frozen hR2.kw 2
      unfold set3r at HW3
      clear x0 x1 x2 x3 x4 y0 y1 y2 y3 q0 q1 q2 i0 t0
      obtain ⟨x0, x1, x2, x3, x4⟩ := box5a hR2.kx
      obtain ⟨y0, y1, y2, y3⟩ := box4 hR2.ky
      obtain ⟨q0, q1, q2⟩ := box3s hR2.kw
      have i0 := box1 hR2.ki
      have t0 := box1 hR2.kt
      clear hR2 hb2 hX' hW3 hO3
      go_upto_region 31 with fail
      rw [← HW3.out]
      clear HW3 z0 z1 z2 x0 x1 x2 x3 x4 y0 y1 y2 y3 q0 q1 q2 i0 t0
      obtain ⟨x0, x1, x2, x3, x4⟩ := box5a HR3.out.kx
      obtain ⟨y0, y1, y2, y3⟩ := box4 HR3.out.ky
      obtain ⟨q0, q1, q2⟩ := box3s HR3.out.kw
      have i0 := box1 HR3.out.ki
      have t0 := box1 HR3.out.kt
      go_wp2_with fail
      go_meet
      exact ⟨e1, 0, M1, r1, _, _, told, rfl, rfl, rfl, rfl, HR3.out, HL1.out, HV1.out, HK3.out⟩
  case rest =>
    clear x0 x1 x2 x3 x4 y0 y1 y2 y3 q0 q1 q2 i0 t0
    obtain ⟨ev, nv, m1, r1, vs1, vp1, told1, rfl, rfl, rfl, rfl, hR, hL, hV, hK⟩ := hcut
    obtain ⟨M4, M5, l4, l5, hc4, hc5⟩ := p_told (base := 0) (A := A) (B := B) (ca := ca) (cc := cc) (w0 := w0) (pb := pb) (mb := mb) (cb := cb) hL c
    obtain ⟨⟨Av1, nv1, cv1, evs⟩, ⟨Ap1, np1, cp1, evp⟩⟩ := regv_kind hR.X
    subst evs evp
    have HR0 := Lib.hid hR
    have HLL := Lib.hid hL
    have HVV := Lib.hid hV
    have HK0 := Lib.hid hK
    have HC := Lib.hid (hc4 hR.S hR.R)
    have HC5 := Lib.hid (fun (w : World) => hc5 (w := w))
    have HLK := Lib.hid (And.intro l4 l5)
    clear hc4 hc5 hK hL hV l4 l5
    obtain ⟨x0, x1, x2, x3, x4⟩ := box5a hR.kx
    obtain ⟨y0, y1, y2, y3⟩ := box4 hR.ky
    obtain ⟨q0, q1, q2⟩ := box3s hR.kw
    have i0 := box1 hR.ki
    have t0 := box1 hR.kt
    clear hR
    go_wp2_with fail
    refine HC.out.mono ?_
    clear HC
    rintro e W1 ⟨rfl, hS1, hF1⟩
    have HR1 := Lib.hid (HR0.out.call hS1 hF1)
    have HK1 := Lib.hid (HK0.out.trans (Kp.of_fr (bw := bw) (bt := bt) HR0.out.S.A hF1))
    clear hS1 hF1 x0 x1 x2 x3 x4 y0 y1 y2 y3 q0 q1 q2 i0 t0
    obtain ⟨x0, x1, x2, x3, x4⟩ := box5a HR1.out.kx
    obtain ⟨y0, y1, y2, y3⟩ := box4 HR1.out.ky
    obtain ⟨q0, q1, q2⟩ := box3s HR1.out.kw
    have i0 := box1 HR1.out.ki
    have t0 := box1 HR1.out.kt
    have HC := Lib.hid (HC5.out W1 HR1.out.S HR1.out.R)
    go_wp2_with fail
    refine HC.out.mono ?_
    clear HC
    rintro e W2 ⟨rfl, hS2, hF2⟩
    have HR2 := Lib.hid (HR1.out.call hS2 hF2)
    have HK2 := Lib.hid (HK1.out.trans (Kp.of_fr (bw := bw) (bt := bt) HR1.out.S.A hF2))
    clear hS2 hF2 x0 x1 x2 x3 x4 y0 y1 y2 y3 q0 q1 q2 i0 t0
    obtain ⟨x0, x1, x2, x3, x4⟩ := box5a HR2.out.kx
    obtain ⟨y0, y1, y2, y3⟩ := box4 HR2.out.ky
    obtain ⟨q0, q1, q2⟩ := box3s HR2.out.kw
    have i0 := box1 HR2.out.ki
    have t0 := box1 HR2.out.kt
    obtain ⟨lo, hlo⟩ : ∃ y, r1.least c = y := ⟨_, rfl⟩
    obtain ⟨od, hod⟩ : ∃ y, r1.oldest c = y := ⟨_, rfl⟩
    rw [hlo, hod]
    have hc6 := rgleast_calls HR2.out.X c
    rw [hlo] at hc6
    have HC6 := Lib.hid hc6
    have HOD := Lib.hid hod
    have b1 : (ev == ev) = true := by simp
    have b2 : (nv == nv) = true := by simp
    have b3 : (lo == lo) = true := by simp
    have b4 : (od == od) = true := by simp
    clear hlo hod hc6
    go_wp2_with fail
    refine HC6.out.mono ?_
    clear HC6
    rintro e W3 ⟨rfl, hb3⟩
    have HR3 := Lib.hid (HR2.out.below hb3)
    have HK3 := Lib.hid (HK2.out.trans (Kp.of_below (bw := bw) (bt := bt) hb3))
    have hc7 := rgoldest_calls HR3.out.X c
    rw [HOD.out] at hc7
    have HC7 := Lib.hid hc7
    clear hb3 hc7 x0 x1 x2 x3 x4 y0 y1 y2 y3 q0 q1 q2 i0 t0
    obtain ⟨x0, x1, x2, x3, x4⟩ := box5a HR3.out.kx
    obtain ⟨y0, y1, y2, y3⟩ := box4 HR3.out.ky
    obtain ⟨q0, q1, q2⟩ := box3s HR3.out.kw
    have i0 := box1 HR3.out.ki
    have t0 := box1 HR3.out.kt
    go_wp2_with fail
    refine HC7.out.mono ?_
    rintro e W4 ⟨rfl, hb4⟩
    have HR4 := Lib.hid (HR3.out.below hb4)
    have HK4 := Lib.hid (HK3.out.trans (Kp.of_below (bw := bw) (bt := bt) hb4))
    clear hb4 HC7 x0 x1 x2 x3 x4 y0 y1 y2 y3 q0 q1 q2 i0 t0
    go_wp2_with fail
    go_ret
    exact ⟨rfl, M5, r1, _, _, told1, HR4.out, HLL.out.like HLK.out.2, HVV.out, HK4.out⟩
end
end Go.Proofs.Ytahnmklofgnagaa.Mem
