/- NodeBack, by hand: what is made is told again as it was made; undone it leaves nothing. -/
import Derived.Test.YtcfbjcadpcedhaaNBack0
import Derived.Test.YtcfbjcadpcedhaaNAwake
import Derived.IntWalk
import Derived.BigQuiet
namespace Go.Proofs.Ytcfbjcadpcedhaa.Mem
open Go.RowKit Go.Proofs.YtcfbjcadpcedhaaW.PrintWords Go.Proofs.YtcfbjcadpcedhaaW.PrintLast Go.Proofs.Ytcfbjcadpcedhaa.Tags
set_option linter.unusedVariables false
set_option linter.unusedSimpArgs false
section
variable {w0 w w' W : World} {pb mb cb : Nat} {m m' : M}
theorem RdT.only_ {b : Nat} {A : Option Addr} {xs : List Int} (h : RdT w A xs) (k : Only w w' b) (hne : ∀ ad, A = some ad → ad.block ≠ b) : RdT w' A xs := by
  have hk : ∀ ad, A = some ad → w'.heap[ad.block]? = w.heap[ad.block]? := fun ad e => k.block _ (hne ad e)
  refine ⟨⟨h.1.1, h.1.2.1, fun hn => ?_⟩, fun ad e => ?_⟩
  · obtain ⟨ad, e, hc⟩ := h.1.2.2 hn
    exact ⟨ad, e, fun j hj => (World.cell?_of_block (a := ad.add j) (by rw [show (ad.add j).block = ad.block by unfold Addr.add; split <;> rfl]; exact hk ad e)).trans (hc j hj)⟩
  · obtain ⟨e1, cs', hc⟩ := h.2 ad e
    exact ⟨e1, cs', (hk ad e).trans hc⟩
/-- The own copy while it is counted down: whole numbers, in a block of its own. -/
def OwnC (w wr : World) (Ao AN : Option Addr) (n : Nat) : Prop := n = 0 ∨ ∃ (g : Nat) (cs : Array Value), Ao = some ⟨g, 0, none⟩ ∧ wr.heap[g]? = some (.cells cs 3 (0, 0)) ∧ w.heap.size ≤ g ∧ (∀ ad, AN = some ad → ad.block ≠ g) ∧ ∀ j, j < n → ∃ x : Int, cs[j]? = some (.int .i64 x)
structure CB (w0 w : World) (pb mb cb : Nat) (m : M) (Ao AN : Option Addr) (n : Nat) (rest : List Int) (wr : World) : Prop where
  F : Fr w wr mb cb
  S : St w0 wr pb mb cb m
  R : RdT wr AN rest
  O : OwnC w wr Ao AN n
theorem CB.set {Ao AN : Option Addr} {n : Nat} {rest : List Int} {wr : World} (h : CB w0 w pb mb cb m Ao AN n rest wr) (h0 : w0.heap.size ≤ w.heap.size) {k g : Nat} (hk : k < n) (e : Ao = some ⟨g, 0, none⟩) (z : Int) : CB w0 w pb mb cb m Ao AN n rest (wr.setCell ⟨g, k, none⟩ (.int .i64 z)) := by
  obtain ⟨hF, hS, hR, hO⟩ := h
  rcases hO with hn | ⟨g', cs, e', hg, hw, hne, hcs⟩
  · omega
  rw [e'] at e
  injection e with e
  injection e with e
  subst e
  have ho := Only.set wr ⟨g', k, none⟩ (.int .i64 z)
  refine ⟨hF.only ho hw, hS.only ho hg (by decide) (by decide) (by decide) (by simp only; omega), hR.only_ ho hne, Or.inr ⟨g', _, e', blk_put hg k _ rfl, hw, hne, fun j hj => ?_⟩⟩
  by_cases hjk : j = k
  · subst hjk
    obtain ⟨x, hx⟩ := hcs j hj
    have hlt : j < cs.size := (Array.getElem?_eq_some_iff.1 hx).1
    exact ⟨z, by rw [Array.getElem?_setIfInBounds]; simp [hlt]⟩
  · obtain ⟨x, hx⟩ := hcs j hj
    exact ⟨x, by rw [Array.getElem?_setIfInBounds_ne (Ne.symm hjk)]; exact hx⟩
theorem OwnI.toC {base c : Nat} {A AN : Option Addr} {xs : List Int} {wr : World} (h : OwnI wr base (.slice A xs.length c) xs) (hb : w.heap.size ≤ base) (hne : ∀ ad g, AN = some ad → A = some ⟨g, 0, none⟩ → ad.block ≠ g) (hl : xs.length ≤ 1000000) : OwnC w wr A AN xs.length := by
  by_cases hn : xs.length = 0
  · exact Or.inl hn
  · obtain ⟨g, e, _⟩ := h.cell 0 (by omega)
    subst e
    obtain ⟨cs, hg⟩ := own_typed h g rfl
    refine Or.inr ⟨g, cs, rfl, hg, Nat.le_trans hb (h.base_ (Nat.le_refl _) g rfl), fun ad e => hne ad g e rfl, fun j hj => ?_⟩
    obtain ⟨g', e', hc⟩ := h.cell j hj
    injection e' with e'
    injection e' with e'
    subst e'
    rw [blk_cell hg] at hc
    exact ⟨_, hc⟩
theorem live_qq (h : At w mb cb m) {c : Int} (e : m.live = c) (n : Nat) : Calls Try.prog 16 #[ptr mb] (w.drewN n) fun e w'' => e = .returned (.int .i64 c) ∧ ∃ k, w'' = w.drewN k := by
  subst e
  exact (live_calls (h.drewN n)).mono fun _ _ ⟨h1, h2⟩ => ⟨h1, n, h2.symm⟩
theorem qWord_val (h : St w0 w pb mb cb m) {x z : Int} (hv : m.val x = some (number z)) : Calls Try.prog 34 #[ptr pb, .int .i64 x] w (Endp w0 w pb mb cb (.tuple #[.int .i64 z, .int .i64 0]) m.tick) := by
  have := qWord h x
  rw [word_val hv] at this
  exact this
/-- What holds while the links' words are read. -/
structure CD (w0 w : World) (pb mb cb : Nat) (q : Nat) (low : ByteArray) (head ver : Int) (ls : List Int) (H t0 : Int) (rest : List Int) (AN : Option Addr) (cN : Nat) (x1 x2 : Int) (bn B : Nat) (Aw : Option Addr) (cw : Nat) (wr : World) : Prop where
  F : Fr w wr mb cb
  S : ∃ mk, Back mk 60 q low head ver ls H t0 rest AN cN x1 x2 ∧ St w0 wr pb mb cb mk
  R : RdT wr AN rest
  kn : wr.heap[bn]? = some (.cells #[.string low, .int .i64 t0, .slice AN q cN] 46 (0, 0))
  O : OwnI wr B (.slice Aw (H :: t0 :: rest).length cw) (H :: t0 :: rest)
theorem CD.drewN {q : Nat} {low : ByteArray} {head ver : Int} {ls : List Int} {H t0 : Int} {rest : List Int} {AN : Option Addr} {cN : Nat} {x1 x2 : Int} {bn B : Nat} {Aw : Option Addr} {cw : Nat} {wr : World} (h : CD w0 w pb mb cb q low head ver ls H t0 rest AN cN x1 x2 bn B Aw cw wr) (n : Nat) : CD w0 w pb mb cb q low head ver ls H t0 rest AN cN x1 x2 bn B Aw cw (wr.drewN n) := by
  obtain ⟨h1, ⟨mk, h2, h3⟩, h4, h5, h6⟩ := h
  have hb := pw_below_drewN (Below.refl wr.heap.size wr) n
  exact ⟨h1.drewN n, ⟨mk, h2, h3.drewN n⟩, h4.below hb, h5, h6.below hb⟩
set_option maxHeartbeats 6400000 in
set_option maxRecDepth 100000 in
theorem NodeBack_fn (h : St w0 w pb mb cb (M.new 60)) {ls : List Int} {Al : Option Addr} {cl : Nat} {low : ByteArray} {head ver : Int} {bl bo bh bv bm : Nat} (hll : ls.length ≤ 30) (hlow : low.size ≤ 2000)
    (kl : w.heap[bl]? = some (.cells #[.slice Al ls.length cl] 32 (0, 0))) (ko : w.heap[bo]? = some (.cells #[.string low] 9 (0, 0))) (kh : w.heap[bh]? = some (.cells #[.int .i64 head] 3 (0, 0))) (kv : w.heap[bv]? = some (.cells #[.int .i64 ver] 3 (0, 0))) (km : w.heap[bm]? = some (.cells #[ptr mb] 23 (0, 0)))
    (hL : ∀ W, Fr w W mb cb → Rd W Al ls) :
    Calls Try.prog 31 #[ptr pb, .pointer (some ⟨bl, 0, none⟩), .pointer (some ⟨bo, 0, none⟩), .pointer (some ⟨bh, 0, none⟩), .pointer (some ⟨bv, 0, none⟩), .pointer (some ⟨bm, 0, none⟩)] w fun e w' => e = .returned (.iface 4 (.bool true)) ∧ Fr w w' mb cb := by
  have hsw : w0.heap.size ≤ w.heap.size := h.F.size
  have BX := Lib.hid (show ∀ W, Fr w W mb cb → W.heap[bl]? = some (.cells #[.slice Al ls.length cl] 32 (0, 0)) ∧ W.heap[bo]? = some (.cells #[.string low] 9 (0, 0)) ∧ W.heap[bh]? = some (.cells #[.int .i64 head] 3 (0, 0)) ∧ W.heap[bv]? = some (.cells #[.int .i64 ver] 3 (0, 0)) ∧ W.heap[bm]? = some (.cells #[ptr mb] 23 (0, 0)) from fun W hF => ⟨hF.blk h.A kl (by decide) (by decide), hF.blk h.A ko (by decide) (by decide), hF.blk h.A kh (by decide) (by decide), hF.blk h.A kv (by decide) (by decide), hF.blk h.A km (by decide) (by decide)⟩)
  have HL := Lib.hid hL
  have hl2 : ls.length ≤ 1000000 := by omega
  have hbe : Below w.heap.size w (w.alloc (.cells #[] 3)) := below_alloc (Below.refl _ _) _
  have hOe : OwnI (w.alloc (.cells #[] 3)) w.heap.size (.slice (some ⟨w.heap.size, 0, none⟩) 0 0) [] := World.ownsRow_lit w #[] 0 (Nat.le_refl _) (by simp [maxLen]) rfl
  have hRe := hL _ (Fr.of_below hbe mb cb)
  have le0 : (w.alloc (.cells #[] 3)).cell? ⟨bl, 0, none⟩ = some (.slice Al ls.length cl) := box1 (blk_below kl hbe)
  have H0 := Lib.hid h
  clear kl ko kh kv km hL h
  go_enter Try.func31, Try.ntmps31
  go_wp2_with (at_builtin; refine print_append_row (w0 := w) w.heap.size rfl _ _ 32 3 .i64 8 rfl Try.underlying32 int_info (by decide) (.slice (some ⟨w.heap.size, 0, none⟩) 0 0) [] ls Al ls.length cl rfl rfl hOe hRe hbe (by simp) (by simp; omega) ?_)
  intro v1 W1 hown hb1 _ _
  have hO1 : OwnI W1 w.heap.size v1 ls := by
    unfold OwnI
    exact hown
  obtain ⟨Ao, co, rfl⟩ := hO1.slice
  have h1 := H0.out.below hb1
  have HF1 := Lib.hid (Fr.of_below hb1 mb cb)
  have HS1 := Lib.hid hb1.size
  clear hown hbe hOe hRe le0 hb1
  obtain ⟨kl, ko, kh, kv, km⟩ := BX.out _ HF1.out
  have l0 := box1 kl
  have o0 := box1 ko
  have h0 := box1 kh
  clear kl ko kh kv km
  have hro := hO1.rd hl2
  go_wp2_with fail
  refine (make_calls h1 low head hro (by omega)).mono ?_
  rintro e W2 hE
  obtain ⟨M1, H, t0, rest, AN, cN, rfl, hMd, hRN, hbN, h2, hF2⟩ := make_room (k := ls.length) rfl (by omega) (by omega) hE
  have hO2 := hO1.fr h1.A hF2
  have HF2 := Lib.hid (HF1.out.trans hF2)
  have HMD := Lib.hid hMd
  have hOC : OwnC w W2 Ao AN ls.length := hO2.toC (Nat.le_refl _) (fun ad g e1 e2 e3 => by
    have := hbN ad e1
    rw [e2] at hO1
    have := hO1.lt (k := g) rfl
    omega) hl2
  have K2 := Lib.hid (show CB w0 w pb mb cb M1 Ao AN ls.length rest W2 from ⟨HF2.out, h2, hRN, hOC⟩)
  clear hE hMd hRN hbN h2 hF2 hO2 hOC hO1 hro h1 l0 o0 h0 HF2 HF1 HS1
  go_wp2_with fail
  go_loopw [11] (fun i wr => ∃ k : Nat, k ≤ ls.length ∧ i = .int .i64 k ∧ CB w0 w pb mb cb M1 Ao AN ls.length rest wr) (fun i _ => ls.length - (intOf i).toNat)
  case atStart => exact ⟨0, by omega, rfl, K2.out⟩
  case round =>
    clear K2
    obtain ⟨k, hk, rfl, hK⟩ := hrel
    by_cases hlt : k < ls.length
    · have g1 : decide (k < ls.length) = true := decide_eq_true hlt
      have hK' := hK
      obtain ⟨hF, hS, hR, hO⟩ := hK'
      rcases hO with hn | ⟨g, cs, rfl, hg, hgw, hne, hcs⟩
      · omega
      obtain ⟨x, hx⟩ := hcs k hlt
      have c0 : wr.cell? ⟨g, k, none⟩ = some (.int .i64 x) := (blk_cell hg k).trans hx
      have z0 := blk_frozen hg k
      have K3 := Lib.hid (fun z => hK.set hsw hlt rfl z)
      clear hK hF hS hR hg hgw hne hcs hx
      go_wp2_with fail
      go_roundw
      case rel => exact ⟨k + 1, by omega, by go_num, K3.out _⟩
      case measure => simp [intOf]; omega
    · have g1 : decide (k < ls.length) = false := decide_eq_false hlt
      obtain ⟨hF, hS, hR, -⟩ := hK
      have HF := Lib.hid hF
      clear hF
      obtain ⟨kl, ko, kh, kv, km⟩ := BX.out _ HF.out
      have v0 := box1 kv
      have hrl : rest.length = ls.length := HMD.out.l
      obtain ⟨Ma, M2, x1, x2, e1, e2, hBk⟩ := HMD.out.lay (by omega) ver
      have HBK := Lib.hid hBk
      have HR := Lib.hid hR
      have hH : M2.val H = some (.iface 46 (Nd.v ⟨low, t0, AN, ls.length, cN⟩)) := hrl ▸ hBk.H_
      have HLY := Lib.hid (lay_ok hS ver false H e1 e2)
      have HH := Lib.hid hH
      have HRL := Lib.hid hrl
      clear e1 e2 hBk hH kl ko kh kv km hrl hR
      go_wp2_with fail
      refine HLY.out.mono ?_
      rintro e W3 ⟨rfl, h3, hF3⟩
      have hR3 := HR.out.fr hS.A hF3
      have HF3 := Lib.hid (HF.out.trans hF3)
      have HLD := Lib.hid (nload_ok h3 HH.out)
      clear HLY hS hF3 v0 HF HR
      go_wp2_with fail
      refine HLD.out.mono ?_
      rintro e W4 ⟨rfl, h4, hF4⟩
      have hR4 := hR3.fr h3.A hF4
      have HF4 := Lib.hid (HF3.out.trans hF4)
      clear HLD h3 hF4 HF3 hR3
      obtain ⟨W5, hW5⟩ : ∃ W5 : World, W5 = W4.alloc (nodC ⟨low, t0, AN, ls.length, cN⟩) := ⟨_, rfl⟩
      have hb5 : Below W4.heap.size W4 W5 := hW5 ▸ below_alloc (Below.refl _ _) _
      have kn5 : W5.heap[W4.heap.size]? = some (.cells #[.string low, .int .i64 t0, .slice AN ls.length cN] 46 (0, 0)) := hW5 ▸ blk_new _ _
      have h5 := h4.below hb5
      have hR5 := hR4.below hb5
      have HF5 := Lib.hid (HF4.out.below hb5)
      have HW5 := Lib.hid hW5
      clear hW5 hb5 h4 hR4 HF4
      go_upto_region 9 with fail
      rw [← HW5.out]
      clear HW5
      have HTK := Lib.hid (take_ok h5 ((tick_val M2 x2).trans HBK.out.a))
      go_wp2_with fail
      refine HTK.out.mono ?_
      rintro e W6 ⟨rfl, h6, hF6⟩
      have kn6 := hF6.blk h5.A kn5 (by decide) (by decide)
      have hR6 := hR5.fr h5.A hF6
      have HF6 := Lib.hid (HF5.out.trans hF6)
      clear HTK h5 hF6 HF5 hR5 kn5
      obtain ⟨W7, hW7⟩ : ∃ W7 : World, W7 = W6.alloc (ageC ⟨ver, false, x1⟩) := ⟨_, rfl⟩
      have hb7 : Below W6.heap.size W6 W7 := hW7 ▸ below_alloc (Below.refl _ _) _
      have ka7 : W7.heap[W6.heap.size]? = some (.cells #[.int .i64 ver, .int .i64 0, .string ⟨#[]⟩, .string ⟨#[]⟩, .bool false, .bool false, .slice none 0 0, .slice none 0 0, .slice none 0 0, .slice none 0 0, .int .i64 x1] 52 (0, 0)) := hW7 ▸ blk_new _ _
      have h7 := h6.below hb7
      have kn7 := blk_below kn6 hb7
      have hR7 := hR6.below hb7
      have HF7 := Lib.hid (HF6.out.below hb7)
      have HW7 := Lib.hid hW7
      clear hW7 hb7 h6 hR6 HF6 kn6
      go_upto_region 10 with fail
      rw [← HW7.out]
      clear HW7
      obtain ⟨d0, d1, d2⟩ := box3 kn7
      have hown := own_calls (k := cN) low H t0 hR7 (by have := HRL.out; omega)
      rw [HRL.out] at hown
      have HOW := Lib.hid hown
      clear hown
      go_wp2_with fail
      refine HOW.out.mono ?_
      rintro e W8 ⟨v8, rfl, hO8, hb8⟩
      obtain ⟨Aw, cw, rfl⟩ := hO8.slice
      have h8 := h7.below hb8
      have kn8 := blk_below kn7 hb8
      have ka8 := blk_below ka7 hb8
      have hR8 := hR7.below hb8
      have HF8 := Lib.hid (HF7.out.below hb8)
      clear hb8 h7 kn7 ka7 hR7 HF7 HOW d0 d1 d2
      obtain ⟨kl, ko, kh, kv, km⟩ := BX.out _ HF8.out
      have l0 := box1 kl
      have o0 := box1 ko
      have h0 := box1 kh
      have v0 := box1 kv
      have m0 := box1 km
      obtain ⟨d0, d1, d2⟩ := box3 kn8
      obtain ⟨a0, a1, a2, a3, a4, a5, a6, a7, a8, a9, a10⟩ := box11 ka8
      obtain ⟨gw, egw, hc0⟩ := hO8.cell 0 (by simp)
      subst egw
      have hc1 := hO8.cell_at (j := 1) (by simp)
      have c0 : W8.cell? ⟨gw, 0, none⟩ = some (.int .i64 H) := hc0
      have c1 : W8.cell? ⟨gw, 1, none⟩ = some (.int .i64 t0) := hc1
      obtain ⟨q2, hq2⟩ : ∃ q2, ls.length + 2 = q2 := ⟨_, rfl⟩
      obtain ⟨q4, hq4⟩ : ∃ q4, ls.length + 4 = q4 := ⟨_, rfl⟩
      have hlv : M2.tick.tick.live = (q4 : Int) := by
        have := HBK.out.S.live
        rw [show M2.tick.tick.live = M2.live from rfl, this, ← hq4]
      have HLV := Lib.hid hlv
      have HAT := Lib.hid h8.A
      have hql : (H :: t0 :: rest).length = q2 := by rw [← hq2, ← HRL.out]; rfl
      have e2 : (ls.length : Int) + 2 = (q2 : Int) := by omega
      have w2 : IntKind.i64.wrap (q2 : Int) = (q2 : Int) := IntWalk.i64_in _ (by omega)
      have e4 : (ls.length : Int) + 4 = (q4 : Int) := by omega
      have w4 : IntKind.i64.wrap (q4 : Int) = (q4 : Int) := IntWalk.i64_in _ (by omega)
      have p0 : 0 < q2 := by omega
      have p1 : decide (0 < q2) = true := decide_eq_true p0
      have p2 : decide (1 < q2) = true := decide_eq_true (by omega)
      have p3 : (0 : Int) < (q2 : Int) := by omega
      have p4 : (1 : Int) < (q2 : Int) := by omega
      have p5 : 1 < q2 := by omega
      have K8 := Lib.hid (show CD w0 w pb mb cb ls.length low head ver ls H t0 rest AN cN x1 x2 W4.heap.size W7.heap.size (some ⟨gw, 0, none⟩) cw W8 from ⟨HF8.out, ⟨_, HBK.out.cells (m' := M2.tick.tick) rfl rfl, h8⟩, hR8, kn8, hO8⟩)
      have HKA := Lib.hid ka8
      rw [hql]
      clear hlv hq2 hq4 hc0 hc1 h8 kn8 ka8 hR8 hO8 hql kl ko kh kv km HF8
      go_upto_region 11 with fail
      go_quiet ((go_at_call 16; exact live_qq HAT.out HLV.out _))
      obtain ⟨W9, hW9⟩ : ∃ W9, W8.drewN nq = W9 := ⟨_, rfl⟩
      have K9 := Lib.hid (show CD w0 w pb mb cb ls.length low head ver ls H t0 rest AN cN x1 x2 W4.heap.size W7.heap.size (some ⟨gw, 0, none⟩) cw W9 from hW9 ▸ K8.out.drewN nq)
      have ka9 : W9.heap[W6.heap.size]? = some (.cells #[.int .i64 ver, .int .i64 0, .string ⟨#[]⟩, .string ⟨#[]⟩, .bool false, .bool false, .slice none 0 0, .slice none 0 0, .slice none 0 0, .slice none 0 0, .int .i64 x1] 52 (0, 0)) := by
        rw [← hW9]
        exact HKA.out
      rw [hW9]
      clear hW9 K8 HKA l0 o0 h0 v0 m0 d0 d1 d2 a0 a1 a2 a3 a4 a5 a6 a7 a8 a9 a10 c0 c1 HAT HLV
      obtain ⟨mk9, hB9, hS9⟩ := K9.out.S
      obtain ⟨d0, d1, d2⟩ := box3 K9.out.kn
      have HWD := Lib.hid (qWord_val hS9 hB9.w0)
      go_wp2_with fail
      refine HWD.out.mono ?_
      rintro e W10 ⟨rfl, h10, hF10⟩
      have ka10 := hF10.blk hS9.A ka9 (by decide) (by decide)
      have K10 := Lib.hid (show CD w0 w pb mb cb ls.length low head ver ls H t0 rest AN cN x1 x2 W4.heap.size W7.heap.size (some ⟨gw, 0, none⟩) cw W10 from ⟨K9.out.F.trans hF10, ⟨_, hB9.cells (m' := mk9.tick) rfl rfl, h10⟩, K9.out.R.fr hS9.A hF10, hF10.blk hS9.A K9.out.kn (by decide) (by decide), K9.out.O.fr hS9.A hF10⟩)
      clear hB9 hS9 h10 hF10 ka9 K9 d0 d1 d2 HWD
      obtain ⟨mk10, hB10, hS10⟩ := K10.out.S
      obtain ⟨a0, a1, a2, a3, a4, a5, a6, a7, a8, a9, a10⟩ := box11 ka10
      have HWD := Lib.hid (qWord_val hS10 hB10.p)
      go_wp2_with fail
      refine HWD.out.mono ?_
      rintro e W11 ⟨rfl, h11, hF11⟩
      have K11 := Lib.hid (show CD w0 w pb mb cb ls.length low head ver ls H t0 rest AN cN x1 x2 W4.heap.size W7.heap.size (some ⟨gw, 0, none⟩) cw W11 from ⟨K10.out.F.trans hF11, ⟨_, hB10.cells (m' := mk10.tick) rfl rfl, h11⟩, K10.out.R.fr hS10.A hF11, hF11.blk hS10.A K10.out.kn (by decide) (by decide), K10.out.O.fr hS10.A hF11⟩)
      clear hB10 hS10 h11 hF11 ka10 K10 a0 a1 a2 a3 a4 a5 a6 a7 a8 a9 a10 HWD
      obtain ⟨kl, ko, kh, kv, km⟩ := BX.out _ K11.out.F
      have h0 := box1 kh
      clear kl ko kh kv km
      go_wp2_with fail
      go_loopw [23] (fun i wr2 => ∃ k : Nat, k ≤ ls.length ∧ i = .int .i64 k ∧ CD w0 w pb mb cb ls.length low head ver ls H t0 rest AN cN x1 x2 W4.heap.size W7.heap.size (some ⟨gw, 0, none⟩) cw wr2) (fun i _ => ls.length - (intOf i).toNat)
      case atStart => exact ⟨0, by omega, rfl, K11.out⟩
      case round =>
        clear K11 h0
        obtain ⟨k2, hk2, rfl, hK⟩ := hrel
        have K12 := Lib.hid hK
        obtain ⟨kl, ko, kh, kv, km⟩ := BX.out _ hK.F
        have l0 := box1 kl
        have m0 := box1 km
        obtain ⟨d0, d1, d2⟩ := box3 hK.kn
        obtain ⟨mk, hB, hS⟩ := hK.S
        clear hK kl ko kh kv km
        by_cases hlt2 : k2 < ls.length
        · have g3 : decide (k2 < ls.length) = true := decide_eq_true hlt2
          have hlt3 : k2 < rest.length := by have := HRL.out; omega
          obtain ⟨g, o, eg, hcl⟩ := K12.out.R.at_ k2 hlt3
          obtain ⟨y, hy⟩ : ∃ y, rest.getD k2 0 = y := ⟨_, rfl⟩
          have hv := hB.ws k2 hlt3
          rw [hy] at hcl hv
          obtain ⟨z, hz⟩ : ∃ z, ls.getD k2 0 = z := ⟨_, rfl⟩
          rw [hz] at hv
          have HY := Lib.hid hy
          have HZ := Lib.hid hz
          have HWD := Lib.hid (qWord_val hS hv)
          have HBB := Lib.hid hB
          have HEG := Lib.hid eg
          subst eg
          clear hy hz hv hB
          go_wp2_with fail
          refine HWD.out.mono ?_
          rintro e W12 ⟨rfl, h12, hF12⟩
          have K13 := Lib.hid (show CD w0 w pb mb cb ls.length low head ver ls H t0 rest (some ⟨g, o, none⟩) cN x1 x2 W4.heap.size W7.heap.size (some ⟨gw, 0, none⟩) cw W12 from ⟨K12.out.F.trans hF12, ⟨_, HBB.out.cells (m' := mk.tick) rfl rfl, h12⟩, K12.out.R.fr hS.A hF12, hF12.blk hS.A K12.out.kn (by decide) (by decide), K12.out.O.fr hS.A hF12⟩)
          clear hS h12 hF12 K12 HBB HWD l0 m0 d0 d1 d2 hcl
          obtain ⟨kl, ko, kh, kv, km⟩ := BX.out _ K13.out.F
          have l0 := box1 kl
          obtain ⟨d0, d1, d2⟩ := box3 K13.out.kn
          obtain ⟨g', o', eg', hcl⟩ := K13.out.R.at_ k2 hlt3
          injection eg' with eg'
          injection eg' with eg1 eg2 eg3
          subst eg1 eg2
          rw [HY.out] at hcl
          obtain ⟨ad, ea, hcell⟩ := (HL.out _ K13.out.F).2.2 (by omega)
          have hck := hcell k2 hlt2
          rw [HZ.out] at hck
          subst ea
          obtain ⟨n2, hn2⟩ : ∃ n2, k2 + 2 = n2 := ⟨_, rfl⟩
          have e3 : (k2 : Int) + 2 = (n2 : Int) := by omega
          have w3 : IntKind.i64.wrap (n2 : Int) = (n2 : Int) := IntWalk.i64_in _ (by omega)
          have hql : (H :: t0 :: rest).length = q2 := by simp only [List.length_cons]; have := HRL.out; omega
          have p6 : n2 < q2 := by omega
          have p7 : decide (n2 < q2) = true := decide_eq_true p6
          have ho := K13.out.O.cell_at (j := n2) (by rw [hql]; exact p6)
          rw [show (H :: t0 :: rest).getD n2 0 = y by rw [← hn2, ← HY.out]; rfl] at ho
          have HQL := Lib.hid hql
          clear hcell hn2 hql kl ko kh kv km
          go_upto_region 21 with fail
          go_quiet (fail)
          have K14 := Lib.hid (K13.out.drewN nq)
          clear K13
          go_wp2_with fail
          go_roundw
          case rel => exact ⟨k2 + 1, by omega, by go_num, K14.out⟩
          case measure => simp [intOf]; omega
        · have g3 : decide (k2 < ls.length) = false := decide_eq_false hlt2
          obtain ⟨u1, u2⟩ := (hB.cells (m' := mk.tick) rfl rfl).undone (by omega)
          obtain ⟨gg, u3, u4, u5, u6⟩ := u2
          have hun := nundo_ok hS (xs := rest) (k := cN) K12.out.R (by have := HRL.out; omega) hB.H_
          rw [u1] at hun
          have HUN := Lib.hid hun
          have HF12 := Lib.hid K12.out.F
          obtain ⟨v1', v2'⟩ := lifted_all (u3.tick) u4 ((tick_val _ x2).trans u5) ((tick_val _ x1).trans u6) HBK.out.d
          have HU := Lib.hid (And.intro u3.live (And.intro u5 (And.intro v1' v2')))
          have hA := hS.A
          clear u1 u3 u4 u5 u6 hun K12 hB v1' v2'
          go_wp2_with fail
          refine HUN.out.mono ?_
          rintro e W13 ⟨rfl, h13, hF13⟩
          have HF13 := Lib.hid (HF12.out.trans hF13)
          clear hF13 HF12 HUN l0 d0 d1 d2 m0 hS hA
          obtain ⟨kl, ko, kh, kv, km⟩ := BX.out _ HF13.out
          have m0 := box1 km
          clear kl ko kh kv km
          go_wp2_with fail
          refine (live_w h13.A HU.out.1).mono ?_
          rintro e w14 ⟨rfl, rfl⟩
          have hlf := lift_ok h13 HU.out.2.1
          rw [HU.out.2.2.1] at hlf
          have HLF := Lib.hid hlf
          clear hlf
          go_wp2_with fail
          refine HLF.out.mono ?_
          rintro e W15 ⟨rfl, h15, hF15⟩
          have HF15 := Lib.hid (HF13.out.trans hF15)
          clear hF15 HF13 HLF m0
          obtain ⟨kl, ko, kh, kv, km⟩ := BX.out _ HF15.out
          have m0 := box1 km
          clear kl ko kh kv km
          go_wp2_with fail
          refine (live_w h15.A HU.out.2.2.2).mono ?_
          rintro e w16 ⟨rfl, rfl⟩
          go_wp2_with fail
          go_ret
          exact ⟨rfl, HF15.out⟩
theorem do5_calls {K : Nat} {c1 c2 c3 c4 c5 : Value} {v : Value} {Q : World → Prop} (hK : ∀ args W, (callFunc K args).run Try.prog W = .ok (.enter K args) W) (hd : Calls Try.prog K #[ptr w.heap.size, c1, c2, c3, c4, c5] (w.alloc (port0 mb)) fun e w' => e = .returned v ∧ Q w') :
    Calls Try.prog 13 #[ptr mb, .func (Fn.func K) #[] #[c1, c2, c3, c4, c5]] w fun e w' => e = .returned v ∧ Q w' := by
  have hk := hK #[ptr w.heap.size, c1, c2, c3, c4, c5]
  have HD := Lib.hid hd
  clear hK hd
  go_enter Try.func13, Try.ntmps13
  go_wp2_with fail
  refine HD.out.mono ?_
  rintro e W ⟨rfl, hq⟩
  have HQ := Lib.hid hq
  clear hq
  go_wp2_with fail
  go_ret
  exact ⟨rfl, HQ.out⟩
set_option maxHeartbeats 6400000 in
set_option maxRecDepth 100000 in
theorem NodeBack_walk (low : ByteArray) (head : Int) (Al : Option Addr) (cl : Nat) (ls : List Int) (ver : Int) (w : World) (hR : (Kd.int .i64).C w Al ls.length ls) :
    Calls Try.prog 7 #[.string low, .int .i64 head, .slice Al ls.length cl, .int .i64 ver] w fun e w' => e = .returned (.bool true) ∧ Below w.heap.size w w' := by
  obtain ⟨W1, hW1⟩ : ∃ W1 : World, W1 = (((w.alloc (.cells #[.string low] 9)).alloc (.cells #[.int .i64 head] 3)).alloc (.cells #[.slice Al ls.length cl] 32)).alloc (.cells #[.int .i64 ver] 3) := ⟨_, rfl⟩
  have hB1 : Below w.heap.size w W1 := hW1 ▸ below_alloc (below_alloc (below_alloc (below_alloc (Below.refl _ _) _) _) _) _
  obtain ⟨X1, hX1⟩ : ∃ X1 : World, X1 = w.alloc (.cells #[.string low] 9) := ⟨_, rfl⟩
  obtain ⟨X2, hX2⟩ : ∃ X2 : World, X2 = X1.alloc (.cells #[.int .i64 head] 3) := ⟨_, rfl⟩
  obtain ⟨X3, hX3⟩ : ∃ X3 : World, X3 = X2.alloc (.cells #[.slice Al ls.length cl] 32) := ⟨_, rfl⟩
  have e1 : X1.heap.size = w.heap.size + 1 := by rw [hX1]; simp
  have e2 : X2.heap.size = w.heap.size + 2 := by rw [hX2]; simp [e1]
  have e3 : X3.heap.size = w.heap.size + 3 := by rw [hX3]; simp [e2]
  have hWX : W1 = X3.alloc (.cells #[.int .i64 ver] 3) := by rw [hW1, hX3, hX2, hX1]
  have ko : W1.heap[w.heap.size]? = some (.cells #[.string low] 9 (0, 0)) := by
    rw [hWX, hX3, hX2]
    exact blk_alloc (blk_alloc (blk_alloc (hX1 ▸ blk_new _ _) _) _) _
  have kh : W1.heap[w.heap.size + 1]? = some (.cells #[.int .i64 head] 3 (0, 0)) := by
    rw [hWX, hX3, ← e1]
    exact blk_alloc (blk_alloc (hX2 ▸ blk_new _ _) _) _
  have kl : W1.heap[w.heap.size + 2]? = some (.cells #[.slice Al ls.length cl] 32 (0, 0)) := by
    rw [hWX, ← e2]
    exact blk_alloc (hX3 ▸ blk_new _ _) _
  have kv : W1.heap[w.heap.size + 3]? = some (.cells #[.int .i64 ver] 3 (0, 0)) := by
    rw [hWX, ← e3]
    exact blk_new _ _
  have HR := Lib.hid (i64_row hR)
  have hz1 : W1.heap.size = w.heap.size + 4 := by rw [hWX]; simp [e3]
  have HW1 := Lib.hid hW1
  clear hW1 hX1 hX2 hX3 hWX hR e1 e2 e3
  go_enter Try.func7, Try.ntmps7
  go_upto_region 1 with fail
  rw [← HW1.out]
  clear HW1
  have hs1 := hB1.size
  by_cases hlow : 2000 < low.size
  · have g1 : decide (2000 < low.size) = true := decide_eq_true hlow
    have g2 : decide ((2000 : Int) < (low.size : Int)) = true := decide_eq_true (by omega)
    go_wp2_with fail
    refine (nawake_calls W1).mono ?_
    rintro e W2 ⟨rfl, hB2⟩
    have HB2 := Lib.hid (below_then hB1 hs1 hB2)
    have o0 := box1 (blk_below ko hB2)
    have l0 := box1 (blk_below kl hB2)
    clear hB2
    go_wp2_with fail
    refine (nawake_calls W2).mono ?_
    rintro e W3 ⟨rfl, hB3⟩
    have HB3 := Lib.hid (below_then HB2.out HB2.out.size hB3)
    clear hB3
    go_wp2_with fail
    go_ret
    exact ⟨rfl, HB3.out⟩
  have g1 : decide (2000 < low.size) = false := decide_eq_false hlow
  have g2 : decide ((2000 : Int) < (low.size : Int)) = false := decide_eq_false (by omega)
  by_cases hll : 30 < ls.length
  · have g3 : decide (30 < ls.length) = true := decide_eq_true hll
    have g4 : decide ((30 : Int) < (ls.length : Int)) = true := decide_eq_true (by omega)
    go_wp2_with fail
    refine (nawake_calls W1).mono ?_
    rintro e W2 ⟨rfl, hB2⟩
    have HB2 := Lib.hid (below_then hB1 hs1 hB2)
    have o0 := box1 (blk_below ko hB2)
    have l0 := box1 (blk_below kl hB2)
    clear hB2
    go_wp2_with fail
    refine (nawake_calls W2).mono ?_
    rintro e W3 ⟨rfl, hB3⟩
    have HB3 := Lib.hid (below_then HB2.out HB2.out.size hB3)
    clear hB3
    go_wp2_with fail
    go_ret
    exact ⟨rfl, HB3.out⟩
  have g3 : decide (30 < ls.length) = false := decide_eq_false hll
  have g4 : decide ((30 : Int) < (ls.length : Int)) = false := decide_eq_false (by omega)
  go_wp2_with fail
  refine (nawake_calls W1).mono ?_
  rintro e W2 ⟨rfl, hB2⟩
  have HB2 := Lib.hid (below_then hB1 hs1 hB2)
  have ko2 := blk_below ko hB2
  have kh2 := blk_below kh hB2
  have kl2 := blk_below kl hB2
  have kv2 := blk_below kv hB2
  have o0 := box1 ko2
  have l0 := box1 kl2
  clear hB2 ko kh kl kv
  go_wp2_with fail
  refine (New_calls 60 W2 (by decide) (by decide)).mono ?_
  rintro e W3 ⟨rfl, hA3, hB3⟩
  obtain ⟨mb, hmb⟩ : ∃ b, b = W2.heap.size + 1 := ⟨_, rfl⟩
  obtain ⟨cb, hcb⟩ : ∃ b, b = W2.heap.size := ⟨_, rfl⟩
  rw [← hmb, ← hcb] at hA3
  rw [← hmb]
  have hs2 := HB2.out.size
  have hmb' : w.heap.size ≤ mb := by omega
  have hcb' : w.heap.size ≤ cb := by omega
  have HB3 := Lib.hid (below_then HB2.out HB2.out.size hB3)
  have ko3 := blk_below ko2 hB3
  have kh3 := blk_below kh2 hB3
  have kl3 := blk_below kl2 hB3
  have kv3 := blk_below kv2 hB3
  clear hB3 ko2 kh2 kl2 kv2 hmb hcb o0 l0
  obtain ⟨W4, hW4⟩ : ∃ W4 : World, W4 = W3.alloc (.cells #[ptr mb] 23) := ⟨_, rfl⟩
  have hb4 : Below W3.heap.size W3 W4 := hW4 ▸ below_alloc (Below.refl _ _) _
  have km4 : W4.heap[W3.heap.size]? = some (.cells #[ptr mb] 23 (0, 0)) := hW4 ▸ blk_new _ _
  have ko4 := blk_below ko3 hb4
  have kh4 := blk_below kh3 hb4
  have kl4 := blk_below kl3 hb4
  have kv4 := blk_below kv3 hb4
  have hA4 := hA3.below hb4
  have HB4 := Lib.hid (below_then HB3.out HB3.out.size hb4)
  have HW4 := Lib.hid hW4
  clear hW4 hb4 ko3 kh3 kl3 kv3 hA3
  go_upto_region 4 with fail
  rw [← HW4.out]
  clear HW4
  have m0 := box1 km4
  have hA5 := hA4.alloc (port0 mb)
  have hP5 : PD (W4.alloc (port0 mb)) W4.heap.size mb := blk_new _ _
  have hbp : Below W4.heap.size W4 (W4.alloc (port0 mb)) := below_alloc (Below.refl _ _) _
  have HBP := Lib.hid (below_then HB4.out HB4.out.size hbp)
  have hfn := NodeBack_fn (St.refl hA5 hP5) (head := head) (ver := ver) (by omega) (by omega) (blk_below kl4 hbp) (blk_below ko4 hbp) (blk_below kh4 hbp) (blk_below kv4 hbp) (blk_below km4 hbp) (fun W hF => HR.out.below (hF.over HBP.out HBP.out.size hmb' hcb'))
  have HD := Lib.hid (do5_calls (mb := mb) (fun args W => enters_ Try.func31 (by kernel_rfl) rfl args W) hfn)
  have hmf := makeFunc_run
  have hta := ta_bool true
  clear hA5 hP5 hfn ko4 kh4 kl4 kv4
  go_wp2_with fail
  refine HD.out.mono ?_
  rintro e W7 ⟨rfl, hF⟩
  have hF7 := (Fr.of_below hbp mb cb).trans hF
  have HBF := Lib.hid (hF7.over HB4.out HB4.out.size hmb' hcb')
  clear hF7 hF HD hA4 hbp m0 km4
  go_wp2_with fail
  go_ret
  exact ⟨rfl, HBF.out⟩
end
end Go.Proofs.Ytcfbjcadpcedhaa.Mem
