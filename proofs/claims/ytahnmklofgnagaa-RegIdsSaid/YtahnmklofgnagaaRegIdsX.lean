/- RegIds, by hand: the law. -/
import Derived.Test.YtahnmklofgnagaaRegIdsW
namespace Go.Proofs.Ytahnmklofgnagaa.Mem
open Go.RowKit Go.Proofs.YtahnmklofgnagaaW.PrintWords Go.Proofs.YtahnmklofgnagaaW.PrintLast Go.Proofs.Ytahnmklofgnagaa.Tags Go.ChangeShapes
set_option linter.unusedVariables false
set_option linter.unusedSimpArgs false
section
variable {w0 w w' : World} {pb mb cb : Nat} {m m' : M}
set_option maxHeartbeats 3200000 in
set_option maxRecDepth 100000 in
theorem RegIds_long (x : Int) (Al : Option Addr) (cap : Nat) (l : List Act) (hl : 150 < l.length) (w : World) :
    Calls Try.prog 9 #[.int .u8 x, .slice Al l.length cap] w fun e w' => e = .returned (.bool true) ∧ Below w.heap.size w w' := by
  have g1 : decide (150 < l.length) = true := decide_eq_true hl
  obtain ⟨W1, hW1⟩ : ∃ W1 : World, W1 = w.alloc (.cells #[.slice Al l.length cap] 84) := ⟨_, rfl⟩
  have hB1 : Below w.heap.size w W1 := hW1 ▸ below_alloc (Below.refl _ _) _
  have k1 : W1.heap[w.heap.size]? = some (.cells #[.slice Al l.length cap] 84 (0, 0)) := hW1 ▸ blk_new _ _
  have a0 := box1 k1
  have HW1 := Lib.hid hW1
  clear hW1
  go_enter Try.func9, Try.ntmps9
  go_upto_region 1 with fail
  rw [← HW1.out]
  clear HW1
  go_wp2_with fail
  refine (awake15_calls W1).mono ?_
  rintro e W2 ⟨rfl, hB2⟩
  have a1 := box1 (blk_below k1 hB2)
  have HB2 := Lib.hid (below_then hB1 hB1.size hB2)
  clear hB1 hB2 k1 a0
  go_wp2_with fail
  refine (awake15_calls W2).mono ?_
  rintro e W3 ⟨rfl, hB3⟩
  have HB3 := Lib.hid (below_then HB2.out HB2.out.size hB3)
  clear hB3 a1
  go_wp2_with fail
  go_ret
  exact ⟨rfl, HB3.out⟩
set_option maxHeartbeats 6400000 in
set_option maxRecDepth 100000 in
theorem RegIds_main (x : Int) (hx0 : 0 ≤ x) (hx1 : x < 256) (Al : Option Addr) (cap : Nat) (l : List Act) (hl : l.length ≤ 150) (w : World) (hr0 : actKd.C w Al l.length l) (hok : ∀ x ∈ l, x.ok) :
    Calls Try.prog 9 #[.int .u8 x, .slice Al l.length cap] w fun e w' => e = .returned (.bool true) ∧ Below w.heap.size w w' := by
  have g1 : decide (150 < l.length) = false := decide_eq_false (by omega)
  obtain ⟨n, hn⟩ : ∃ n : Nat, x % 9 = (n : Int) := ⟨(x % 9).toNat, by omega⟩
  have hn9 : n ≤ 8 := by omega
  have HN := Lib.hid hn
  have HR0 := Lib.hid hr0
  obtain ⟨M1, M2, M3, y, t, st, ts, ss, e1, e2, e3, l1, l2, hY⟩ := lay15_val (a := 1) (b := n) (by omega) (by omega)
  obtain ⟨W1, hW1⟩ : ∃ W1 : World, W1 = w.alloc (.cells #[.slice Al l.length cap] 84) := ⟨_, rfl⟩
  have hB1 : Below w.heap.size w W1 := hW1 ▸ below_alloc (Below.refl _ _) _
  have k1 : W1.heap[w.heap.size]? = some (.cells #[.slice Al l.length cap] 84 (0, 0)) := hW1 ▸ blk_new _ _
  have a0 := box1 k1
  have HW1 := Lib.hid hW1
  clear hW1 hn hr0
  go_enter Try.func9, Try.ntmps9
  go_upto_region 1 with fail
  rw [← HW1.out]
  clear HW1
  go_wp2_with fail
  refine (awake15_calls W1).mono ?_
  rintro e W2 ⟨rfl, hB2⟩
  have k2 := blk_below k1 hB2
  have a1 := box1 k2
  have HB2 := Lib.hid (below_then hB1 hB1.size hB2)
  clear hB1 hB2 k1 a0
  go_wp2_with fail
  rw [HN.out]
  refine (lay15_calls (a := 1) (b := n) (by decide) (by decide) (by omega) e1 e2 e3 (by omega) (by omega) W2).mono ?_
  rintro e W3 ⟨mb, cb, A, ca, B, cc, rfl, hA, hR, hB3, hmb, hcb⟩
  have k3 := blk_below k2 hB3
  have HB3 := Lib.hid (below_then HB2.out HB2.out.size hB3)
  clear hB3 k2 a1 e1 e2 e3
  obtain ⟨W4, hW4⟩ : ∃ W4 : World, W4 = W3.alloc (.cells #[ptr mb, .int .i64 t, .slice A ts.length ca, .slice B ss.length cc] 86) := ⟨_, rfl⟩
  have hb : Below W3.heap.size W3 W4 := hW4 ▸ below_alloc (Below.refl _ _) _
  have k4 : W4.heap[W3.heap.size]? = some (.cells #[ptr mb, .int .i64 t, .slice A ts.length ca, .slice B ss.length cc] 86 (0, 0)) := hW4 ▸ blk_new _ _
  have hA4 := hA.below hb
  have hR4 := hR.below hb
  have k34 := blk_below k3 hb
  have HB4 := Lib.hid (below_then HB3.out HB3.out.size hb)
  have HW4 := Lib.hid hW4
  obtain ⟨y0, y1, y2, y3⟩ := box4 k4
  have hsz := HB2.out.size
  clear hb hW4 hA hR k3
  have hA5 := hA4.alloc (port0 mb)
  have hP5 : PD (W4.alloc (port0 mb)) W4.heap.size mb := blk_new _ _
  have hbp : Below W4.heap.size W4 (W4.alloc (port0 mb)) := below_alloc (Below.refl _ _) (port0 mb)
  clear l1
  subst l2
  have HD := Lib.hid (do2_calls (mb := mb) (fun args W => enters_ Try.func51 (by kernel_rfl) rfl args W) (RegIds_fn (W0 := w) (St.refl hA5 hP5) (hR4.below hbp) hY hn9 hl (blk_alloc k34 (port0 mb)) (blk_alloc k4 (port0 mb)) HR0.out hok (below_then HB4.out HB4.out.size hbp) (by omega) (by omega)))
  have hmf := makeFunc_run
  have hta := ta_bool true
  clear hA5 hP5 hbp hA4 hR4 k34 k4 hok
  go_upto_region 4 with fail
  rw [← HW4.out]
  clear HW4
  go_wp2_with fail
  refine HD.out.mono ?_
  rintro e W5 ⟨rfl, hF⟩
  have hF5 := (Fr.of_below (below_alloc (Below.refl W4.heap.size W4) (port0 mb)) mb cb).trans hF
  have HBF := Lib.hid (hF5.over HB4.out HB4.out.size (by omega) (by omega))
  clear hF5 hF y0 y1 y2 y3 HD
  go_wp2_with fail
  go_ret
  exact ⟨rfl, HBF.out⟩
theorem RegIds_walk (x : Int) (hx0 : 0 ≤ x) (hx1 : x < 256) (Al : Option Addr) (cap : Nat) (l : List Act) (w : World) (hr0 : actKd.C w Al l.length l) (hok : ∀ x ∈ l, x.ok) :
    Calls Try.prog 9 #[.int .u8 x, .slice Al l.length cap] w fun e w' => e = .returned (.bool true) ∧ Below w.heap.size w w' := by
  by_cases h : l.length ≤ 150
  · exact RegIds_main x hx0 hx1 Al cap l h w hr0 hok
  · exact RegIds_long x Al cap l (by omega) w
end
end Go.Proofs.Ytahnmklofgnagaa.Mem
