/- (rundlelaw16.Yard).left: the versions of a node's chain. -/
import Derived.Test.YtcfbjcadpcedhaaNAwake
import Derived.BigQuiet
namespace Go.Proofs.Ytcfbjcadpcedhaa.Mem
open Go.RowKit Go.Proofs.YtcfbjcadpcedhaaW.PrintWords Go.Proofs.YtcfbjcadpcedhaaW.PrintLast Go.Proofs.Ytcfbjcadpcedhaa.Tags
set_option linter.unusedVariables false
set_option linter.unusedSimpArgs false
section
variable {w0 w w' : World} {pb mb cb : Nat} {m m' : M}
def headH : List (Int × Ag) → Int
  | [] => 0
  | x :: _ => x.1
theorem Chain.head_ {z : Int} {l : List (Int × Ag)} (h : Chain m z l) : z = headH l := by
  cases l with
  | nil => exact h
  | cons x l => exact h.1
/-- What holds between two ages that are told. -/
def LeftAt (w0 : World) (pb mb cb by_ bk bo ba : Nat) (yv : Array Value) (B : Nat) (L : List (Int × Ag)) (m : M) (k : Nat) (h : Value) (wr : World) : Prop :=
  ∃ (m1 : M) (rest : List (Int × Ag)) (a : Ag) (us : List Int) (A : Option Addr) (c : Nat), L.drop k = rest ∧ h = .int .i64 (headH rest) ∧ (∀ x r, rest = x :: r → a = x.2) ∧ us = vers (L.take k) ∧ Chain m1 (headH rest) rest ∧ Like m1 m ∧ St w0 wr pb mb cb m1 ∧
    wr.heap[by_]? = some (.cells yv 48 (0, 0)) ∧ wr.heap[bk]? = some (.cells #[.bool true] 4 (0, 0)) ∧ wr.heap[bo]? = some (.cells #[.slice A us.length c] 32 (0, 0)) ∧
    wr.heap[ba]? = some (.cells #[.int .i64 a.ver, .int .i64 0, .string ⟨#[]⟩, .string ⟨#[]⟩, .bool false, .bool a.dead, .slice none 0 0, .slice none 0 0, .slice none 0 0, .slice none 0 0, .int .i64 a.prev] 52 (0, 0)) ∧ OwnI wr B (.slice A us.length c) us ∧ B ≤ wr.heap.size
set_option maxHeartbeats 6400000 in
set_option maxRecDepth 100000 in
theorem left_fn (h : St w0 w pb mb cb m) {z H t0 : Int} {low : ByteArray} {L : List (Int × Ag)} {vs hs : List Int} {A1 A2 AN : Option Addr} {c1 c2 nN kN by_ bk bo : Nat} (hw : m.val t0 = some (number z)) (hC : Chain m z L) (hL : 1 ≤ L.length ∧ L.length ≤ vs.length) (hvl : vs.length ≤ 1000)
    (ky : w.heap[by_]? = some (.cells (yardV mb H low t0 (.slice AN nN kN) (.slice A1 vs.length c1) (.slice A2 hs.length c2)) 48 (0, 0))) (kk : w.heap[bk]? = some (.cells #[.bool true] 4 (0, 0))) (ko : w.heap[bo]? = some (.cells #[.slice none 0 0] 32 (0, 0)))
    (b1 : w0.heap.size ≤ bk) (b2 : w0.heap.size ≤ bo) :
    Calls Try.prog 71 #[ptr pb, .pointer (some ⟨by_, 0, none⟩), .pointer (some ⟨bk, 0, none⟩), .pointer (some ⟨bo, 0, none⟩)] w fun e w' => e = .returned .nilIface ∧ ∃ (m' : M) (us : List Int) (A : Option Addr) (c : Nat), us = vers L ∧ Like m' m ∧ St w0 w' pb mb cb m' ∧ w'.heap[bk]? = some (.cells #[.bool true] 4 (0, 0)) ∧ w'.heap[bo]? = some (.cells #[.slice A us.length c] 32 (0, 0)) ∧ OwnI w' w.heap.size (.slice A us.length c) us := by
  obtain ⟨a, l', rfl⟩ : ∃ a l', L = (z, a) :: l' := by
    match L, hL, hC with
    | [], hL, _ => simp at hL
    | (x, a) :: l', _, hC => exact ⟨a, l', by rw [hC.1]⟩
  have hza := hC.2.2.1
  have hb0 : w0.heap.size ≤ w.heap.size := h.F.size
  obtain ⟨y0, y1, y2, y3, y4, y5, y6⟩ := box7 ky
  go_enter Try.func71, Try.ntmps71
  go_wp2_with fail
  refine (newest_ok h ⟨low, t0, AN, nN, kN⟩ (a := a) (word_val hw) (fun W hW => take_ok hW (by rw [tick_val]; exact hza))).mono ?_
  rintro e W1 ⟨rfl, h1, hF1⟩
  have ky1 := hF1.blk h.A ky (by decide) (by decide)
  have kk1 := hF1.blk h.A kk (by decide) (by decide)
  have ko1 := hF1.blk h.A ko (by decide) (by decide)
  have hs1 : w.heap.size ≤ W1.heap.size := hF1.size
  obtain ⟨W2, hW2⟩ : ∃ W2 : World, W2 = W1.alloc (ageC a) := ⟨_, rfl⟩
  have hb2 : Below W1.heap.size W1 W2 := hW2 ▸ below_alloc (Below.refl _ _) _
  have kx := (show W2.heap[W1.heap.size]? = some (.cells #[.int .i64 a.ver, .int .i64 0, .string ⟨#[]⟩, .string ⟨#[]⟩, .bool false, .bool a.dead, .slice none 0 0, .slice none 0 0, .slice none 0 0, .slice none 0 0, .int .i64 a.prev] 52 (0, 0)) from hW2 ▸ blk_new _ _)
  have h2 := h1.below hb2
  have ky2 := blk_below ky1 hb2
  have kk2 := blk_below kk1 hb2
  have ko2 := blk_below ko1 hb2
  have hs2 : w.heap.size ≤ W2.heap.size := Nat.le_trans hs1 hb2.size
  have hC2 : Chain m.tick.tick z ((z, a) :: l') := hC.cells rfl
  have HW2 := Lib.hid hW2
  clear hW2 hb2 h1 ky1 kk1 ko1 hF1 ky kk ko h hw hC hza y0 y1 y2 y3 y4 y5 y6
  go_upto_region 2 with fail
  rw [← HW2.out]
  clear HW2
  have o0 := box1 kk2
  have zo := blk_frozen kk2 0
  obtain ⟨W3, hW3⟩ : ∃ W3 : World, W3 = W2.setCell ⟨bk, 0, none⟩ (.bool true) := ⟨_, rfl⟩
  have ho := Only.set W2 ⟨bk, 0, none⟩ (.bool true)
  rw [← hW3] at ho
  have kk3 : W3.heap[bk]? = some (.cells #[.bool true] 4 (0, 0)) := hW3 ▸ blk_put kk2 0 (.bool true) rfl
  have ky3 := ho.blk ky2 kk2 (by decide)
  have ko3 := ho.blk ko2 kk2 (by decide)
  have kx3 := ho.blk kx kk2 (by decide)
  have h3 := h2.only ho kk2 (by decide) (by decide) (by decide) b1
  have hs3 : w.heap.size ≤ W3.heap.size := by rw [ho.size]; exact hs2
  have b3 : w0.heap.size ≤ W1.heap.size := by omega
  have START := Lib.hid (show LeftAt w0 pb mb cb by_ bk bo W1.heap.size (yardV mb H low t0 (.slice AN nN kN) (.slice A1 vs.length c1) (.slice A2 hs.length c2)) w.heap.size ((z, a) :: l') m 0 (.int .i64 z) W3 from ⟨m.tick.tick, (z, a) :: l', a, [], none, 0, rfl, rfl, (fun x r e => by injection e with e1 e2; rw [← e1]), rfl, hC2, ⟨rfl, rfl⟩, h3, ky3, kk3, ko3, kx3, OwnI.nil _ _, hs3⟩)
  have HW3 := Lib.hid hW3
  have HLL := Lib.hid hL
  obtain ⟨L, hLe⟩ : ∃ L, (z, a) :: l' = L := ⟨_, rfl⟩
  rw [hLe] at START HLL
  have HLE := Lib.hid hLe
  obtain ⟨ba, hba⟩ : ∃ ba, W1.heap.size = ba := ⟨_, rfl⟩
  rw [hba] at START b3
  have hl0 : L.length ≤ vs.length := HLL.out.2
  clear hW3 ho kk2 ky2 ko2 kx h2 kk3 ky3 ko3 kx3 h3 hC2 hL hLe hs1 hs2
  go_upto_region 3 with fail
  rw [← HW3.out]
  try rw [hba]
  clear HW3 o0 zo hba hs3
  go_wp2_with fail
  go_loopw [6, 9] (fun hh i wr => ∃ k : Nat, k ≤ L.length ∧ i = .int .i64 k ∧ LeftAt w0 pb mb cb by_ bk bo ba (yardV mb H low t0 (.slice AN nN kN) (.slice A1 vs.length c1) (.slice A2 hs.length c2)) w.heap.size L m k hh wr) (fun _ i _ => L.length - (intOf i).toNat)
  case atStart => exact ⟨0, by omega, rfl, START.out⟩
  case round =>
    clear START
    obtain ⟨k, hk, rfl, m1, rest, a1, us, A, c, hdr, rfl, hra, hus, hC1, hlk, hS, ky, kk, ko, kx, hO, hsB⟩ := hrel
    have hul : us.length ≤ 1000 := by rw [hus, List.length_map, List.length_take]; omega
    have g1 : decide (k ≤ vs.length) = true := decide_eq_true (by omega)
    obtain ⟨y0, y1, y2, y3, y4, y5, y6⟩ := box7 ky
    have o0 := box1 kk
    have HUS := Lib.hid hus
    have HDR := Lib.hid hdr
    clear hus hdr
    cases rest with
    | nil =>
      have hkl : k = L.length := by
        have := List.drop_eq_nil_iff.1 HDR.out
        omega
      have FIN := Lib.hid (show us = vers L by rw [HUS.out, hkl, List.take_length])
      simp only [headH]
      go_wp2_with fail
      go_ret
      exact ⟨rfl, m1, us, A, c, by rw [HLE.out]; exact FIN.out, hlk, hS, kk, ko, hO⟩
    | cons x r =>
      obtain ⟨xh, xa⟩ := x
      obtain rfl := hra _ _ rfl
      have hlt : k < L.length := by
        rcases Nat.lt_or_ge k L.length with h | h
        · exact h
        · have := HDR.out
          rw [List.drop_eq_nil_of_le h] at this
          cases this
      obtain ⟨_, hx0, hxa, z1, hz1, hC2⟩ := hC1
      have hzh := hC2.head_
      subst hzh
      have hx1 : xh ≠ 0 := hx0
      have g2 : (xh != 0) = true := by simpa using hx1
      obtain ⟨us2, hus2⟩ : ∃ us2, us2 = us ++ [a1.ver] := ⟨_, rfl⟩
      have hul2 : us2.length ≤ 1001 := by rw [hus2]; simp; omega
      have HUS2 := Lib.hid (show us2 = vers (L.take (k + 1)) by
        have e1 : L.take (k + 1) = L.take k ++ [(xh, a1)] := by
          have hg : L[k] = (xh, a1) := by
            have e2 := List.drop_eq_getElem_cons hlt
            rw [HDR.out] at e2
            injection e2 with e3 e4
            exact e3.symm
          rw [List.take_succ_eq_append_getElem hlt, hg]
        rw [hus2, HUS.out, e1]
        simp [vers])
      have HDR2 := Lib.hid (show L.drop (k + 1) = r by
        have e2 := List.drop_eq_getElem_cons hlt
        rw [HDR.out] at e2
        injection e2 with e3 e4
        exact e4.symm)
      have o2 := box1 ko
      obtain ⟨p0, p1, p2, p3, p4, p5, p6, p7, p8, p9, p10⟩ := box11 kx
      have HUE := Lib.hid hus2
      have HZ1 := Lib.hid hz1
      have HC2 := Lib.hid hC2
      have hh0 : headH ((xh, a1) :: r) = xh := rfl
      rw [hh0]
      clear hus2 hra hxa hz1 hC2 hh0 HLE hx0
      go_wp2_with (at_builtin; refine append_I (w0 := _) rfl _ _ rfl w.heap.size _ us a1.ver hO rfl rfl (Below.refl _ _) hsB (by omega) ?_)
      intro v1 w6 hO1 _ hg6 hat
      rw [← HUE.out] at hO1
      have ky6 := (hg6.block by_ (blk_lt ky) (hO.ne ky (by decide))).trans ky
      have kk6 := (hg6.block bk (blk_lt kk) (hO.ne kk (by decide))).trans kk
      have ko6 := (hg6.block bo (blk_lt ko) (hO.ne ko (by decide))).trans ko
      have kx6 := (hg6.block ba (blk_lt kx) (hO.ne kx (by decide))).trans kx
      have h6 := hS.grown hO hb0 hg6
      have hs6 : w.heap.size ≤ w6.heap.size := Nat.le_trans hsB hg6.size
      clear ky kk ko kx hS hO hsB hg6 hat o0 o2 y0 y1 y2 y3 y4 y5 y6 p0 p1 p2 p3 p4 p5 p6 p7 p8 p9 p10
      obtain ⟨A6, c6, rfl⟩ := hO1.slice
      have o2 := box1 ko6
      have z2 := blk_frozen ko6 0
      obtain ⟨W7, hW7⟩ : ∃ W7 : World, W7 = w6.setCell ⟨bo, 0, none⟩ (.slice A6 us2.length c6) := ⟨_, rfl⟩
      have ho := Only.set w6 ⟨bo, 0, none⟩ (.slice A6 us2.length c6)
      rw [← hW7] at ho
      have ko7 : W7.heap[bo]? = some (.cells #[.slice A6 us2.length c6] 32 (0, 0)) := hW7 ▸ blk_put ko6 0 (.slice A6 us2.length c6) rfl
      have ky7 := ho.blk ky6 ko6 (by decide)
      have kk7 := ho.blk kk6 ko6 (by decide)
      have kx7 := ho.blk kx6 ko6 (by decide)
      have h7 := h6.only ho ko6 (by decide) (by decide) (by decide) b2
      have hO7 := hO1.only1 ho ko6 (by decide)
      have hs7 : w.heap.size ≤ W7.heap.size := by rw [ho.size]; exact hs6
      have HW7 := Lib.hid hW7
      clear hW7 ho ko6 ky6 kk6 kx6 h6 hO1 hs6
      go_upto_region 7 with fail
      rw [← HW7.out]
      clear HW7 o2 z2
      obtain ⟨p0, p1, p2, p3, p4, p5, p6, p7, p8, p9, p10⟩ := box11 kx7
      go_wp2_with fail
      refine (qWord h7 a1.prev).mono ?_
      rw [word_val HZ1.out]
      rintro e W8 ⟨rfl, h8, hF8⟩
      have ky8 := hF8.blk h7.A ky7 (by decide) (by decide)
      have kk8 := hF8.blk h7.A kk7 (by decide) (by decide)
      have ko8 := hF8.blk h7.A ko7 (by decide) (by decide)
      have kx8 := hF8.blk h7.A kx7 (by decide) (by decide)
      have hO8 := hO7.fr h7.A hF8
      have hs8 : w.heap.size ≤ W8.heap.size := Nat.le_trans hs7 hF8.size
      clear ky7 kk7 ko7 kx7 h7 hO7 hs7 hF8 p0 p1 p2 p3 p4 p5 p6 p7 p8 p9 p10
      have o0 := box1 kk8
      have zo := blk_frozen kk8 0
      obtain ⟨W9, hW9⟩ : ∃ W9 : World, W9 = W8.setCell ⟨bk, 0, none⟩ (.bool true) := ⟨_, rfl⟩
      have ho := Only.set W8 ⟨bk, 0, none⟩ (.bool true)
      rw [← hW9] at ho
      have kk9 : W9.heap[bk]? = some (.cells #[.bool true] 4 (0, 0)) := hW9 ▸ blk_put kk8 0 (.bool true) rfl
      have ky9 := ho.blk ky8 kk8 (by decide)
      have ko9 := ho.blk ko8 kk8 (by decide)
      have kx9 := ho.blk kx8 kk8 (by decide)
      have h9 := h8.only ho kk8 (by decide) (by decide) (by decide) b1
      have hO9 := hO8.only1 ho kk8 (by decide)
      have hs9 : w.heap.size ≤ W9.heap.size := by rw [ho.size]; exact hs8
      have HW9 := Lib.hid hW9
      clear hW9 ho kk8 ky8 ko8 kx8 h8 hO8 hs8
      go_upto_region 10 with fail
      rw [← HW9.out]
      clear HW9 o0 zo
      have o0 := box1 kk9
      cases r with
      | nil =>
        have hh1 : headH [] = 0 := rfl
        rw [hh1]
        have FIN := Lib.hid (show LeftAt w0 pb mb cb by_ bk bo ba (yardV mb H low t0 (.slice AN nN kN) (.slice A1 vs.length c1) (.slice A2 hs.length c2)) w.heap.size L m (k + 1) (.int .i64 0) W9 from ⟨m1.tick, [], a1, us2, A6, c6, HDR2.out, rfl, (fun x r e => by cases e), HUS2.out, rfl, hlk, h9, ky9, kk9, ko9, kx9, hO9, hs9⟩)
        clear h9 ky9 ko9 kx9 hO9 hs9 kk9
        go_wp2_with fail
        go_roundw
        case rel => exact ⟨k + 1, by omega, by go_num, FIN.out⟩
        case measure => simp [intOf]; omega
      | cons y r =>
        obtain ⟨yh, ya⟩ := y
        have hh1 : headH ((yh, ya) :: r) = yh := rfl
        rw [hh1]
        have hC3 : Chain m1.tick yh ((yh, ya) :: r) := HC2.out.cells rfl
        obtain ⟨_, hy0, hya, _⟩ := hC3
        have hy1 : yh ≠ 0 := hy0
        have g3 : (yh != 0) = true := by simpa using hy1
        have HYA := Lib.hid hya
        have HC3 := Lib.hid (show Chain m1.tick.tick yh ((yh, ya) :: r) from HC2.out.cells rfl)
        clear hya
        go_wp2_with fail
        refine (take_ok h9 HYA.out).mono ?_
        rintro e W10 ⟨rfl, h10, hF⟩
        have ky10 := hF.blk h9.A ky9 (by decide) (by decide)
        have kk10 := hF.blk h9.A kk9 (by decide) (by decide)
        have ko10 := hF.blk h9.A ko9 (by decide) (by decide)
        have kx10 := hF.blk h9.A kx9 (by decide) (by decide)
        have hO10 := hO9.fr h9.A hF
        have hs10 : w.heap.size ≤ W10.heap.size := Nat.le_trans hs9 hF.size
        clear ky9 kk9 ko9 kx9 h9 hO9 hs9 hF o0
        obtain ⟨q0, q1, q2, q3, q4, q5, q6, q7, q8, q9, q10⟩ := froz11 kx10
        obtain ⟨p0, p1, p2, p3, p4, p5, p6, p7, p8, p9, p10⟩ := box11 kx10
        have hon := only11 W10 ba (.int .i64 ya.ver) (.int .i64 0) (.string ⟨#[]⟩) (.string ⟨#[]⟩) (.bool false) (.bool ya.dead) (.slice none 0 0) (.slice none 0 0) (.slice none 0 0) (.slice none 0 0) (.int .i64 ya.prev)
        have kx11 := blk11 kx10 (.int .i64 ya.ver) (.int .i64 0) (.string ⟨#[]⟩) (.string ⟨#[]⟩) (.bool false) (.bool ya.dead) (.slice none 0 0) (.slice none 0 0) (.slice none 0 0) (.slice none 0 0) (.int .i64 ya.prev)
        obtain ⟨X1, hX1⟩ : ∃ X1, set11 W10 ba (.int .i64 ya.ver) (.int .i64 0) (.string ⟨#[]⟩) (.string ⟨#[]⟩) (.bool false) (.bool ya.dead) (.slice none 0 0) (.slice none 0 0) (.slice none 0 0) (.slice none 0 0) (.int .i64 ya.prev) = X1 := ⟨_, rfl⟩
        rw [hX1] at hon kx11
        have ky11 := hon.blk ky10 kx10 (by decide)
        have kk11 := hon.blk kk10 kx10 (by decide)
        have ko11 := hon.blk ko10 kx10 (by decide)
        have h11 := h10.only hon kx10 (by decide) (by decide) (by decide) b3
        have hO11 := hO10.only1 hon kx10 (by decide)
        have hs11 : w.heap.size ≤ X1.heap.size := by rw [hon.size]; exact hs10
        have HX1 := Lib.hid hX1
        clear hX1 hon ky10 kk10 ko10 kx10 h10 hO10 hs10
        go_upto_region 12 with fail
        have hX := HX1.out
        unfold set11 at hX
        rw [hX]
        clear hX HX1 p0 p1 p2 p3 p4 p5 p6 p7 p8 p9 p10 q0 q1 q2 q3 q4 q5 q6 q7 q8 q9 q10
        have o0 := box1 kk11
        have zo := blk_frozen kk11 0
        have ho := Only.set X1 ⟨bk, 0, none⟩ (.bool true)
        have kk12 := blk_put kk11 0 (.bool true) rfl
        have ky12 := ho.blk ky11 kk11 (by decide)
        have ko12 := ho.blk ko11 kk11 (by decide)
        have kx12 := ho.blk kx11 kk11 (by decide)
        have h12 := h11.only ho kk11 (by decide) (by decide) (by decide) b1
        have hO12 := hO11.only1 ho kk11 (by decide)
        have hs12 : w.heap.size ≤ (X1.setCell ⟨bk, 0, none⟩ (.bool true)).heap.size := by rw [ho.size]; exact hs11
        have FIN := Lib.hid (show LeftAt w0 pb mb cb by_ bk bo ba (yardV mb H low t0 (.slice AN nN kN) (.slice A1 vs.length c1) (.slice A2 hs.length c2)) w.heap.size L m (k + 1) (.int .i64 yh) (X1.setCell ⟨bk, 0, none⟩ (.bool true)) from ⟨m1.tick.tick, (yh, ya) :: r, ya, us2, A6, c6, HDR2.out, rfl, (fun x r e => by injection e with e1 e2; rw [← e1]), HUS2.out, HC3.out, hlk, h12, ky12, kk12, ko12, kx12, hO12, hs12⟩)
        clear ho kk12 ky12 ko12 kx12 h12 hO12 hs12 ky11 kk11 ko11 kx11 h11 hO11 hs11
        go_wp2_with fail
        go_roundw
        case rel => exact ⟨k + 1, by omega, by go_num, FIN.out⟩
        case measure => simp [intOf]; omega
end
end Go.Proofs.Ytcfbjcadpcedhaa.Mem
