/- An ask by a port: 'one' of the laws. -/
import Derived.Test.YthgbgflpjggpmaaStep6
import Derived.Test.YthgbgflpjggpmaaPStepAlonex0
namespace Go.Proofs.Ythgbgflpjggpmaa.Mem
open Go.RowKit Go.Proofs.YthgbgflpjggpmaaW.PrintWords Go.Proofs.YthgbgflpjggpmaaW.PrintLast Go.Proofs.Ythgbgflpjggpmaa.Tags
open Go.Proofs.Ythgbgflpjggpmaa.PStepAlone (S57 k57)
set_option linter.unusedVariables false
set_option linter.unusedSimpArgs false
def flagI (b : Bool) : Int := if b = true then 1 else 0
/-- The handle that is asked of. -/
def hTo (x : S57) (told : Int) : Int := if x.f4 = true then told else x.f1
/-- What is asked. -/
def askOf (x : S57) (told : Int) : M → M × Ans :=
  if x.f0 % 7 = 0 then QAllocWord x.f2 else if x.f0 % 7 = 1 then QWord (hTo x told) else if x.f0 % 7 = 2 then QStore (hTo x told) x.f2 else if x.f0 % 7 = 3 then QSwap (hTo x told) x.f2 x.f3 else if x.f0 % 7 = 4 then QFree (hTo x told) else if x.f0 % 7 = 5 then QRetire (hTo x told) x.f2 else QReap x.f1 x.f2
/-- The number, the error, the handle that was told. -/
def outOf (x : S57) (told : Int) (a : Ans) : Int × Int × Int :=
  if x.f0 % 7 = 0 then (a.n, a.e, if (a.e == 0) = true then a.n else told) else if x.f0 % 7 = 1 then (a.n, a.e, told) else if x.f0 % 7 = 3 ∨ x.f0 % 7 = 6 then (flagI a.ok, a.e, told) else (0, a.e, told)
def out3 (r : Int × Int × Int) : Value := .tuple #[.int .i64 r.1, .int .i64 r.2.1, .int .i64 r.2.2]
abbrev askV (x : S57) : Array Value := #[.int .u8 x.f0, .int .i64 x.f1, .int .i64 x.f2, .int .i64 x.f3, .bool x.f4, .bool x.f5]
section
variable {w w' w0 : World} {pb mb cb : Nat} {S : Nat → Prop} {s : PS} {v : Value}
theorem lflag_calls (b : Bool) (w : World) : Calls Try.prog 53 #[.bool b] w fun e w' => e = .returned (.int .i64 (flagI b)) ∧ w' = w := by
  cases b with
  | true =>
    go_enter Try.func53, Try.ntmps53
    go_wp2
    go_ret
    exact ⟨rfl, rfl⟩
  | false =>
    go_enter Try.func53, Try.ntmps53
    go_wp2
    go_ret
    exact ⟨rfl, rfl⟩
theorem box6 {g : Nat} {t : TypeId} {a b c d e f : Value} {w : World} (h : w.heap[g]? = some (.cells #[a, b, c, d, e, f] t (0, 0))) : w.cell? ⟨g, 0, none⟩ = some a ∧ w.cell? ⟨g, 1, none⟩ = some b ∧ w.cell? ⟨g, 2, none⟩ = some c ∧ w.cell? ⟨g, 3, none⟩ = some d ∧ w.cell? ⟨g, 4, none⟩ = some e ∧ w.cell? ⟨g, 5, none⟩ = some f :=
  ⟨(blk_cell h 0).trans rfl, (blk_cell h 1).trans rfl, (blk_cell h 2).trans rfl, (blk_cell h 3).trans rfl, (blk_cell h 4).trans rfl, (blk_cell h 5).trans rfl⟩
set_option maxHeartbeats 3200000 in
set_option maxRecDepth 100000 in
theorem one_0 (h : Sp w0 S w pb mb cb s v) (hl : Lok s.left) (x : S57) (h0 : 0 ≤ x.f0 ∧ x.f0 ≤ 255) (told : Int) (hd : x.f0 % 7 = 0) :
    Calls Try.prog 39 #[ptr pb, .agg (askV x), .int .i64 told] w (Pend w0 S pb mb cb ((s.ask (QAllocWord x.f2)).map fun a => out3 (a.n, a.e, if (a.e == 0) = true then a.n else told))) := by
  obtain ⟨W, hW⟩ : ∃ W : World, W = w.alloc (.cells (askV x) 57) := ⟨_, rfl⟩
  have hb : Below w.heap.size w W := hW ▸ below_alloc (Below.refl _ _) _
  have hk : W.heap[w.heap.size]? = some (.cells (askV x) 57 (0, 0)) := hW ▸ blk_new _ _
  have h1 := h.below hb
  have HW := Lib.hid hW
  have HD := Lib.hid (sAllocWord h1 hl x.f2)
  obtain ⟨r, hr⟩ : ∃ r, s.ask (QAllocWord x.f2) = r := ⟨_, rfl⟩
  rw [hr] at HD ⊢
  obtain ⟨f0, f1, f2, f3, f4, f5⟩ := x
  (try simp only [hTo] at HD)
  simp only [askV] at hk HW ⊢
  simp only at h0 hd
  have hk' := Lib.hid hk
  obtain ⟨x0, x1, x2, x3, x4, x5⟩ := box6 hk
  have e0 : ∀ u, f0 % 7 = u → f0 % 7 = u := fun _ h => h
  clear hW hb hk h1 h hr hl e0
  cases f4
  all_goals
    (try simp only [if_true, Bool.false_eq_true, if_false] at HD)
    go_enter Try.func39, Try.ntmps39
    go_upto_region 1 with fail
    rw [← HW.out]
    go_wp2_with fail
    refine HD.out.mono ?_
    clear HD HW
    intro e W1 hp
    cases r with
    | out s' =>
      obtain ⟨rfl, v', h'⟩ := hp
      have H := Lib.hid h'
      clear h'
      go_wp2_with fail
      exact ⟨rfl, rfl, v', H.out⟩
    | ret a s' =>
      obtain ⟨rfl, v', h'⟩ := hp
      obtain ⟨ab, an, ao, ae⟩ := a
      simp only [RAllocWord]
      have H := Lib.hid h'
      clear h'
      by_cases hz : (ae == 0) = true
      · go_wp2_with fail
        go_ret3
        exact ⟨(show Ending.returned (out3 (an, ae, an)) = Ending.returned (out3 (an, ae, if (ae == 0) = true then an else told)) by rw [if_pos hz]), v', H.out⟩
      · have hz1 : (ae == 0) = false := by simpa using hz
        go_wp2_with fail
        go_ret3
        exact ⟨(show Ending.returned (out3 (an, ae, told)) = Ending.returned (out3 (an, ae, if (ae == 0) = true then an else told)) by rw [if_neg hz]), v', H.out⟩
set_option maxHeartbeats 3200000 in
set_option maxRecDepth 100000 in
theorem one_1 (h : Sp w0 S w pb mb cb s v) (hl : Lok s.left) (x : S57) (h0 : 0 ≤ x.f0 ∧ x.f0 ≤ 255) (told : Int) (hd : x.f0 % 7 = 1) :
    Calls Try.prog 39 #[ptr pb, .agg (askV x), .int .i64 told] w (Pend w0 S pb mb cb ((s.ask (QWord (hTo x told))).map fun a => out3 (a.n, a.e, told))) := by
  obtain ⟨W, hW⟩ : ∃ W : World, W = w.alloc (.cells (askV x) 57) := ⟨_, rfl⟩
  have hb : Below w.heap.size w W := hW ▸ below_alloc (Below.refl _ _) _
  have hk : W.heap[w.heap.size]? = some (.cells (askV x) 57 (0, 0)) := hW ▸ blk_new _ _
  have h1 := h.below hb
  have HW := Lib.hid hW
  have HD := Lib.hid (sWord h1 hl (hTo x told))
  obtain ⟨r, hr⟩ : ∃ r, s.ask (QWord (hTo x told)) = r := ⟨_, rfl⟩
  rw [hr] at HD ⊢
  obtain ⟨f0, f1, f2, f3, f4, f5⟩ := x
  (try simp only [hTo] at HD)
  simp only [askV] at hk HW ⊢
  simp only at h0 hd
  have hk' := Lib.hid hk
  obtain ⟨x0, x1, x2, x3, x4, x5⟩ := box6 hk
  have e0 : ∀ u, f0 % 7 = u → f0 % 7 = u := fun _ h => h
  clear hW hb hk h1 h hr hl e0
  cases f4
  all_goals
    (try simp only [if_true, Bool.false_eq_true, if_false] at HD)
    go_enter Try.func39, Try.ntmps39
    go_upto_region 1 with fail
    rw [← HW.out]
    go_wp2_with fail
    refine HD.out.mono ?_
    clear HD HW
    intro e W1 hp
    cases r with
    | out s' =>
      obtain ⟨rfl, v', h'⟩ := hp
      have H := Lib.hid h'
      clear h'
      go_wp2_with fail
      exact ⟨rfl, rfl, v', H.out⟩
    | ret a s' =>
      obtain ⟨rfl, v', h'⟩ := hp
      obtain ⟨ab, an, ao, ae⟩ := a
      simp only [RWord]
      have H := Lib.hid h'
      clear h'
      go_wp2_with fail
      go_ret3
      exact ⟨rfl, v', H.out⟩
set_option maxHeartbeats 3200000 in
set_option maxRecDepth 100000 in
theorem one_2 (h : Sp w0 S w pb mb cb s v) (hl : Lok s.left) (x : S57) (h0 : 0 ≤ x.f0 ∧ x.f0 ≤ 255) (told : Int) (hd : x.f0 % 7 = 2) :
    Calls Try.prog 39 #[ptr pb, .agg (askV x), .int .i64 told] w (Pend w0 S pb mb cb ((s.ask (QStore (hTo x told) x.f2)).map fun a => out3 (0, a.e, told))) := by
  obtain ⟨W, hW⟩ : ∃ W : World, W = w.alloc (.cells (askV x) 57) := ⟨_, rfl⟩
  have hb : Below w.heap.size w W := hW ▸ below_alloc (Below.refl _ _) _
  have hk : W.heap[w.heap.size]? = some (.cells (askV x) 57 (0, 0)) := hW ▸ blk_new _ _
  have h1 := h.below hb
  have HW := Lib.hid hW
  have HD := Lib.hid (sStore h1 hl (hTo x told) x.f2)
  obtain ⟨r, hr⟩ : ∃ r, s.ask (QStore (hTo x told) x.f2) = r := ⟨_, rfl⟩
  rw [hr] at HD ⊢
  obtain ⟨f0, f1, f2, f3, f4, f5⟩ := x
  (try simp only [hTo] at HD)
  simp only [askV] at hk HW ⊢
  simp only at h0 hd
  have hk' := Lib.hid hk
  obtain ⟨x0, x1, x2, x3, x4, x5⟩ := box6 hk
  have e0 : ∀ u, f0 % 7 = u → f0 % 7 = u := fun _ h => h
  clear hW hb hk h1 h hr hl e0
  cases f4
  all_goals
    (try simp only [if_true, Bool.false_eq_true, if_false] at HD)
    go_enter Try.func39, Try.ntmps39
    go_upto_region 1 with fail
    rw [← HW.out]
    go_wp2_with fail
    refine HD.out.mono ?_
    clear HD HW
    intro e W1 hp
    cases r with
    | out s' =>
      obtain ⟨rfl, v', h'⟩ := hp
      have H := Lib.hid h'
      clear h'
      go_wp2_with fail
      exact ⟨rfl, rfl, v', H.out⟩
    | ret a s' =>
      obtain ⟨rfl, v', h'⟩ := hp
      obtain ⟨ab, an, ao, ae⟩ := a
      simp only [RStore]
      have H := Lib.hid h'
      clear h'
      go_wp2_with fail
      go_ret3
      exact ⟨rfl, v', H.out⟩
set_option maxHeartbeats 3200000 in
set_option maxRecDepth 100000 in
theorem one_3 (h : Sp w0 S w pb mb cb s v) (hl : Lok s.left) (x : S57) (h0 : 0 ≤ x.f0 ∧ x.f0 ≤ 255) (told : Int) (hd : x.f0 % 7 = 3) :
    Calls Try.prog 39 #[ptr pb, .agg (askV x), .int .i64 told] w (Pend w0 S pb mb cb ((s.ask (QSwap (hTo x told) x.f2 x.f3)).map fun a => out3 (flagI a.ok, a.e, told))) := by
  obtain ⟨W, hW⟩ : ∃ W : World, W = w.alloc (.cells (askV x) 57) := ⟨_, rfl⟩
  have hb : Below w.heap.size w W := hW ▸ below_alloc (Below.refl _ _) _
  have hk : W.heap[w.heap.size]? = some (.cells (askV x) 57 (0, 0)) := hW ▸ blk_new _ _
  have h1 := h.below hb
  have HW := Lib.hid hW
  have HD := Lib.hid (sSwap h1 hl (hTo x told) x.f2 x.f3)
  obtain ⟨r, hr⟩ : ∃ r, s.ask (QSwap (hTo x told) x.f2 x.f3) = r := ⟨_, rfl⟩
  rw [hr] at HD ⊢
  obtain ⟨f0, f1, f2, f3, f4, f5⟩ := x
  (try simp only [hTo] at HD)
  simp only [askV] at hk HW ⊢
  simp only at h0 hd
  have hk' := Lib.hid hk
  obtain ⟨x0, x1, x2, x3, x4, x5⟩ := box6 hk
  have e0 : ∀ u, f0 % 7 = u → f0 % 7 = u := fun _ h => h
  clear hW hb hk h1 h hr hl e0
  cases f4
  all_goals
    (try simp only [if_true, Bool.false_eq_true, if_false] at HD)
    go_enter Try.func39, Try.ntmps39
    go_upto_region 1 with fail
    rw [← HW.out]
    go_wp2_with fail
    refine HD.out.mono ?_
    clear HD HW
    intro e W1 hp
    cases r with
    | out s' =>
      obtain ⟨rfl, v', h'⟩ := hp
      have H := Lib.hid h'
      clear h'
      go_wp2_with fail
      exact ⟨rfl, rfl, v', H.out⟩
    | ret a s' =>
      obtain ⟨rfl, v', h'⟩ := hp
      obtain ⟨ab, an, ao, ae⟩ := a
      simp only [RSwap]
      have H := Lib.hid h'
      clear h'
      go_wp2_with fail
      refine (lflag_calls ao W1).mono ?_
      rintro e w2 ⟨rfl, rfl⟩
      go_wp2_with fail
      go_ret3
      exact ⟨rfl, v', H.out⟩
set_option maxHeartbeats 3200000 in
set_option maxRecDepth 100000 in
theorem one_4 (h : Sp w0 S w pb mb cb s v) (hl : Lok s.left) (x : S57) (h0 : 0 ≤ x.f0 ∧ x.f0 ≤ 255) (told : Int) (hd : x.f0 % 7 = 4) :
    Calls Try.prog 39 #[ptr pb, .agg (askV x), .int .i64 told] w (Pend w0 S pb mb cb ((s.ask (QFree (hTo x told))).map fun a => out3 (0, a.e, told))) := by
  obtain ⟨W, hW⟩ : ∃ W : World, W = w.alloc (.cells (askV x) 57) := ⟨_, rfl⟩
  have hb : Below w.heap.size w W := hW ▸ below_alloc (Below.refl _ _) _
  have hk : W.heap[w.heap.size]? = some (.cells (askV x) 57 (0, 0)) := hW ▸ blk_new _ _
  have h1 := h.below hb
  have HW := Lib.hid hW
  have HD := Lib.hid (sFree h1 hl (hTo x told))
  obtain ⟨r, hr⟩ : ∃ r, s.ask (QFree (hTo x told)) = r := ⟨_, rfl⟩
  rw [hr] at HD ⊢
  obtain ⟨f0, f1, f2, f3, f4, f5⟩ := x
  (try simp only [hTo] at HD)
  simp only [askV] at hk HW ⊢
  simp only at h0 hd
  have hk' := Lib.hid hk
  obtain ⟨x0, x1, x2, x3, x4, x5⟩ := box6 hk
  have e0 : ∀ u, f0 % 7 = u → f0 % 7 = u := fun _ h => h
  clear hW hb hk h1 h hr hl e0
  cases f4
  all_goals
    (try simp only [if_true, Bool.false_eq_true, if_false] at HD)
    go_enter Try.func39, Try.ntmps39
    go_upto_region 1 with fail
    rw [← HW.out]
    go_wp2_with fail
    refine HD.out.mono ?_
    clear HD HW
    intro e W1 hp
    cases r with
    | out s' =>
      obtain ⟨rfl, v', h'⟩ := hp
      have H := Lib.hid h'
      clear h'
      go_wp2_with fail
      exact ⟨rfl, rfl, v', H.out⟩
    | ret a s' =>
      obtain ⟨rfl, v', h'⟩ := hp
      obtain ⟨ab, an, ao, ae⟩ := a
      simp only [RFree]
      have H := Lib.hid h'
      clear h'
      go_wp2_with fail
      go_ret3
      exact ⟨rfl, v', H.out⟩
set_option maxHeartbeats 3200000 in
set_option maxRecDepth 100000 in
theorem one_5 (h : Sp w0 S w pb mb cb s v) (hl : Lok s.left) (x : S57) (h0 : 0 ≤ x.f0 ∧ x.f0 ≤ 255) (told : Int) (hd : x.f0 % 7 = 5) :
    Calls Try.prog 39 #[ptr pb, .agg (askV x), .int .i64 told] w (Pend w0 S pb mb cb ((s.ask (QRetire (hTo x told) x.f2)).map fun a => out3 (0, a.e, told))) := by
  obtain ⟨W, hW⟩ : ∃ W : World, W = w.alloc (.cells (askV x) 57) := ⟨_, rfl⟩
  have hb : Below w.heap.size w W := hW ▸ below_alloc (Below.refl _ _) _
  have hk : W.heap[w.heap.size]? = some (.cells (askV x) 57 (0, 0)) := hW ▸ blk_new _ _
  have h1 := h.below hb
  have HW := Lib.hid hW
  have HD := Lib.hid (sRetire h1 hl (hTo x told) x.f2)
  obtain ⟨r, hr⟩ : ∃ r, s.ask (QRetire (hTo x told) x.f2) = r := ⟨_, rfl⟩
  rw [hr] at HD ⊢
  obtain ⟨f0, f1, f2, f3, f4, f5⟩ := x
  (try simp only [hTo] at HD)
  simp only [askV] at hk HW ⊢
  simp only at h0 hd
  have hk' := Lib.hid hk
  obtain ⟨x0, x1, x2, x3, x4, x5⟩ := box6 hk
  have e0 : ∀ u, f0 % 7 = u → f0 % 7 = u := fun _ h => h
  clear hW hb hk h1 h hr hl e0
  cases f4
  all_goals
    (try simp only [if_true, Bool.false_eq_true, if_false] at HD)
    go_enter Try.func39, Try.ntmps39
    go_upto_region 1 with fail
    rw [← HW.out]
    go_wp2_with fail
    refine HD.out.mono ?_
    clear HD HW
    intro e W1 hp
    cases r with
    | out s' =>
      obtain ⟨rfl, v', h'⟩ := hp
      have H := Lib.hid h'
      clear h'
      go_wp2_with fail
      exact ⟨rfl, rfl, v', H.out⟩
    | ret a s' =>
      obtain ⟨rfl, v', h'⟩ := hp
      obtain ⟨ab, an, ao, ae⟩ := a
      simp only [RRetire]
      have H := Lib.hid h'
      clear h'
      go_wp2_with fail
      go_ret3
      exact ⟨rfl, v', H.out⟩
set_option maxHeartbeats 3200000 in
set_option maxRecDepth 100000 in
theorem one_6 (h : Sp w0 S w pb mb cb s v) (hl : Lok s.left) (x : S57) (h0 : 0 ≤ x.f0 ∧ x.f0 ≤ 255) (told : Int) (hd : x.f0 % 7 = 6) :
    Calls Try.prog 39 #[ptr pb, .agg (askV x), .int .i64 told] w (Pend w0 S pb mb cb ((s.ask (QReap x.f1 x.f2)).map fun a => out3 (flagI a.ok, a.e, told))) := by
  obtain ⟨W, hW⟩ : ∃ W : World, W = w.alloc (.cells (askV x) 57) := ⟨_, rfl⟩
  have hb : Below w.heap.size w W := hW ▸ below_alloc (Below.refl _ _) _
  have hk : W.heap[w.heap.size]? = some (.cells (askV x) 57 (0, 0)) := hW ▸ blk_new _ _
  have h1 := h.below hb
  have HW := Lib.hid hW
  have HD := Lib.hid (sReap h1 hl x.f1 x.f2)
  obtain ⟨r, hr⟩ : ∃ r, s.ask (QReap x.f1 x.f2) = r := ⟨_, rfl⟩
  rw [hr] at HD ⊢
  obtain ⟨f0, f1, f2, f3, f4, f5⟩ := x
  (try simp only [hTo] at HD)
  simp only [askV] at hk HW ⊢
  simp only at h0 hd
  have hk' := Lib.hid hk
  obtain ⟨x0, x1, x2, x3, x4, x5⟩ := box6 hk
  have e0 : ∀ u, f0 % 7 = u → f0 % 7 = u := fun _ h => h
  clear hW hb hk h1 h hr hl e0
  cases f4
  all_goals
    (try simp only [if_true, Bool.false_eq_true, if_false] at HD)
    go_enter Try.func39, Try.ntmps39
    go_upto_region 1 with fail
    rw [← HW.out]
    go_wp2_with fail
    refine HD.out.mono ?_
    clear HD HW
    intro e W1 hp
    cases r with
    | out s' =>
      obtain ⟨rfl, v', h'⟩ := hp
      have H := Lib.hid h'
      clear h'
      go_wp2_with fail
      exact ⟨rfl, rfl, v', H.out⟩
    | ret a s' =>
      obtain ⟨rfl, v', h'⟩ := hp
      obtain ⟨ab, an, ao, ae⟩ := a
      simp only [RReap]
      have H := Lib.hid h'
      clear h'
      go_wp2_with fail
      refine (lflag_calls ao W1).mono ?_
      rintro e w2 ⟨rfl, rfl⟩
      go_wp2_with fail
      go_ret3
      exact ⟨rfl, v', H.out⟩
theorem one_calls (h : Sp w0 S w pb mb cb s v) (hl : Lok s.left) (x : S57) (h0 : 0 ≤ x.f0 ∧ x.f0 ≤ 255) (told : Int) :
    Calls Try.prog 39 #[ptr pb, .agg (askV x), .int .i64 told] w (Pend w0 S pb mb cb ((s.ask (askOf x told)).map fun a => out3 (outOf x told a))) := by
  have hc : x.f0 % 7 = 0 ∨ x.f0 % 7 = 1 ∨ x.f0 % 7 = 2 ∨ x.f0 % 7 = 3 ∨ x.f0 % 7 = 4 ∨ x.f0 % 7 = 5 ∨ x.f0 % 7 = 6 := by omega
  unfold askOf outOf
  rcases hc with e | e | e | e | e | e | e

  · simp only [e]
    exact one_0 h hl x h0 told e
  · simp only [e]
    exact one_1 h hl x h0 told e
  · simp only [e]
    exact one_2 h hl x h0 told e
  · simp only [e]
    exact one_3 h hl x h0 told e
  · simp only [e]
    exact one_4 h hl x h0 told e
  · simp only [e]
    exact one_5 h hl x h0 told e
  · simp only [e]
    exact one_6 h hl x h0 told e
end
end Go.Proofs.Ythgbgflpjggpmaa.Mem
