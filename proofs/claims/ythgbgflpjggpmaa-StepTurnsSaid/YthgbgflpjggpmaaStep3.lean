/- A port's functions, step by step. -/
import Derived.Test.YthgbgflpjggpmaaStep2
namespace Go.Proofs.Ythgbgflpjggpmaa.Mem
open Go.RowKit Go.Proofs.YthgbgflpjggpmaaW.PrintWords Go.Proofs.YthgbgflpjggpmaaW.PrintLast Go.Proofs.Ythgbgflpjggpmaa.Tags
set_option linter.unusedVariables false
set_option linter.unusedSimpArgs false
section
variable {w w' w0 : World} {pb mb cb : Nat} {S : Nat → Prop} {s : PS} {v : Value}
set_option maxHeartbeats 1600000 in
set_option maxRecDepth 100000 in
theorem sAllocWord (h : Sp w0 S w pb mb cb s v) (hl : Lok s.left) (n : Int) : Calls Try.prog 30 #[ptr pb, .int .i64 n] w (Pend w0 S pb mb cb ((s.ask (QAllocWord n)).map RAllocWord)) := by
  have hmf := makeFunc_run
  obtain ⟨W, hW⟩ : ∃ W : World, W = ((w.alloc (.cells #[ptr pb] 33)).alloc (.cells #[.int .i64 n] 3)) := ⟨_, rfl⟩
  have hb : Below w.heap.size w W := hW ▸ (below_alloc (below_alloc (Below.refl _ _) _) _)
  have k0 : W.heap[w.heap.size]? = some (.cells #[ptr pb] 33 (0, 0)) := by
    exact hW ▸ (blk_alloc (blk_new _ _) _)
  have x0 := box1 k0
  have K0 := Lib.hid k0
  clear k0
  have k1 : W.heap[w.heap.size + 1]? = some (.cells #[.int .i64 n] 3 (0, 0)) := by
    have e : w.heap.size + 1 = (w.alloc (.cells #[ptr pb] 33)).heap.size := by simp
    rw [e]
    exact hW ▸ (blk_new _ _)
  have x1 := box1 k1
  have K1 := Lib.hid k1
  clear k1
  have h1 := h.below hb
  have hd : ∀ W1, Below W.heap.size W W1 → Calls Try.prog 48 #[.pointer (some ⟨w.heap.size, 0, none⟩), .pointer (some ⟨w.heap.size + 1, 0, none⟩)] W1 (Ends W1 mb cb ((QAllocWord n) s.m).2.v ((QAllocWord n) s.m).1) := fun W1 q => AllocWord_fn (h1.A.below q) (h1.P.below q) n (blk_below K0.out q) (blk_below K1.out q)
  have hq : ((QAllocWord n) s.m).2.good := Or.inl rfl
  have HD := Lib.hid (ask_res h1 hl hq (fun W => enters_ Try.func48 (by kernel_rfl) rfl _ W) hd)
  have hg : ∀ a s', s.ask (QAllocWord n) = .ret a s' → a.good := fun a s' e => ask_good h.ok hq e
  obtain ⟨r, hr⟩ : ∃ r, s.ask (QAllocWord n) = r := ⟨_, rfl⟩
  rw [hr] at HD hg
  rw [hr]
  have HW := Lib.hid hW
  clear hd hq h1 hW hb hr h hl
  go_enter Try.func30, Try.ntmps30
  go_wp2_with fail
  rw [← HW.out]
  refine HD.out.mono ?_
  clear HD HW x0 K0 x1 K1
  intro e W' hp
  cases r with
  | out s' =>
    obtain ⟨rfl, v', h'⟩ := hp
    have H := Lib.hid h'
    clear h' hg
    go_wp2_with fail
    exact ⟨rfl, rfl, v', H.out⟩
  | ret a s' =>
    obtain ⟨rfl, v', h'⟩ := hp
    have hgood := hg a s' rfl
    clear hg
    obtain ⟨ab, an, ao, ae⟩ := a
    have FIN := Lib.hid (show ∀ k, Sp w0 S ((W'.alloc (.cells #[ab, .int .i64 an, .bool ao, .int .i64 ae] 76)).drewN k) pb mb cb s' v' from fun k => (h'.below (below_alloc (Below.refl _ _) _)).below (pw_below_drewN (Below.refl _ _) k))
    clear h'
    rcases hgood with hb | ⟨T, x, hb⟩
    all_goals
      simp only at hb
      subst hb
      go_wp2_with fail
      go_quiet (fail)
      go_wp2_with fail
      go_ret2
      exact ⟨rfl, v', FIN.out _⟩
set_option maxHeartbeats 1600000 in
set_option maxRecDepth 100000 in
theorem sWord (h : Sp w0 S w pb mb cb s v) (hl : Lok s.left) (h_ : Int) : Calls Try.prog 11 #[ptr pb, .int .i64 h_] w (Pend w0 S pb mb cb ((s.ask (QWord h_)).map RWord)) := by
  have hmf := makeFunc_run
  obtain ⟨W, hW⟩ : ∃ W : World, W = ((w.alloc (.cells #[ptr pb] 33)).alloc (.cells #[.int .i64 h_] 3)) := ⟨_, rfl⟩
  have hb : Below w.heap.size w W := hW ▸ (below_alloc (below_alloc (Below.refl _ _) _) _)
  have k0 : W.heap[w.heap.size]? = some (.cells #[ptr pb] 33 (0, 0)) := by
    exact hW ▸ (blk_alloc (blk_new _ _) _)
  have x0 := box1 k0
  have K0 := Lib.hid k0
  clear k0
  have k1 : W.heap[w.heap.size + 1]? = some (.cells #[.int .i64 h_] 3 (0, 0)) := by
    have e : w.heap.size + 1 = (w.alloc (.cells #[ptr pb] 33)).heap.size := by simp
    rw [e]
    exact hW ▸ (blk_new _ _)
  have x1 := box1 k1
  have K1 := Lib.hid k1
  clear k1
  have h1 := h.below hb
  have hd : ∀ W1, Below W.heap.size W W1 → Calls Try.prog 33 #[.pointer (some ⟨w.heap.size, 0, none⟩), .pointer (some ⟨w.heap.size + 1, 0, none⟩)] W1 (Ends W1 mb cb ((QWord h_) s.m).2.v ((QWord h_) s.m).1) := fun W1 q => Word_fn (h1.A.below q) (h1.P.below q) h_ (blk_below K0.out q) (blk_below K1.out q)
  have hq : ((QWord h_) s.m).2.good := Or.inl rfl
  have HD := Lib.hid (ask_res h1 hl hq (fun W => enters_ Try.func33 (by kernel_rfl) rfl _ W) hd)
  have hg : ∀ a s', s.ask (QWord h_) = .ret a s' → a.good := fun a s' e => ask_good h.ok hq e
  obtain ⟨r, hr⟩ : ∃ r, s.ask (QWord h_) = r := ⟨_, rfl⟩
  rw [hr] at HD hg
  rw [hr]
  have HW := Lib.hid hW
  clear hd hq h1 hW hb hr h hl
  go_enter Try.func11, Try.ntmps11
  go_wp2_with fail
  rw [← HW.out]
  refine HD.out.mono ?_
  clear HD HW x0 K0 x1 K1
  intro e W' hp
  cases r with
  | out s' =>
    obtain ⟨rfl, v', h'⟩ := hp
    have H := Lib.hid h'
    clear h' hg
    go_wp2_with fail
    exact ⟨rfl, rfl, v', H.out⟩
  | ret a s' =>
    obtain ⟨rfl, v', h'⟩ := hp
    have hgood := hg a s' rfl
    clear hg
    obtain ⟨ab, an, ao, ae⟩ := a
    have FIN := Lib.hid (show ∀ k, Sp w0 S ((W'.alloc (.cells #[ab, .int .i64 an, .bool ao, .int .i64 ae] 76)).drewN k) pb mb cb s' v' from fun k => (h'.below (below_alloc (Below.refl _ _) _)).below (pw_below_drewN (Below.refl _ _) k))
    clear h'
    rcases hgood with hb | ⟨T, x, hb⟩
    all_goals
      simp only at hb
      subst hb
      go_wp2_with fail
      go_quiet (fail)
      go_wp2_with fail
      go_ret2
      exact ⟨rfl, v', FIN.out _⟩
set_option maxHeartbeats 1600000 in
set_option maxRecDepth 100000 in
theorem sStore (h : Sp w0 S w pb mb cb s v) (hl : Lok s.left) (h_ n : Int) : Calls Try.prog 52 #[ptr pb, .int .i64 h_, .int .i64 n] w (Pend w0 S pb mb cb ((s.ask (QStore h_ n)).map RStore)) := by
  have hmf := makeFunc_run
  obtain ⟨W, hW⟩ : ∃ W : World, W = (((w.alloc (.cells #[ptr pb] 33)).alloc (.cells #[.int .i64 h_] 3)).alloc (.cells #[.int .i64 n] 3)) := ⟨_, rfl⟩
  have hb : Below w.heap.size w W := hW ▸ (below_alloc (below_alloc (below_alloc (Below.refl _ _) _) _) _)
  have k0 : W.heap[w.heap.size]? = some (.cells #[ptr pb] 33 (0, 0)) := by
    exact hW ▸ (blk_alloc (blk_alloc (blk_new _ _) _) _)
  have x0 := box1 k0
  have K0 := Lib.hid k0
  clear k0
  have k1 : W.heap[w.heap.size + 1]? = some (.cells #[.int .i64 h_] 3 (0, 0)) := by
    have e : w.heap.size + 1 = (w.alloc (.cells #[ptr pb] 33)).heap.size := by simp
    rw [e]
    exact hW ▸ (blk_alloc (blk_new _ _) _)
  have x1 := box1 k1
  have K1 := Lib.hid k1
  clear k1
  have k2 : W.heap[w.heap.size + 1 + 1]? = some (.cells #[.int .i64 n] 3 (0, 0)) := by
    have e : w.heap.size + 1 + 1 = ((w.alloc (.cells #[ptr pb] 33)).alloc (.cells #[.int .i64 h_] 3)).heap.size := by simp
    rw [e]
    exact hW ▸ (blk_new _ _)
  have x2 := box1 k2
  have K2 := Lib.hid k2
  clear k2
  have h1 := h.below hb
  have hd : ∀ W1, Below W.heap.size W W1 → Calls Try.prog 63 #[.pointer (some ⟨w.heap.size, 0, none⟩), .pointer (some ⟨w.heap.size + 1, 0, none⟩), .pointer (some ⟨w.heap.size + 1 + 1, 0, none⟩)] W1 (Ends W1 mb cb ((QStore h_ n) s.m).2.v ((QStore h_ n) s.m).1) := fun W1 q => Store_fn (h1.A.below q) (h1.P.below q) h_ n (blk_below K0.out q) (blk_below K1.out q) (blk_below K2.out q)
  have hq : ((QStore h_ n) s.m).2.good := Or.inl rfl
  have HD := Lib.hid (ask_res h1 hl hq (fun W => enters_ Try.func63 (by kernel_rfl) rfl _ W) hd)
  have hg : ∀ a s', s.ask (QStore h_ n) = .ret a s' → a.good := fun a s' e => ask_good h.ok hq e
  obtain ⟨r, hr⟩ : ∃ r, s.ask (QStore h_ n) = r := ⟨_, rfl⟩
  rw [hr] at HD hg
  rw [hr]
  have HW := Lib.hid hW
  clear hd hq h1 hW hb hr h hl
  go_enter Try.func52, Try.ntmps52
  go_wp2_with fail
  rw [← HW.out]
  refine HD.out.mono ?_
  clear HD HW x0 K0 x1 K1 x2 K2
  intro e W' hp
  cases r with
  | out s' =>
    obtain ⟨rfl, v', h'⟩ := hp
    have H := Lib.hid h'
    clear h' hg
    go_wp2_with fail
    exact ⟨rfl, rfl, v', H.out⟩
  | ret a s' =>
    obtain ⟨rfl, v', h'⟩ := hp
    have hgood := hg a s' rfl
    clear hg
    obtain ⟨ab, an, ao, ae⟩ := a
    have H := Lib.hid h'
    clear h'
    have hfd := fun W => field_ans ab an ao ae W
    go_wp2_with fail
    go_ret
    exact ⟨rfl, v', H.out⟩
set_option maxHeartbeats 1600000 in
set_option maxRecDepth 100000 in
theorem sSwap (h : Sp w0 S w pb mb cb s v) (hl : Lok s.left) (h_ o n : Int) : Calls Try.prog 12 #[ptr pb, .int .i64 h_, .int .i64 o, .int .i64 n] w (Pend w0 S pb mb cb ((s.ask (QSwap h_ o n)).map RSwap)) := by
  have hmf := makeFunc_run
  obtain ⟨W, hW⟩ : ∃ W : World, W = ((((w.alloc (.cells #[ptr pb] 33)).alloc (.cells #[.int .i64 h_] 3)).alloc (.cells #[.int .i64 o] 3)).alloc (.cells #[.int .i64 n] 3)) := ⟨_, rfl⟩
  have hb : Below w.heap.size w W := hW ▸ (below_alloc (below_alloc (below_alloc (below_alloc (Below.refl _ _) _) _) _) _)
  have k0 : W.heap[w.heap.size]? = some (.cells #[ptr pb] 33 (0, 0)) := by
    exact hW ▸ (blk_alloc (blk_alloc (blk_alloc (blk_new _ _) _) _) _)
  have x0 := box1 k0
  have K0 := Lib.hid k0
  clear k0
  have k1 : W.heap[w.heap.size + 1]? = some (.cells #[.int .i64 h_] 3 (0, 0)) := by
    have e : w.heap.size + 1 = (w.alloc (.cells #[ptr pb] 33)).heap.size := by simp
    rw [e]
    exact hW ▸ (blk_alloc (blk_alloc (blk_new _ _) _) _)
  have x1 := box1 k1
  have K1 := Lib.hid k1
  clear k1
  have k2 : W.heap[w.heap.size + 1 + 1]? = some (.cells #[.int .i64 o] 3 (0, 0)) := by
    have e : w.heap.size + 1 + 1 = ((w.alloc (.cells #[ptr pb] 33)).alloc (.cells #[.int .i64 h_] 3)).heap.size := by simp
    rw [e]
    exact hW ▸ (blk_alloc (blk_new _ _) _)
  have x2 := box1 k2
  have K2 := Lib.hid k2
  clear k2
  have k3 : W.heap[w.heap.size + 1 + 1 + 1]? = some (.cells #[.int .i64 n] 3 (0, 0)) := by
    have e : w.heap.size + 1 + 1 + 1 = (((w.alloc (.cells #[ptr pb] 33)).alloc (.cells #[.int .i64 h_] 3)).alloc (.cells #[.int .i64 o] 3)).heap.size := by simp
    rw [e]
    exact hW ▸ (blk_new _ _)
  have x3 := box1 k3
  have K3 := Lib.hid k3
  clear k3
  have h1 := h.below hb
  have hd : ∀ W1, Below W.heap.size W W1 → Calls Try.prog 34 #[.pointer (some ⟨w.heap.size, 0, none⟩), .pointer (some ⟨w.heap.size + 1, 0, none⟩), .pointer (some ⟨w.heap.size + 1 + 1, 0, none⟩), .pointer (some ⟨w.heap.size + 1 + 1 + 1, 0, none⟩)] W1 (Ends W1 mb cb ((QSwap h_ o n) s.m).2.v ((QSwap h_ o n) s.m).1) := fun W1 q => Swap_fn (h1.A.below q) (h1.P.below q) h_ o n (blk_below K0.out q) (blk_below K1.out q) (blk_below K2.out q) (blk_below K3.out q)
  have hq : ((QSwap h_ o n) s.m).2.good := Or.inl rfl
  have HD := Lib.hid (ask_res h1 hl hq (fun W => enters_ Try.func34 (by kernel_rfl) rfl _ W) hd)
  have hg : ∀ a s', s.ask (QSwap h_ o n) = .ret a s' → a.good := fun a s' e => ask_good h.ok hq e
  obtain ⟨r, hr⟩ : ∃ r, s.ask (QSwap h_ o n) = r := ⟨_, rfl⟩
  rw [hr] at HD hg
  rw [hr]
  have HW := Lib.hid hW
  clear hd hq h1 hW hb hr h hl
  go_enter Try.func12, Try.ntmps12
  go_wp2_with fail
  rw [← HW.out]
  refine HD.out.mono ?_
  clear HD HW x0 K0 x1 K1 x2 K2 x3 K3
  intro e W' hp
  cases r with
  | out s' =>
    obtain ⟨rfl, v', h'⟩ := hp
    have H := Lib.hid h'
    clear h' hg
    go_wp2_with fail
    exact ⟨rfl, rfl, v', H.out⟩
  | ret a s' =>
    obtain ⟨rfl, v', h'⟩ := hp
    have hgood := hg a s' rfl
    clear hg
    obtain ⟨ab, an, ao, ae⟩ := a
    have FIN := Lib.hid (show ∀ k, Sp w0 S ((W'.alloc (.cells #[ab, .int .i64 an, .bool ao, .int .i64 ae] 76)).drewN k) pb mb cb s' v' from fun k => (h'.below (below_alloc (Below.refl _ _) _)).below (pw_below_drewN (Below.refl _ _) k))
    clear h'
    rcases hgood with hb | ⟨T, x, hb⟩
    all_goals
      simp only at hb
      subst hb
      go_wp2_with fail
      go_quiet (fail)
      go_wp2_with fail
      go_ret2
      exact ⟨rfl, v', FIN.out _⟩
set_option maxHeartbeats 1600000 in
set_option maxRecDepth 100000 in
theorem sFree (h : Sp w0 S w pb mb cb s v) (hl : Lok s.left) (h_ : Int) : Calls Try.prog 54 #[ptr pb, .int .i64 h_] w (Pend w0 S pb mb cb ((s.ask (QFree h_)).map RFree)) := by
  have hmf := makeFunc_run
  obtain ⟨W, hW⟩ : ∃ W : World, W = ((w.alloc (.cells #[ptr pb] 33)).alloc (.cells #[.int .i64 h_] 3)) := ⟨_, rfl⟩
  have hb : Below w.heap.size w W := hW ▸ (below_alloc (below_alloc (Below.refl _ _) _) _)
  have k0 : W.heap[w.heap.size]? = some (.cells #[ptr pb] 33 (0, 0)) := by
    exact hW ▸ (blk_alloc (blk_new _ _) _)
  have x0 := box1 k0
  have K0 := Lib.hid k0
  clear k0
  have k1 : W.heap[w.heap.size + 1]? = some (.cells #[.int .i64 h_] 3 (0, 0)) := by
    have e : w.heap.size + 1 = (w.alloc (.cells #[ptr pb] 33)).heap.size := by simp
    rw [e]
    exact hW ▸ (blk_new _ _)
  have x1 := box1 k1
  have K1 := Lib.hid k1
  clear k1
  have h1 := h.below hb
  have hd : ∀ W1, Below W.heap.size W W1 → Calls Try.prog 65 #[.pointer (some ⟨w.heap.size, 0, none⟩), .pointer (some ⟨w.heap.size + 1, 0, none⟩)] W1 (Ends W1 mb cb ((QFree h_) s.m).2.v ((QFree h_) s.m).1) := fun W1 q => Free_fn (h1.A.below q) (h1.P.below q) h_ (blk_below K0.out q) (blk_below K1.out q)
  have hq : ((QFree h_) s.m).2.good := Or.inl rfl
  have HD := Lib.hid (ask_res h1 hl hq (fun W => enters_ Try.func65 (by kernel_rfl) rfl _ W) hd)
  have hg : ∀ a s', s.ask (QFree h_) = .ret a s' → a.good := fun a s' e => ask_good h.ok hq e
  obtain ⟨r, hr⟩ : ∃ r, s.ask (QFree h_) = r := ⟨_, rfl⟩
  rw [hr] at HD hg
  rw [hr]
  have HW := Lib.hid hW
  clear hd hq h1 hW hb hr h hl
  go_enter Try.func54, Try.ntmps54
  go_wp2_with fail
  rw [← HW.out]
  refine HD.out.mono ?_
  clear HD HW x0 K0 x1 K1
  intro e W' hp
  cases r with
  | out s' =>
    obtain ⟨rfl, v', h'⟩ := hp
    have H := Lib.hid h'
    clear h' hg
    go_wp2_with fail
    exact ⟨rfl, rfl, v', H.out⟩
  | ret a s' =>
    obtain ⟨rfl, v', h'⟩ := hp
    have hgood := hg a s' rfl
    clear hg
    obtain ⟨ab, an, ao, ae⟩ := a
    have H := Lib.hid h'
    clear h'
    have hfd := fun W => field_ans ab an ao ae W
    go_wp2_with fail
    go_ret
    exact ⟨rfl, v', H.out⟩
set_option maxHeartbeats 1600000 in
set_option maxRecDepth 100000 in
theorem sRetire (h : Sp w0 S w pb mb cb s v) (hl : Lok s.left) (h_ s_ : Int) : Calls Try.prog 55 #[ptr pb, .int .i64 h_, .int .i64 s_] w (Pend w0 S pb mb cb ((s.ask (QRetire h_ s_)).map RRetire)) := by
  have hmf := makeFunc_run
  obtain ⟨W, hW⟩ : ∃ W : World, W = (((w.alloc (.cells #[ptr pb] 33)).alloc (.cells #[.int .i64 h_] 3)).alloc (.cells #[.int .i64 s_] 3)) := ⟨_, rfl⟩
  have hb : Below w.heap.size w W := hW ▸ (below_alloc (below_alloc (below_alloc (Below.refl _ _) _) _) _)
  have k0 : W.heap[w.heap.size]? = some (.cells #[ptr pb] 33 (0, 0)) := by
    exact hW ▸ (blk_alloc (blk_alloc (blk_new _ _) _) _)
  have x0 := box1 k0
  have K0 := Lib.hid k0
  clear k0
  have k1 : W.heap[w.heap.size + 1]? = some (.cells #[.int .i64 h_] 3 (0, 0)) := by
    have e : w.heap.size + 1 = (w.alloc (.cells #[ptr pb] 33)).heap.size := by simp
    rw [e]
    exact hW ▸ (blk_alloc (blk_new _ _) _)
  have x1 := box1 k1
  have K1 := Lib.hid k1
  clear k1
  have k2 : W.heap[w.heap.size + 1 + 1]? = some (.cells #[.int .i64 s_] 3 (0, 0)) := by
    have e : w.heap.size + 1 + 1 = ((w.alloc (.cells #[ptr pb] 33)).alloc (.cells #[.int .i64 h_] 3)).heap.size := by simp
    rw [e]
    exact hW ▸ (blk_new _ _)
  have x2 := box1 k2
  have K2 := Lib.hid k2
  clear k2
  have h1 := h.below hb
  have hd : ∀ W1, Below W.heap.size W W1 → Calls Try.prog 67 #[.pointer (some ⟨w.heap.size, 0, none⟩), .pointer (some ⟨w.heap.size + 1, 0, none⟩), .pointer (some ⟨w.heap.size + 1 + 1, 0, none⟩)] W1 (Ends W1 mb cb ((QRetire h_ s_) s.m).2.v ((QRetire h_ s_) s.m).1) := fun W1 q => Retire_fn (h1.A.below q) (h1.P.below q) h_ s_ (blk_below K0.out q) (blk_below K1.out q) (blk_below K2.out q)
  have hq : ((QRetire h_ s_) s.m).2.good := Or.inl rfl
  have HD := Lib.hid (ask_res h1 hl hq (fun W => enters_ Try.func67 (by kernel_rfl) rfl _ W) hd)
  have hg : ∀ a s', s.ask (QRetire h_ s_) = .ret a s' → a.good := fun a s' e => ask_good h.ok hq e
  obtain ⟨r, hr⟩ : ∃ r, s.ask (QRetire h_ s_) = r := ⟨_, rfl⟩
  rw [hr] at HD hg
  rw [hr]
  have HW := Lib.hid hW
  clear hd hq h1 hW hb hr h hl
  go_enter Try.func55, Try.ntmps55
  go_wp2_with fail
  rw [← HW.out]
  refine HD.out.mono ?_
  clear HD HW x0 K0 x1 K1 x2 K2
  intro e W' hp
  cases r with
  | out s' =>
    obtain ⟨rfl, v', h'⟩ := hp
    have H := Lib.hid h'
    clear h' hg
    go_wp2_with fail
    exact ⟨rfl, rfl, v', H.out⟩
  | ret a s' =>
    obtain ⟨rfl, v', h'⟩ := hp
    have hgood := hg a s' rfl
    clear hg
    obtain ⟨ab, an, ao, ae⟩ := a
    have H := Lib.hid h'
    clear h'
    have hfd := fun W => field_ans ab an ao ae W
    go_wp2_with fail
    go_ret
    exact ⟨rfl, v', H.out⟩
set_option maxHeartbeats 1600000 in
set_option maxRecDepth 100000 in
theorem sReap (h : Sp w0 S w pb mb cb s v) (hl : Lok s.left) (p b : Int) : Calls Try.prog 56 #[ptr pb, .int .i64 p, .int .i64 b] w (Pend w0 S pb mb cb ((s.ask (QReap p b)).map RReap)) := by
  have hmf := makeFunc_run
  obtain ⟨W, hW⟩ : ∃ W : World, W = (((w.alloc (.cells #[ptr pb] 33)).alloc (.cells #[.int .i64 p] 3)).alloc (.cells #[.int .i64 b] 3)) := ⟨_, rfl⟩
  have hb : Below w.heap.size w W := hW ▸ (below_alloc (below_alloc (below_alloc (Below.refl _ _) _) _) _)
  have k0 : W.heap[w.heap.size]? = some (.cells #[ptr pb] 33 (0, 0)) := by
    exact hW ▸ (blk_alloc (blk_alloc (blk_new _ _) _) _)
  have x0 := box1 k0
  have K0 := Lib.hid k0
  clear k0
  have k1 : W.heap[w.heap.size + 1]? = some (.cells #[.int .i64 p] 3 (0, 0)) := by
    have e : w.heap.size + 1 = (w.alloc (.cells #[ptr pb] 33)).heap.size := by simp
    rw [e]
    exact hW ▸ (blk_alloc (blk_new _ _) _)
  have x1 := box1 k1
  have K1 := Lib.hid k1
  clear k1
  have k2 : W.heap[w.heap.size + 1 + 1]? = some (.cells #[.int .i64 b] 3 (0, 0)) := by
    have e : w.heap.size + 1 + 1 = ((w.alloc (.cells #[ptr pb] 33)).alloc (.cells #[.int .i64 p] 3)).heap.size := by simp
    rw [e]
    exact hW ▸ (blk_new _ _)
  have x2 := box1 k2
  have K2 := Lib.hid k2
  clear k2
  have h1 := h.below hb
  have hd : ∀ W1, Below W.heap.size W W1 → Calls Try.prog 69 #[.pointer (some ⟨w.heap.size, 0, none⟩), .pointer (some ⟨w.heap.size + 1, 0, none⟩), .pointer (some ⟨w.heap.size + 1 + 1, 0, none⟩)] W1 (Ends W1 mb cb ((QReap p b) s.m).2.v ((QReap p b) s.m).1) := fun W1 q => Reap_fn (h1.A.below q) (h1.P.below q) p b (blk_below K0.out q) (blk_below K1.out q) (blk_below K2.out q)
  have hq : ((QReap p b) s.m).2.good := Or.inl rfl
  have HD := Lib.hid (ask_res h1 hl hq (fun W => enters_ Try.func69 (by kernel_rfl) rfl _ W) hd)
  have hg : ∀ a s', s.ask (QReap p b) = .ret a s' → a.good := fun a s' e => ask_good h.ok hq e
  obtain ⟨r, hr⟩ : ∃ r, s.ask (QReap p b) = r := ⟨_, rfl⟩
  rw [hr] at HD hg
  rw [hr]
  have HW := Lib.hid hW
  clear hd hq h1 hW hb hr h hl
  go_enter Try.func56, Try.ntmps56
  go_wp2_with fail
  rw [← HW.out]
  refine HD.out.mono ?_
  clear HD HW x0 K0 x1 K1 x2 K2
  intro e W' hp
  cases r with
  | out s' =>
    obtain ⟨rfl, v', h'⟩ := hp
    have H := Lib.hid h'
    clear h' hg
    go_wp2_with fail
    exact ⟨rfl, rfl, v', H.out⟩
  | ret a s' =>
    obtain ⟨rfl, v', h'⟩ := hp
    have hgood := hg a s' rfl
    clear hg
    obtain ⟨ab, an, ao, ae⟩ := a
    have FIN := Lib.hid (show ∀ k, Sp w0 S ((W'.alloc (.cells #[ab, .int .i64 an, .bool ao, .int .i64 ae] 76)).drewN k) pb mb cb s' v' from fun k => (h'.below (below_alloc (Below.refl _ _) _)).below (pw_below_drewN (Below.refl _ _) k))
    clear h'
    rcases hgood with hb | ⟨T, x, hb⟩
    all_goals
      simp only at hb
      subst hb
      go_wp2_with fail
      go_quiet (fail)
      go_wp2_with fail
      go_ret2
      exact ⟨rfl, v', FIN.out _⟩
end
end Go.Proofs.Ythgbgflpjggpmaa.Mem
