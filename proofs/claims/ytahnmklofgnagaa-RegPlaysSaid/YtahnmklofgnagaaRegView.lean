/- Registers in memory as a map: what their making comes to, and what is told of them. Plain lemmas. -/
import Derived.Test.YtahnmklofgnagaaView1
import Derived.Test.YtahnmklofgnagaaRegIds0
import Derived.Test.YtahnmklofgnagaaLay15
import Derived.Test.YtahnmklofgnagaaReg7
namespace Go.Proofs.Ytahnmklofgnagaa.Mem
open Go.RowKit Go.Proofs.YtahnmklofgnagaaW.PrintWords Go.Proofs.YtahnmklofgnagaaW.PrintLast Go.Proofs.Ytahnmklofgnagaa.Tags
set_option linter.unusedVariables false
set_option linter.unusedSimpArgs false
section
variable {m m' : M} {x y : Int} {i : Nat} {n k : Nat} {g : Int}
theorem words_room (hg : g ≤ 16383) : ∀ (c : Nat) (m : M) (ts : List Int) (k : Nat), Shape m n k g → k + c ≤ n → ∃ m' us, m.words c ts = (m', ts ++ us, 0) ∧ us.length = c ∧ Shape m' n (k + c) g ∧ us.Nodup ∧ (∀ x ∈ us, m.val x = none) ∧ (∀ x ∈ us, m'.val x = some (number 0)) ∧ (∀ y, y ∉ us → m'.val y = m.val y) ∧ (m.okd = true → m'.okd = true)
  | 0, m, ts, k, h, hk => ⟨m, [], by unfold M.words; simp, rfl, h, by simp, by simp, by simp, fun _ _ => rfl, id⟩
  | c + 1, m, ts, k, h, hk => by
    obtain ⟨m1, x, e1, n1, t1, s1⟩ := alloc_val h (by omega) hg 166 (.int .i64 0)
    obtain ⟨m2, us, e2, l2, s2, d2, f2, w2, r2, o2⟩ := words_room hg c m1 (ts ++ [x]) (k + 1) s1 (by omega)
    have e1' : m.alloc (number 0) = (m1, x, 0) := e1
    have hx : x ∉ us := fun hm => by have := f2 x hm; rw [t1.self] at this; cases this
    refine ⟨m2, x :: us, ?_, by simp [l2], by rw [show k + (c + 1) = k + 1 + c by omega]; exact s2, List.nodup_cons.2 ⟨hx, d2⟩, fun y hy => ?_, fun y hy => ?_, fun y hy => ?_, fun ho => ?_⟩
    · unfold M.words
      rw [e1']
      simp only [ne_eq, not_true_eq_false, if_false]
      rw [e2]
      simp
    · rcases List.mem_cons.1 hy with rfl | hy
      · exact n1
      · have := f2 y hy
        rwa [t1.other y (fun e => hx (e ▸ hy))] at this
    · rcases List.mem_cons.1 hy with rfl | hy
      · rw [r2 _ hx, t1.self]
      · exact w2 y hy
    · rw [r2 y (fun h => hy (List.mem_cons_of_mem _ h))]
      exact t1.other y (fun e => hy (e ▸ List.mem_cons_self))
    · refine o2 ?_
      have := okd_alloc ho (number 0) rfl
      rw [e1'] at this
      exact this
/-- A register: its top tells a descriptor that is done, its clients and places hold words. -/
structure Yd (m : M) (top hd : Int) (d : D) (ts ss us vs : List Int) (n k : Nat) (g : Int) : Prop where
  T : TopAt m top hd d 1
  S : Shape m n k g
  ok : m.okd = true
  ws : WordsOf m ts us
  wp : WordsOf m ss vs
  nd : (ts ++ ss).Nodup
  n1 : top ∉ ts ++ ss
  n3 : d.st ∉ ts ++ ss
theorem WordsOf.mem {hs vs : List Int} (h : WordsOf m hs vs) (hx : x ∈ hs) : ∃ z, m.val x = some (number z) := by
  obtain ⟨j, hj, rfl⟩ := List.getElem_of_mem hx
  have := h.2 j hj
  rw [List.getD_eq_getElem?_getD, List.getElem?_eq_getElem hj] at this
  exact ⟨_, this⟩
theorem Yd.n2 {top hd : Int} {d : D} {ts ss us vs : List Int} (h : Yd m top hd d ts ss us vs n k g) : hd ∉ ts ++ ss := by
  intro hm
  have : ∃ z, m.val hd = some (number z) := by
    rcases List.mem_append.1 hm with hm | hm
    · exact h.ws.mem hm
    · exact h.wp.mem hm
  obtain ⟨z, hz⟩ := this
  rw [h.T.h_] at hz
  injection hz with hz
  exact number_ne (by decide) hz.symm
theorem Yd.cells {top hd : Int} {d : D} {ts ss us vs : List Int} (h : Yd m top hd d ts ss us vs n k g) (e : m'.cells = m.cells) (el : m'.live = m.live) : Yd m' top hd d ts ss us vs n k g :=
  ⟨h.T.cells e, h.S.of_cells e el, by rw [okd_cells e]; exact h.ok, h.ws.cells e, h.wp.cells e, h.nd, h.n1, h.n3⟩
theorem not_app {l r : List Int} (h : x ∉ l ++ r) : x ∉ l ∧ x ∉ r := ⟨fun c => h (List.mem_append_left _ c), fun c => h (List.mem_append_right _ c)⟩
theorem TopAt.keep {top hd : Int} {d : D} {s : Int} (h : TopAt m top hd d s) {u : Option Value} (ht : Turned m m' x u) (h1 : top ≠ x) (h2 : hd ≠ x) (h3 : d.st ≠ x) : TopAt m' top hd d s :=
  ⟨(ht.other _ h1).trans h.t_, (ht.other _ h2).trans h.h_, (ht.other _ h3).trans h.s_, h.ne⟩
theorem Yd.slot {top hd : Int} {d : D} {ts ss us vs : List Int} (h : Yd m top hd d ts ss us vs n k g) {c : Nat} (hc : c < ts.length) (z : Int) : ∃ m', m.store (ts.getD c 0) z = (m', 0) ∧ Yd m' top hd d ts ss (us.set c z) vs n k g := by
  obtain ⟨m', e, t, s⟩ := store_val h.S (h.ws.2 c hc) z
  have hm : ts.getD c 0 ∈ ts := getD_mem hc
  have hd' := List.nodup_append.1 h.nd
  have ne := fun {y : Int} (hy : y ∉ ts ++ ss) => (show y ≠ ts.getD c 0 from fun e => (not_app hy).1 (e ▸ hm))
  have o := okd_store h.ok (ts.getD c 0) z
  rw [e] at o
  exact ⟨m', e, h.T.keep t (ne h.n1) (ne h.n2) (ne h.n3), s, o, h.ws.turn hd'.1 hc t, h.wp.keep (fun hx => hd'.2.2 _ hm _ hx rfl) t, h.nd, h.n1, h.n3⟩
theorem Yd.place {top hd : Int} {d : D} {ts ss us vs : List Int} (h : Yd m top hd d ts ss us vs n k g) {c : Nat} (hc : c < ss.length) (z : Int) : ∃ m', m.swap (ss.getD c 0) (vs.getD c 0) z = (m', true, 0) ∧ Yd m' top hd d ts ss us (vs.set c z) n k g := by
  obtain ⟨m', e, t, s⟩ := swap_val h.S (h.wp.2 c hc) z
  have hm : ss.getD c 0 ∈ ss := getD_mem hc
  have hd' := List.nodup_append.1 h.nd
  have ne := fun {y : Int} (hy : y ∉ ts ++ ss) => (show y ≠ ss.getD c 0 from fun e => (not_app hy).2 (e ▸ hm))
  have o := okd_swap h.ok (ss.getD c 0) (vs.getD c 0) z
  rw [e] at o
  exact ⟨m', e, h.T.keep t (ne h.n1) (ne h.n2) (ne h.n3), s, o, h.ws.keep (fun hx => hd'.2.2 _ hx _ hm rfl) t, h.wp.turn hd'.2.1 hc t, h.nd, h.n1, h.n3⟩
theorem replicate_getD (n j : Nat) : (List.replicate n (0 : Int)).getD j 0 = 0 := by
  rw [List.getD_eq_getElem?_getD, List.getElem?_replicate]
  split <;> rfl
theorem lay15_val {a b : Nat} (ha : a ≤ 64) (hb : b ≤ 64) : ∃ (M1 M2 M3 : M) (y t st : Int) (ts ss : List Int), (M.new 200).laid 1 D.z = (M1, y, 0) ∧ M1.alloc (number y) = (M2, t, 0) ∧ M2.reg a b = (M3, ts, ss, 0) ∧ ts.length = a ∧ ss.length = b ∧ Yd M3 t y ⟨0, 0, st, none, 0, 0⟩ ts ss (List.replicate a 0) (List.replicate b 0) 200 (3 + a + b) 0 := by
  obtain ⟨M1, y, st, e1, n1, n2, n3, w1, w2, w3, s1, o1⟩ := laid_val (new_shape 200 (by omega)) (by omega) (by omega) 1 D.z
  obtain ⟨M2, t, e2, n4, t2, s2⟩ := alloc_val s1 (by omega) (by omega) 166 (.int .i64 y)
  obtain ⟨m3, ts, e3, l3, s3, d3, f3, w4, r3, o3⟩ := words_room (by omega) a M2 [] _ s2 (by omega)
  obtain ⟨M3, ss, e4, l4, s4, d4, f4, w5, r4, o4⟩ := words_room (by omega) b m3 [] _ s3 (by omega)
  have e2' : M1.alloc (number y) = (M2, t, 0) := e2
  have q2 : M2.okd = true := by have := okd_alloc (o1 (okd_new 200)) (number y) rfl; rw [e2'] at this; exact this
  have nst : st ≠ t := by rintro rfl; rw [w1] at n4; cases n4
  have ny : y ≠ t := by rintro rfl; rw [w2] at n4; cases n4
  have v1 : M2.val st = some (number 1) := (t2.other st nst).trans w1
  have v2 : M2.val y = some (.iface 51 (D.v ⟨0, 0, st, none, 0, 0⟩)) := (t2.other y ny).trans w2
  have v3 := t2.self
  have k3 : ∀ z u, M2.val z = some u → z ∉ ts ∧ z ∉ ss := fun z u hz => by
    have h1 : z ∉ ts := fun hm => by have := f3 z hm; rw [hz] at this; cases this
    refine ⟨h1, fun hm => ?_⟩
    have := f4 z hm
    rw [r3 z h1, hz] at this
    cases this
  have k4 : ∀ z u, M2.val z = some u → M3.val z = some u := fun z u hz => (r4 z (k3 z u hz).2).trans ((r3 z (k3 z u hz).1).trans hz)
  have hn : ∀ z u, M2.val z = some u → z ∉ ts ++ ss := fun z u hz hm => by
    rcases List.mem_append.1 hm with hm | hm
    · exact (k3 z u hz).1 hm
    · exact (k3 z u hz).2 hm
  refine ⟨M1, M2, M3, y, t, st, ts, ss, e1, e2', ?_, l3, l4, ⟨k4 _ _ v3, k4 _ _ v2, k4 _ _ v1, nst⟩, by rw [show 3 + a + b = 0 + 2 + 1 + a + b by omega]; exact s4, o4 (o3 q2), ⟨by simp [l3], fun j hj => ?_⟩, ⟨by simp [l4], fun j hj => ?_⟩, ?_, hn _ _ v3, hn _ _ v1⟩
  · unfold M.reg
    rw [e3]
    simp only [ne_eq, not_true_eq_false, if_false, List.nil_append]
    rw [e4]
    simp
  · rw [replicate_getD]
    have hm := getD_mem hj
    rw [r4 _ (fun h => by have := f4 _ h; rw [w4 _ hm] at this; cases this)]
    exact w4 _ hm
  · rw [replicate_getD]
    exact w5 _ (getD_mem hj)
  · refine List.nodup_append.2 ⟨d3, d4, fun x hx z hz e => ?_⟩
    subst e
    have := f4 _ hz
    rw [w4 _ hx] at this
    cases this
theorem Yd.like {top hd : Int} {d : D} {ts ss us vs : List Int} (h : Yd m top hd d ts ss us vs n k g) (e : Like m' m) : Yd m' top hd d ts ss us vs n k g := h.cells e.1 e.2
theorem Yd.tick {top hd : Int} {d : D} {ts ss us vs : List Int} (h : Yd m top hd d ts ss us vs n k g) : Yd m.tick top hd d ts ss us vs n k g := h.cells rfl rfl
theorem Yd.swaps {top hd : Int} {d : D} {ts ss us vs : List Int} (h : Yd m top hd d ts ss us vs n k g) (z : Int) : ∀ c, c < ss.length → ∀ m' : M, Like m' m → (m'.swap (ss.getD c 0) (vs.getD c 0) (vs.getD c 0 + z + 1)).2 = (true, 0) := fun c hc m' e => by
  obtain ⟨m2, e2, _⟩ := (h.like e).place hc (vs.getD c 0 + z + 1)
  rw [e2]
section
variable {w0 w w' : World} {pb mb cb : Nat}
theorem place_yes (h : St w0 w pb mb cb m) {base ca cc : Nat} {A B : Option Addr} {ts ss : List Int} (hR : RegAt w base A ca B cc ts ss) (top : Int) (q k : Nat) (hq : q ≤ 144115188075855871) (hk : k < ss.length) (hk2 : k < 64) {M1 : M} {x v : Int} (hx : ss.getD k 0 = x) (hv : m.word x = (M1, v, 0)) (ho : isOpen v q = true) {id : Int} (hid : id = ((q * 64 + k : Nat) : Int)) :
    ∀ W, Below w.heap.size w W → Calls Try.prog 98 #[ptr pb, .agg #[.int .i64 top, .slice A ts.length ca, .slice B ss.length cc], .int .i64 id] W (Endp w0 W pb mb cb (.tuple #[.int .i64 x, .int .i64 v, .int .i64 0]) M1) := fun W hb => by
  have := place_in (h.below hb) (hR.below hb) top q k hq hk hk2 hx hv
  rw [if_pos ho, if_pos ho, if_pos ho] at this
  rw [hid]
  exact this
theorem place_not (h : St w0 w pb mb cb m) {base ca cc : Nat} {A B : Option Addr} {ts ss : List Int} (hR : RegAt w base A ca B cc ts ss) (top : Int) (q k : Nat) (hq : q ≤ 144115188075855871) (hk : k < ss.length) (hk2 : k < 64) {M1 : M} {x v : Int} (hx : ss.getD k 0 = x) (hv : m.word x = (M1, v, 0)) (ho : isOpen v q = false) {id : Int} (hid : id = ((q * 64 + k : Nat) : Int)) :
    ∀ W, Below w.heap.size w W → Calls Try.prog 98 #[ptr pb, .agg #[.int .i64 top, .slice A ts.length ca, .slice B ss.length cc], .int .i64 id] W (Endp w0 W pb mb cb (.tuple #[.int .i64 0, .int .i64 0, .int .i64 2]) M1) := fun W hb => by
  have := place_in (h.below hb) (hR.below hb) top q k hq hk hk2 hx hv
  have hn : ¬ isOpen v q = true := by rw [ho]; decide
  rw [if_neg hn, if_neg hn, if_neg hn] at this
  rw [hid]
  exact this
end
end
end Go.Proofs.Ytahnmklofgnagaa.Mem
