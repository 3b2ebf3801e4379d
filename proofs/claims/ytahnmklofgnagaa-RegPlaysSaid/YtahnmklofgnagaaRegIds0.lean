/- Snapshots' places as words, and ids that were told: what Open and Close make of them. Plain lemmas. -/
import Derived.Test.YtahnmklofgnagaaReg7
import Derived.Test.YtahnmklofgnagaaView0
namespace Go.Proofs.Ytahnmklofgnagaa.Mem
open Go.RowKit Go.Proofs.YtahnmklofgnagaaW.PrintWords Go.Proofs.YtahnmklofgnagaaW.PrintLast Go.Proofs.Ytahnmklofgnagaa.Tags
set_option linter.unusedVariables false
set_option linter.unusedSimpArgs false
theorem and32 (a : Int) (h0 : 0 ≤ a) : Go.bits .and .i64 a 4294967295 = a % 4294967296 := by
  have e : (BitVec.ofInt 64 a &&& BitVec.ofInt 64 4294967295).toNat = (a % 4294967296).toNat := by
    rw [BitVec.toNat_and, BitVec.toNat_ofInt, BitVec.toNat_ofInt]
    have h : ((4294967295 : Int) % ((2 ^ 64 : Nat) : Int)).toNat = 2 ^ 32 - 1 := by decide
    rw [h, Nat.and_two_pow_sub_one_eq_mod]
    omega
  have e2 : Go.bits .and .i64 a 4294967295 = IntKind.i64.wrap ((BitVec.ofInt 64 a &&& BitVec.ofInt 64 4294967295).toNat : Int) := rfl
  rw [e2, e, IntKind.wrap_i64]
  omega
theorem isOpen_iff {v q : Int} (h0 : 0 ≤ v) : isOpen v q = true ↔ v % 4294967296 ≠ 0 ∧ v / 4294967296 = q := by
  unfold isOpen
  rw [and32 v h0]
  simp
theorem mayOpen_iff {v : Int} (h0 : 0 ≤ v) : mayOpen v = true ↔ v % 4294967296 = 0 ∧ v / 4294967296 < 1073741823 := by
  unfold mayOpen
  rw [and32 v h0]
  simp
section
variable {m m' : M} {n k : Nat} {g : Int}
/-- Cells that hold words. -/
def WordsOf (m : M) (hs vs : List Int) : Prop := vs.length = hs.length ∧ ∀ k, k < hs.length → m.val (hs.getD k 0) = some (number (vs.getD k 0))
theorem getD_mem {l : List Int} {k : Nat} (h : k < l.length) : l.getD k 0 ∈ l := by
  rw [List.getD_eq_getElem?_getD, List.getElem?_eq_getElem h]
  exact List.getElem_mem h
theorem getD_set_ {α : Type} (l : List α) (k j : Nat) (x d : α) (h : k < l.length) : (l.set k x).getD j d = if j = k then x else l.getD j d := by
  rw [List.getD_eq_getElem?_getD, List.getD_eq_getElem?_getD]
  by_cases e : j = k
  · rw [if_pos e, e, List.getElem?_set_self h]
    rfl
  · rw [if_neg e, List.getElem?_set_ne (Ne.symm e)]
theorem nodup_ne {l : List Int} (h : l.Nodup) {j k : Nat} (hj : j < l.length) (hk : k < l.length) (hn : j ≠ k) : l.getD j 0 ≠ l.getD k 0 := by
  rw [List.getD_eq_getElem?_getD, List.getD_eq_getElem?_getD, List.getElem?_eq_getElem hj, List.getElem?_eq_getElem hk]
  intro e
  have hp := List.pairwise_iff_getElem.1 h
  rcases Nat.lt_or_gt_of_ne hn with c | c
  · exact hp j k hj hk c e
  · exact hp k j hk hj c e.symm
theorem WordsOf.turn {hs vs : List Int} (h : WordsOf m hs vs) (hn : hs.Nodup) {k : Nat} (hk : k < hs.length) {z : Int} (ht : Turned m m' (hs.getD k 0) (some (number z))) : WordsOf m' hs (vs.set k z) := by
  refine ⟨by rw [List.length_set]; exact h.1, fun j hj => ?_⟩
  rw [getD_set_ _ _ _ _ _ (by rw [h.1]; exact hk)]
  by_cases e : j = k
  · subst e
    rw [if_pos rfl]
    exact ht.self
  · rw [if_neg e, ht.other _ (nodup_ne hn hj hk e)]
    exact h.2 j hj
theorem WordsOf.keep {hs vs : List Int} (h : WordsOf m hs vs) {x : Int} {u : Option Value} (hx : x ∉ hs) (ht : Turned m m' x u) : WordsOf m' hs vs := ⟨h.1, fun j hj => by
  rw [ht.other _ (fun e => hx (e ▸ getD_mem hj))]
  exact h.2 j hj⟩
theorem WordsOf.cells {hs vs : List Int} (h : WordsOf m hs vs) (e : m'.cells = m.cells) : WordsOf m' hs vs := ⟨h.1, fun j hj => (val_cells e _).trans (h.2 j hj)⟩
theorem WordsOf.held {hs vs : List Int} (h : WordsOf m hs vs) (hv : ∀ k, k < hs.length → 0 ≤ vs.getD k 0 ∧ vs.getD k 0 ≤ 4611686018427387904) : Held m hs vs :=
  ⟨h.1, fun k hk => ⟨(hv k hk).1, (hv k hk).2, fun m' e => ⟨m'.tick, word_val ((val_cells e.1 _).trans (h.2 k hk)), e⟩⟩⟩
theorem Like.shape (h : Shape m n k g) (e : Like m' m) : Shape m' n k g := h.of_cells e.1 e.2
end
/-- Is a place's word that of an open snapshot? -/
def opened (v : Int) : Bool := decide (v % 4294967296 ≠ 0)
/-- The ids that were told, and which of these are open, go with the places' words. -/
structure Ids (n : Nat) (vs ids : List Int) (op : List Bool) (b : Nat) : Prop where
  len : vs.length = n
  wf : ∀ k, k < n → 0 ≤ vs.getD k 0 ∧ vs.getD k 0 / 4294967296 ≤ b ∧ vs.getD k 0 % 4294967296 ≤ b
  lens : op.length = ids.length
  each : ∀ j, j < ids.length → ∃ q k : Nat, ids.getD j 0 = ((q * 64 + k : Nat) : Int) ∧ k < n ∧ q ≤ b ∧ (op.getD j false = true → vs.getD k 0 / 4294967296 = q ∧ vs.getD k 0 % 4294967296 ≠ 0) ∧ (op.getD j false = false → (q : Int) < vs.getD k 0 / 4294967296)
  nodup : ids.Nodup
  count : op.count true = vs.countP opened
theorem countP_set_ {α : Type} (p : α → Bool) (l : List α) (k : Nat) (x d : α) (h : k < l.length) : (l.set k x).countP p + (if p (l.getD k d) = true then 1 else 0) = l.countP p + (if p x = true then 1 else 0) := by
  have hp : (if p l[k] = true then 1 else 0) ≤ l.countP p := by
    split
    · rename_i e
      exact List.countP_pos_iff.2 ⟨_, List.getElem_mem h, e⟩
    · exact Nat.zero_le _
  have e : l.getD k d = l[k] := by rw [List.getD_eq_getElem?_getD, List.getElem?_eq_getElem h]; rfl
  rw [e, List.countP_set h]
  omega
theorem Ids.full {n : Nat} {vs ids : List Int} {op : List Bool} {b : Nat} (h : Ids n vs ids op b) : op.count true = n ↔ ∀ k, k < n → opened (vs.getD k 0) = true := by
  rw [h.count]
  have e := h.len
  constructor
  · intro hc k hk
    have hk' : k < vs.length := by omega
    have := List.countP_eq_length.1 (hc.trans e.symm) (vs.getD k 0) (getD_mem hk')
    exact this
  · intro ha
    rw [← e]
    refine List.countP_eq_length.2 fun v hv => ?_
    obtain ⟨k, hk, rfl⟩ := List.getElem_of_mem hv
    have := ha k (by omega)
    rw [List.getD_eq_getElem?_getD, List.getElem?_eq_getElem hk] at this
    exact this
theorem Ids.may {n : Nat} {vs ids : List Int} {op : List Bool} {b : Nat} (h : Ids n vs ids op b) (hb : b ≤ 200) {k : Nat} (hk : k < n) : mayOpen (vs.getD k 0) = !opened (vs.getD k 0) := by
  obtain ⟨h0, h1, h2⟩ := h.wf k hk
  have e := mayOpen_iff h0
  have e2 : opened (vs.getD k 0) = decide (vs.getD k 0 % 4294967296 ≠ 0) := rfl
  by_cases c : vs.getD k 0 % 4294967296 = 0
  · rw [e.2 ⟨c, by omega⟩, e2, decide_eq_false (fun x => x c)]
    rfl
  · rw [e2, decide_eq_true c]
    exact Bool.eq_false_iff.2 fun x => c (e.1 x).1
/-- An id that is told anew was told to nobody. -/
theorem Ids.fresh {n : Nat} {vs ids : List Int} {op : List Bool} {b : Nat} (h : Ids n vs ids op b) (hn : n ≤ 64) {k : Nat} (hk : k < n) (hz : vs.getD k 0 % 4294967296 = 0) : vs.getD k 0 / 4294967296 * 64 + k ∉ ids := by
  intro hm
  obtain ⟨j, hj, e⟩ := List.getElem_of_mem hm
  obtain ⟨q, k', e1, hk', _, h1, h2⟩ := h.each j hj
  rw [List.getD_eq_getElem?_getD, List.getElem?_eq_getElem hj] at e1
  have e1' : ids[j] = ((q * 64 + k' : Nat) : Int) := e1
  rw [e] at e1'
  have h0 := (h.wf k hk).1
  obtain rfl : k' = k := by omega
  have hq : vs.getD k' 0 / 4294967296 = q := by omega
  cases hc : op.getD j false with
  | true => exact (h1 hc).2 hz
  | false => have := h2 hc; omega
theorem Ids.open_ {n : Nat} {vs ids : List Int} {op : List Bool} {b : Nat} (h : Ids n vs ids op b) (hn : n ≤ 64) (hb : b ≤ 200) {k : Nat} (hk : k < n) (hz : vs.getD k 0 % 4294967296 = 0) : Ids n (vs.set k (vs.getD k 0 + b + 1)) (ids ++ [vs.getD k 0 / 4294967296 * 64 + k]) (op ++ [true]) (b + 1) := by
  have hk' : k < vs.length := by rw [h.len]; exact hk
  obtain ⟨w0, w1, w2⟩ := h.wf k hk
  have hl := h.lens
  have hgs := fun j => getD_set_ vs k j (vs.getD k 0 + b + 1) 0 hk'
  have hfr := h.fresh hn hk hz
  refine ⟨by rw [List.length_set]; exact h.len, fun j hj => ?_, by simp [hl], fun j hj => ?_, ?_, ?_⟩
  · rw [hgs]
    split
    · omega
    · have := h.wf j hj; omega
  · rw [List.length_append, List.length_singleton] at hj
    by_cases c : j < ids.length
    · obtain ⟨q, k', e1, hk2, hq, h1, h2⟩ := h.each j c
      have e2 : (ids ++ [vs.getD k 0 / 4294967296 * 64 + k]).getD j 0 = ids.getD j 0 := by
        simp [List.getD_eq_getElem?_getD, List.getElem?_append_left c]
      have e3 : (op ++ [true]).getD j false = op.getD j false := by
        rw [List.getD_eq_getElem?_getD, List.getD_eq_getElem?_getD, List.getElem?_append_left (by omega)]
      refine ⟨q, k', by rw [e2]; exact e1, hk2, by omega, fun ho => ?_, fun ho => ?_⟩
      · rw [e3] at ho
        have hx := h1 ho
        rw [hgs]
        by_cases c2 : k' = k
        · subst c2; exact absurd hz hx.2
        · rw [if_neg c2]; exact hx
      · rw [e3] at ho
        have hx := h2 ho
        rw [hgs]
        by_cases c2 : k' = k
        · subst c2
          rw [if_pos rfl]
          omega
        · rw [if_neg c2]; exact hx
    · obtain rfl : j = ids.length := by omega
      have e2 : (ids ++ [vs.getD k 0 / 4294967296 * 64 + k]).getD ids.length 0 = vs.getD k 0 / 4294967296 * 64 + k := by
        rw [List.getD_eq_getElem?_getD, List.getElem?_append_right (Nat.le_refl _)]
        simp
      have e3 : (op ++ [true]).getD ids.length false = true := by
        rw [List.getD_eq_getElem?_getD, List.getElem?_append_right (by omega), hl]
        simp
      refine ⟨(vs.getD k 0 / 4294967296).toNat, k, by rw [e2]; omega, hk, by omega, fun _ => ?_, fun ho => ?_⟩
      · rw [hgs, if_pos rfl]
        omega
      · rw [e3] at ho
        cases ho
  · rw [List.nodup_append]
    refine ⟨h.nodup, by simp, fun a ha c hc => ?_⟩
    rw [List.mem_singleton] at hc
    rw [hc]
    exact fun e => hfr (e ▸ ha)
  · have hp := countP_set_ opened vs k (vs.getD k 0 + b + 1) 0 hk'
    have e1 : opened (vs.getD k 0) = false := decide_eq_false (fun x => x hz)
    have e2 : opened (vs.getD k 0 + b + 1) = true := decide_eq_true (by omega)
    rw [e1, e2] at hp
    have hp' : (vs.set k (vs.getD k 0 + b + 1)).countP opened = vs.countP opened + 1 := hp
    have ho : (op ++ [true]).count true = op.count true + 1 := by simp [List.count_append]
    rw [ho, h.count, hp']
/-- What an id's place tells. -/
theorem Ids.tells {n : Nat} {vs ids : List Int} {op : List Bool} {b : Nat} (h : Ids n vs ids op b) {j : Nat} (hj : j < ids.length) : ∃ q k : Nat, ids.getD j 0 = ((q * 64 + k : Nat) : Int) ∧ k < n ∧ q ≤ b ∧ isOpen (vs.getD k 0) q = op.getD j false := by
  obtain ⟨q, k, e, hk, hq, h1, h2⟩ := h.each j hj
  refine ⟨q, k, e, hk, hq, ?_⟩
  have hi := isOpen_iff (q := (q : Int)) (h.wf k hk).1
  cases hc : op.getD j false with
  | true => exact hi.2 ⟨(h1 hc).2, (h1 hc).1⟩
  | false => exact Bool.eq_false_iff.2 fun x => by have a := (hi.1 x).2; have c := h2 hc; omega
theorem Ids.close_ {n : Nat} {vs ids : List Int} {op : List Bool} {b : Nat} (h : Ids n vs ids op b) (hn : n ≤ 64) (hb : b ≤ 200) {j q k : Nat} (hj : j < ids.length) (e : ids.getD j 0 = ((q * 64 + k : Nat) : Int)) (hk : k < n) (ho : op.getD j false = true) : Ids n (vs.set k ((vs.getD k 0 / 4294967296 + 1) * 4294967296)) ids (op.set j false) (b + 1) := by
  have hk' : k < vs.length := by rw [h.len]; exact hk
  obtain ⟨w0, w1, w2⟩ := h.wf k hk
  have hl := h.lens
  have hj' : j < op.length := by omega
  have hgs := fun i => getD_set_ vs k i ((vs.getD k 0 / 4294967296 + 1) * 4294967296) 0 hk'
  have hos := fun i => getD_set_ op j i false false hj'
  obtain ⟨q1, k1, e1, hk1, _, h1, _⟩ := h.each j hj
  rw [e] at e1
  have e1' : q * 64 + k = q1 * 64 + k1 := by omega
  obtain rfl : k1 = k := by omega
  obtain rfl : q1 = q := by omega
  have hv := h1 ho
  refine ⟨by rw [List.length_set]; exact h.len, fun i hi => ?_, by rw [List.length_set]; exact hl, fun i hi => ?_, h.nodup, ?_⟩
  · rw [hgs]
    split
    · omega
    · have := h.wf i hi; omega
  · obtain ⟨q2, k2, e2, hk2, hq2, g1, g2⟩ := h.each i hi
    refine ⟨q2, k2, e2, hk2, by omega, fun ho2 => ?_, fun ho2 => ?_⟩
    · rw [hos] at ho2
      by_cases c : i = j
      · rw [if_pos c] at ho2; cases ho2
      · rw [if_neg c] at ho2
        have hx := g1 ho2
        rw [hgs]
        by_cases c2 : k2 = k1
        · subst c2
          exact absurd (by rw [e2, e]; have : (q2 : Int) = q1 := by rw [← hx.1, hv.1]
                           omega) (nodup_ne h.nodup hi hj c)
        · rw [if_neg c2]; exact hx
    · rw [hos] at ho2
      rw [hgs]
      by_cases c2 : k2 = k1
      · subst c2
        rw [if_pos rfl]
        by_cases c : i = j
        · subst c
          have : (q2 : Int) = q1 := by omega
          omega
        · rw [if_neg c] at ho2
          have := g2 ho2
          omega
      · rw [if_neg c2]
        by_cases c : i = j
        · subst c
          exact absurd (by omega) c2
        · rw [if_neg c] at ho2
          exact g2 ho2
  · have hp := countP_set_ opened vs k1 ((vs.getD k1 0 / 4294967296 + 1) * 4294967296) 0 hk'
    have a1 : opened (vs.getD k1 0) = true := decide_eq_true hv.2
    have a2 : opened ((vs.getD k1 0 / 4294967296 + 1) * 4294967296) = false := decide_eq_false (by omega)
    rw [a1, a2] at hp
    have hp' : (vs.set k1 ((vs.getD k1 0 / 4294967296 + 1) * 4294967296)).countP opened + 1 = vs.countP opened := hp
    have hq := countP_set_ (fun x : Bool => x == true) op j false false hj'
    rw [ho] at hq
    have hq' : (op.set j false).count true + 1 = op.count true := hq
    have hc := h.count
    omega
theorem Ids.more {n : Nat} {vs ids : List Int} {op : List Bool} {b : Nat} (h : Ids n vs ids op b) : Ids n vs ids op (b + 1) :=
  ⟨h.len, fun k hk => by have := h.wf k hk; omega, h.lens, fun j hj => by
    obtain ⟨q, k, e, hk, hq, h1⟩ := h.each j hj
    exact ⟨q, k, e, hk, by omega, h1⟩, h.nodup, h.count⟩
theorem Ids.start (n : Nat) : Ids n (List.replicate n 0) [] [] 0 := by
  refine ⟨by simp, fun k hk => ?_, rfl, fun j hj => by simp at hj, by simp, ?_⟩
  · have : (List.replicate n (0 : Int)).getD k 0 = 0 := by
      rw [List.getD_eq_getElem?_getD, List.getElem?_replicate]
      split <;> rfl
    rw [this]
    decide
  · refine (List.countP_eq_zero.2 fun v hv => ?_).symm
    obtain rfl := List.eq_of_mem_replicate hv
    decide
end Go.Proofs.Ytahnmklofgnagaa.Mem
