/- KeyMeets: what two spans have in common is the document's; a text lies in it just if it lies in both; for all spans and texts. -/
import Derived.Test.YtchlkbaopgpldaaPKeyMeetsx6
import Derived.Lib.Strings
namespace Go.Proofs.Ytchlkbaopgpldaa.Pure
open Go.RowKit Go.Proofs.Ytchlkbaopgpldaa.PKeyMeets Go.Proofs.YtchlkbaopgpldaaW.PrintWords Go.Proofs.YtchlkbaopgpldaaW.PrintLast
set_option linter.unusedVariables false
set_option linter.unusedSimpArgs false

/-! the order of texts: a rank for finitely many of them -/
theorem bl_nil_left (b : List UInt8) : Op.bytesLess [] b = !b.isEmpty := by cases b <;> rfl
theorem bl_cons (a b : UInt8) (x y : List UInt8) : Op.bytesLess (a :: x) (b :: y) = (decide (a < b) || (a == b && Op.bytesLess x y)) := by
  simp [Op.bytesLess]
theorem bl_irrefl : ∀ x : List UInt8, Op.bytesLess x x = false
  | [] => rfl
  | a :: x => by
    rw [bl_cons, bl_irrefl x]
    simp
theorem bl_asymm : ∀ x y : List UInt8, Op.bytesLess x y = true → Op.bytesLess y x = false
  | [], [] => fun _ => rfl
  | _ :: _, [] => fun h => by simp [Op.bytesLess] at h
  | [], _ :: _ => fun _ => rfl
  | a :: x, b :: y => by
    rw [bl_cons, bl_cons]
    intro h
    rw [Bool.or_eq_true, Bool.and_eq_true, decide_eq_true_eq, beq_iff_eq] at h
    rw [Bool.or_eq_false_iff, Bool.and_eq_false_iff, decide_eq_false_iff_not, beq_eq_false_iff_ne]
    rcases h with h | ⟨h, k⟩
    · exact ⟨fun e => UInt8.lt_asymm h e, Or.inl (fun e => by subst e; exact UInt8.lt_irrefl _ h)⟩
    · subst h
      exact ⟨UInt8.lt_irrefl _, Or.inr (bl_asymm x y k)⟩
theorem bl_total : ∀ x y : List UInt8, Op.bytesLess x y = false → Op.bytesLess y x = false → x = y
  | [], [] => fun _ _ => rfl
  | _ :: _, [] => fun _ h => by simp [Op.bytesLess] at h
  | [], _ :: _ => fun h _ => by simp [Op.bytesLess] at h
  | a :: x, b :: y => by
    rw [bl_cons, bl_cons]
    intro h k
    rw [Bool.or_eq_false_iff, Bool.and_eq_false_iff, decide_eq_false_iff_not, beq_eq_false_iff_ne] at h k
    have e : a = b := by
      have h1 := h.1
      have k1 := k.1
      rw [UInt8.lt_iff_toNat_lt] at h1 k1
      exact UInt8.toNat_inj.1 (by omega)
    subst e
    rw [bl_total x y (h.2.resolve_left (fun n => n rfl)) (k.2.resolve_left (fun n => n rfl))]
theorem bl_trans : ∀ x y z : List UInt8, Op.bytesLess x y = true → Op.bytesLess y z = true → Op.bytesLess x z = true
  | x, [], z => fun h _ => by cases x <;> simp [Op.bytesLess] at h
  | x, _ :: _, [] => fun _ h => by simp [Op.bytesLess] at h
  | [], _ :: _, _ :: _ => fun _ _ => rfl
  | a :: x, b :: y, c :: z => by
    rw [bl_cons, bl_cons, bl_cons]
    intro h k
    rw [Bool.or_eq_true, Bool.and_eq_true, decide_eq_true_eq, beq_iff_eq] at h k ⊢
    rcases h with h | ⟨h, h2⟩
    · rcases k with k | ⟨k, k2⟩
      · exact Or.inl (UInt8.lt_trans h k)
      · subst k; exact Or.inl h
    · subst h
      rcases k with k | ⟨k, k2⟩
      · exact Or.inl k
      · exact Or.inr ⟨k, bl_trans x y z h2 k2⟩
/-- how many of l are less than s -/
def rk (l : List (List UInt8)) (s : List UInt8) : Int := ((l.filter fun t => Op.bytesLess t s).length : Nat)
theorem filter_le (p q : List UInt8 → Bool) (h : ∀ t, p t = true → q t = true) : ∀ l : List (List UInt8), (l.filter p).length ≤ (l.filter q).length
  | [] => Nat.le_refl _
  | t :: l => by
    have ih := filter_le p q h l
    rw [List.filter_cons, List.filter_cons]
    by_cases hp : p t = true
    · rw [if_pos hp, if_pos (h t hp)]; simp; exact ih
    · rw [if_neg hp]
      by_cases hq : q t = true
      · rw [if_pos hq]; simp; omega
      · rw [if_neg hq]; exact ih
theorem filter_lt (p q : List UInt8 → Bool) (h : ∀ t, p t = true → q t = true) (a : List UInt8) (hp : p a = false) (hq : q a = true) : ∀ l : List (List UInt8), a ∈ l → (l.filter p).length < (l.filter q).length
  | [], ha => by cases ha
  | t :: l, ha => by
    rw [List.filter_cons, List.filter_cons]
    by_cases e : t = a
    · subst e
      have ih := filter_le p q h l
      rw [if_neg (by simp [hp]), if_pos hq]; simp; omega
    · have ih := filter_lt p q h a hp hq l ((List.mem_cons.1 ha).resolve_left (fun x => e x.symm))
      by_cases hp : p t = true
      · rw [if_pos hp, if_pos (h t hp)]; simp; exact ih
      · rw [if_neg hp]
        by_cases hq : q t = true
        · rw [if_pos hq]; simp; omega
        · rw [if_neg hq]; exact ih
theorem rk_lt {l : List (List UInt8)} {a b : List UInt8} (ha : a ∈ l) (h : Op.bytesLess a b = true) : rk l a < rk l b := by
  unfold rk
  have := filter_lt (fun t => Op.bytesLess t a) (fun t => Op.bytesLess t b) (fun t ht => bl_trans t a b ht h) a (bl_irrefl a) h l ha
  omega
theorem rk_less {l : List (List UInt8)} {a b : List UInt8} (ha : a ∈ l) (hb : b ∈ l) : Op.bytesLess a b = decide (rk l a < rk l b) := by
  cases h : Op.bytesLess a b with
  | true => exact (decide_eq_true (rk_lt ha h)).symm
  | false =>
    symm
    rw [decide_eq_false_iff_not]
    intro c
    cases k : Op.bytesLess b a with
    | true => have := rk_lt hb k; omega
    | false => rw [bl_total a b h k] at c; omega
theorem rk_eq {l : List (List UInt8)} {a b : List UInt8} (ha : a ∈ l) (hb : b ∈ l) : a = b ↔ rk l a = rk l b := by
  refine ⟨fun e => by rw [e], fun e => bl_total a b ?_ ?_⟩
  · rw [rk_less ha hb, decide_eq_false_iff_not]; omega
  · rw [rk_less hb ha, decide_eq_false_iff_not]; omega

open Go.Proofs.YtchlkbaopgpldaaW.PrintMore
abbrev bl (a b : ByteArray) : Bool := Op.bytesLess a.toList b.toList
theorem toList_app (a b : ByteArray) : (a ++ b).toList = a.toList ++ b.toList := by
  rw [Lib.toList_data, Lib.toList_data, Lib.toList_data, ByteArray.data_append, Array.toList_append]
theorem nil_list : (⟨#[]⟩ : ByteArray).toList = [] := by rw [Lib.toList_data]
theorem bl_nil (a : ByteArray) : bl a (⟨#[]⟩ : ByteArray) = false := by
  unfold bl
  rw [nil_list]
  cases a.toList <;> rfl
theorem after_eq (k : ByteArray) (h : k.size + 1 ≤ 9223372036854775807) : key_After.f k = some (k ++ (⟨#[0]⟩ : ByteArray)) := by
  unfold key_After.f
  rw [if_pos h]
def upB (a1 : ByteArray) (a2 : Bool) (b1 : ByteArray) (b2 : Bool) : Bool := a2 || (!b2 && bl b1 a1)
theorem upper_eq (a0 a1 : ByteArray) (a2 : Bool) (b0 b1 : ByteArray) (b2 : Bool) : key_upper.f a0 a1 a2 b0 b1 b2 = some (if upB a1 a2 b1 b2 = true then (b0, b1, b2) else (a0, a1, a2)) := by
  unfold key_upper.f upB bl
  cases a2 <;> cases b2 <;> cases h : Op.bytesLess b1.toList a1.toList <;> simp
def meetF (a0 a1 : ByteArray) (a2 : Bool) (b0 b1 : ByteArray) (b2 : Bool) : ByteArray × ByteArray × Bool :=
  (mxs a0 b0, if (a2 && b2) = true then (⟨#[]⟩ : ByteArray) else if a2 = true then b1 else if b2 = true then a1 else if bl b1 a1 = true then b1 else a1, a2 && b2)
theorem meet_eq (a0 a1 : ByteArray) (a2 : Bool) (b0 b1 : ByteArray) (b2 : Bool) : key_Meet.f a0 a1 a2 b0 b1 b2 = some (meetF a0 a1 a2 b0 b1 b2) := by
  unfold key_Meet.f meetF
  rw [upper_eq]
  unfold upB bl
  cases a2 <;> cases b2 <;> cases h : Op.bytesLess b1.toList a1.toList <;> simp
theorem awake_t : rundlelaw04_awake.f = some true := by
  unfold rundlelaw04_awake.f
  rw [after_eq _ (by decide)]
  have e1 : ((⟨#[97]⟩ : ByteArray) ++ (⟨#[0]⟩ : ByteArray)).toList = [97, 0] := by
    rw [toList_app, Lib.toList_data, Lib.toList_data]
    rfl
  simp only [Option.bind_some, meet_eq, e1, if_true]
  simp [meetF, mxs, Lib.toList_data, Op.bytesLess]

def hasB (lo hi : ByteArray) (al : Bool) (k : ByteArray) : Bool := !(bl k lo) && (al || bl k hi)
theorem has_eq (lo hi : ByteArray) (al : Bool) (k : ByteArray) : key_Has.f lo hi al k = some (hasB lo hi al k) := by
  unfold key_Has.f hasB
  by_cases c : bl k lo = true
  · rw [if_pos c]; simp [c]
  · rw [if_neg c]
    have c' : bl k lo = false := by simpa using c
    cases al <;> simp [c']

theorem short_loop (l : List S23) (hl : (l.length : Int) ≤ 9223372036854775807) : ∀ d i, i + d = l.length → ∃ r : Int, Ev (fun n => rundlelaw04_Short.l0 n l (i : Int)) r := by
  intro d
  induction d with
  | zero =>
    intro i hi
    refine ⟨1, Ev.step (f := fun _ => some 1) (fun n => ?_) (Ev.now _)⟩
    simp only [rundlelaw04_Short.l0]
    rw [if_neg (by omega)]
  | succ d ih =>
    intro i hi
    obtain ⟨r, hr⟩ := ih (i + 1) (by omega)
    have e1 : wrap64 ((i : Int) + 1) = ((i + 1 : Nat) : Int) := by unfold wrap64; omega
    by_cases c1 : (((rd_T23 l i).f0).size : Int) > 1100
    · refine ⟨0, Ev.step (f := fun _ => some 0) (fun n => ?_) (Ev.now _)⟩
      simp only [rundlelaw04_Short.l0]
      rw [if_pos (by omega), if_pos (by omega), if_pos c1]
    · by_cases c2 : (((rd_T23 l i).f1).size : Int) > 1100
      · refine ⟨0, Ev.step (f := fun _ => some 0) (fun n => ?_) (Ev.now _)⟩
        simp only [rundlelaw04_Short.l0]
        rw [if_pos (by omega), if_pos (by omega), if_neg c1, if_pos c2]
      · refine ⟨r, Ev.step (fun n => ?_) hr⟩
        simp only [rundlelaw04_Short.l0]
        rw [if_pos (by omega), if_pos (by omega), if_neg c1, if_neg c2, e1]
theorem ev_short (l : List S23) (hl : (l.length : Int) ≤ 9223372036854775807) : ∃ r : Int, Ev (fun n => rundlelaw04_Short.f n l) r := short_loop l hl l.length 0 (by omega)

theorem bt_list (s : ByteArray) (i : Nat) (h : i < s.size) : ∃ c cs, s.toList.drop i = c :: cs ∧ s.toList.drop (i + 1) = cs ∧ bt s (i : Int) = (c.toNat : Int) := by
  have h2 : i < s.data.toList.length := by simpa using h
  refine ⟨s.data.toList[i], s.data.toList.drop (i + 1), ?_, ?_, ?_⟩
  · rw [Lib.toList_data, List.drop_eq_getElem_cons h2]
  · rw [Lib.toList_data]
  · unfold bt
    rw [dif_pos (by simpa using h)]
    simp [ByteArray.getElem_eq_getElem_data]
theorem drop_end (s : ByteArray) (i : Nat) (h : s.size ≤ i) : s.toList.drop i = [] := by
  rw [Lib.toList_data]
  exact List.drop_of_length_le (by simpa using h)
theorem less_loop (a b : ByteArray) (ha : a.size ≤ 9223372036854775807) : ∀ d i, i + d = a.size → i ≤ b.size → Ev (fun n => rundleref04_Less.l0 n a b (i : Int)) (Op.bytesLess (a.toList.drop i) (b.toList.drop i)) := by
  intro d
  induction d with
  | zero =>
    intro i hi hb
    have e : Op.bytesLess (a.toList.drop i) (b.toList.drop i) = decide ((a.size : Int) < (b.size : Int)) := by
      rw [drop_end a i (by omega)]
      by_cases c : i < b.size
      · obtain ⟨y, ys, e1, _, _⟩ := bt_list b i c
        rw [e1, decide_eq_true (by omega)]
        rfl
      · rw [drop_end b i (by omega), decide_eq_false (by omega)]
        rfl
    rw [e]
    refine Ev.step (fun n => (by simp only [rundleref04_Less.l0]; rw [if_neg (by omega)])) ?_
    refine Ev.step (f := fun _ => some _) (fun n => ?_) (Ev.now _)
    simp only [rundleref04_Less.j1, Bool.false_eq_true, if_false]
  | succ d ih =>
    intro i hi hb
    refine Ev.step (fun n => (by simp only [rundleref04_Less.l0]; rw [if_pos (by omega)])) ?_
    obtain ⟨x, xs, e1, e2, e3⟩ := bt_list a i (by omega)
    by_cases c : i < b.size
    · obtain ⟨y, ys, f1, f2, f3⟩ := bt_list b i c
      have ew : wrap64 ((i : Int) + 1) = ((i + 1 : Nat) : Int) := by unfold wrap64; omega
      rw [decide_eq_true (show (i : Int) < (b.size : Int) by omega), e1, f1, bl_cons]
      by_cases q : x = y
      · subst q
        have eq1 : (decide (x < x) || (x == x && Op.bytesLess xs ys)) = Op.bytesLess xs ys := by
          rw [decide_eq_false (UInt8.lt_irrefl _)]
          simp
        rw [eq1]
        have := ih (i + 1) (by omega) (by omega)
        rw [e2, f2] at this
        refine Ev.step (fun n => ?_) this
        simp only [rundleref04_Less.j1, if_true]
        rw [if_pos (by omega), if_pos (by omega), if_pos (by omega), e3, f3, if_pos rfl, ew]
      · have eq1 : (decide (x < y) || (x == y && Op.bytesLess xs ys)) = decide ((x.toNat : Int) < (y.toNat : Int)) := by
          have h1 : (x == y) = false := by simpa using q
          rw [h1]
          simp [UInt8.lt_iff_toNat_lt]
        have hq : ¬ (x.toNat : Int) = (y.toNat : Int) := fun e => q (UInt8.toNat_inj.1 (by omega))
        rw [eq1]
        refine Ev.step (f := fun _ => some _) (fun n => ?_) (Ev.now _)
        simp only [rundleref04_Less.j1, if_true]
        rw [if_pos (by omega), if_pos (by omega), if_pos (by omega), e3, f3, if_neg hq]
    · rw [decide_eq_false (show ¬ (i : Int) < (b.size : Int) by omega), drop_end b i (by omega), e1]
      refine Ev.step (f := fun _ => some _) (fun n => ?_) (Ev.now _)
      simp only [rundleref04_Less.j1, Bool.false_eq_true, if_false]
      rw [decide_eq_false (by omega)]
      rfl
theorem ev_less (a b : ByteArray) (ha : a.size ≤ 9223372036854775807) : Ev (fun n => rundleref04_Less.f n a b) (bl a b) := by
  have := less_loop a b ha a.size 0 (by omega) (by omega)
  exact this

theorem if_bl (a b x y : ByteArray) : (if bl a b = true then x else y) = if bl a b = true then x else y := rfl
theorem ev_meet (a0 a1 : ByteArray) (a2 : Bool) (b0 b1 : ByteArray) (b2 : Bool) (h0 : a0.size ≤ 9223372036854775807) (h1 : b1.size ≤ 9223372036854775807) : Ev (fun n => rundleref04_Meet.f n a0 a1 a2 b0 b1 b2) (meetF a0 a1 a2 b0 b1 b2) := by
  have tail : ∀ (lo : ByteArray), Ev (fun n => rundleref04_Meet.j0 n a0 a1 true b0 b1 b2 lo (⟨#[]⟩ : ByteArray) b2) (lo, if b2 = true then (⟨#[]⟩ : ByteArray) else b1, b2) := by
    intro lo
    cases b2
    · refine Ev.step (fun n => (by simp only [rundleref04_Meet.j0, if_true, Bool.not_false]; rfl)) ?_
      refine Ev.step (fun n => (by simp only [rundleref04_Meet.j1, if_true]; rfl)) ?_
      refine Ev.step (fun n => (by simp only [rundleref04_Meet.j2, Bool.false_eq_true, if_false]; rfl)) ?_
      refine Ev.step (fun n => (by simp only [rundleref04_Meet.j3, Bool.false_eq_true, if_false]; rfl)) ?_
      refine Ev.step (fun n => (by simp only [rundleref04_Meet.j4, if_true]; rfl)) ?_
      refine Ev.step (fun n => (by simp only [rundleref04_Meet.j5, Bool.false_eq_true, if_false]; rfl)) ?_
      exact Ev.now _
    · refine Ev.step (fun n => (by simp only [rundleref04_Meet.j0, if_true, Bool.not_true]; rfl)) ?_
      refine Ev.step (fun n => (by simp only [rundleref04_Meet.j1, Bool.false_eq_true, if_false]; rfl)) ?_
      refine Ev.step (fun n => (by simp only [rundleref04_Meet.j2, if_true, Bool.not_true]; rfl)) ?_
      refine Ev.step (fun n => (by simp only [rundleref04_Meet.j3, Bool.false_eq_true, if_false]; rfl)) ?_
      refine Ev.step (fun n => (by simp only [rundleref04_Meet.j4, if_true]; rfl)) ?_
      refine Ev.step (fun n => (by simp only [rundleref04_Meet.j5, Bool.false_eq_true, if_false]; rfl)) ?_
      exact Ev.now _
  have tail2 : ∀ (lo : ByteArray), Ev (fun n => rundleref04_Meet.j6 n a0 a1 false b0 b1 b2 lo (⟨#[]⟩ : ByteArray) false) (lo, if b2 = true then a1 else if bl b1 a1 = true then b1 else a1, false) := by
    intro lo
    cases b2
    · refine Ev.step (fun n => (by simp only [rundleref04_Meet.j6, Bool.false_eq_true, if_false]; rfl)) ?_
      refine Ev.step (fun n => (by simp only [rundleref04_Meet.j7, Bool.false_eq_true, if_false]; rfl)) ?_
      refine Ev.step (fun n => (by simp only [rundleref04_Meet.j8, Bool.false_eq_true, if_false]; rfl)) ?_
      refine Ev.step (fun n => (by simp only [rundleref04_Meet.j9, Bool.false_eq_true, if_false]; rfl)) ?_
      refine Ev.step (fun n => (by simp only [rundleref04_Meet.j10, Bool.false_eq_true, if_false, Bool.not_false]; rfl)) ?_
      refine Ev.step (fun n => (by simp only [rundleref04_Meet.j11, if_true]; rfl)) ?_
      refine Ev.bind (ev_less b1 a1 h1) ?_
      cases bl b1 a1
      · simp only [Bool.false_eq_true, if_false]
        exact Ev.now _
      · simp only [Bool.false_eq_true, if_true, if_false]
        exact Ev.now _
    · refine Ev.step (fun n => (by simp only [rundleref04_Meet.j6, Bool.false_eq_true, if_false]; rfl)) ?_
      refine Ev.step (fun n => (by simp only [rundleref04_Meet.j7, Bool.false_eq_true, if_false]; rfl)) ?_
      refine Ev.step (fun n => (by simp only [rundleref04_Meet.j8, if_true, Bool.not_false]; rfl)) ?_
      refine Ev.step (fun n => (by simp only [rundleref04_Meet.j9, if_true]; rfl)) ?_
      refine Ev.step (fun n => (by simp only [rundleref04_Meet.j10, Bool.false_eq_true, if_false, Bool.not_true]; rfl)) ?_
      refine Ev.step (fun n => (by simp only [rundleref04_Meet.j11, Bool.false_eq_true, if_false]; rfl)) ?_
      exact Ev.now _
  have em : mxs a0 b0 = if bl a0 b0 = true then b0 else a0 := rfl
  unfold rundleref04_Meet.f meetF
  rw [em]
  cases a2
  · simp only [Bool.false_eq_true, if_false, Bool.false_and]
    refine Ev.bind (ev_less a0 b0 h0) ?_
    cases bl a0 b0
    · simp only [Bool.false_eq_true, if_false]
      exact tail2 a0
    · simp only [if_true]
      exact tail2 b0
  · simp only [if_true, Bool.true_and]
    refine Ev.bind (ev_less a0 b0 h0) ?_
    cases bl a0 b0
    · simp only [Bool.false_eq_true, if_false]
      exact tail a0
    · simp only [if_true]
      exact tail b0
theorem meet_turn (a0 a1 : ByteArray) (a2 : Bool) (b0 b1 : ByteArray) (b2 : Bool) :
    ((meetF a0 a1 a2 b0 b1 b2).1.toList == (meetF b0 b1 b2 a0 a1 a2).1.toList && ((meetF a0 a1 a2 b0 b1 b2).2.1.toList == (meetF b0 b1 b2 a0 a1 a2).2.1.toList && ((meetF a0 a1 a2 b0 b1 b2).2.2 == (meetF b0 b1 b2 a0 a1 a2).2.2))) = true := by
  have key : ∀ x y : ByteArray, (if bl x y = true then y else x).toList = (if bl y x = true then x else y).toList := by
    intro x y
    cases c : bl x y
    · cases d : bl y x
      · simp only [Bool.false_eq_true, if_false]
        exact bl_total _ _ c d
      · simp only [Bool.false_eq_true, if_false, if_true]
    · have d : bl y x = false := bl_asymm _ _ c
      simp only [d, Bool.false_eq_true, if_false, if_true]
  have e1 : (mxs a0 b0).toList = (mxs b0 a0).toList := key a0 b0
  unfold meetF
  simp only [e1, beq_self_eq_true, Bool.true_and]
  cases a2 <;> cases b2 <;> simp
  cases c : bl b1 a1
  · cases d : bl a1 b1
    · simp only [Bool.false_eq_true, if_false]
      exact bl_total _ _ d c
    · simp only [Bool.false_eq_true, if_false, if_true]
  · have d : bl a1 b1 = false := bl_asymm _ _ c
    simp only [d, Bool.false_eq_true, if_false, if_true]
theorem meet_has (a0 a1 : ByteArray) (a2 : Bool) (b0 b1 : ByteArray) (b2 : Bool) (k : ByteArray) :
    hasB (meetF a0 a1 a2 b0 b1 b2).1 (meetF a0 a1 a2 b0 b1 b2).2.1 (meetF a0 a1 a2 b0 b1 b2).2.2 k = (hasB a0 a1 a2 k && hasB b0 b1 b2 k) := by
  have lo : Op.bytesLess k.toList (mxs a0 b0).toList = (Op.bytesLess k.toList a0.toList || Op.bytesLess k.toList b0.toList) := by
    have h1 := rk_less (l := [a0.toList, b0.toList, k.toList]) (a := a0.toList) (b := b0.toList) (by simp) (by simp)
    have h2 := rk_less (l := [a0.toList, b0.toList, k.toList]) (a := k.toList) (b := a0.toList) (by simp) (by simp)
    have h3 := rk_less (l := [a0.toList, b0.toList, k.toList]) (a := k.toList) (b := b0.toList) (by simp) (by simp)
    generalize rk [a0.toList, b0.toList, k.toList] a0.toList = x at *
    generalize rk [a0.toList, b0.toList, k.toList] b0.toList = y at *
    generalize rk [a0.toList, b0.toList, k.toList] k.toList = z at *
    unfold mxs
    by_cases c : x < y
    · rw [decide_eq_true c] at h1
      simp only [h1, if_true, h2, h3]
      rw [Bool.eq_iff_iff]
      simp
      omega
    · rw [decide_eq_false c] at h1
      simp only [h1, Bool.false_eq_true, if_false, h2, h3]
      rw [Bool.eq_iff_iff]
      simp
      omega
  have hi : Op.bytesLess k.toList (if bl b1 a1 = true then b1 else a1).toList = (Op.bytesLess k.toList a1.toList && Op.bytesLess k.toList b1.toList) := by
    have h1 := rk_less (l := [a1.toList, b1.toList, k.toList]) (a := b1.toList) (b := a1.toList) (by simp) (by simp)
    have h2 := rk_less (l := [a1.toList, b1.toList, k.toList]) (a := k.toList) (b := a1.toList) (by simp) (by simp)
    have h3 := rk_less (l := [a1.toList, b1.toList, k.toList]) (a := k.toList) (b := b1.toList) (by simp) (by simp)
    generalize rk [a1.toList, b1.toList, k.toList] a1.toList = x at *
    generalize rk [a1.toList, b1.toList, k.toList] b1.toList = y at *
    generalize rk [a1.toList, b1.toList, k.toList] k.toList = z at *
    unfold bl
    by_cases c : y < x
    · rw [decide_eq_true c] at h1
      simp only [h1, if_true, h2, h3]
      rw [Bool.eq_iff_iff]
      simp
      omega
    · rw [decide_eq_false c] at h1
      simp only [h1, Bool.false_eq_true, if_false, h2, h3]
      rw [Bool.eq_iff_iff]
      simp
      omega
  unfold meetF hasB
  simp only [bl] at hi ⊢
  rw [lo]
  cases a2 <;> cases b2 <;> simp only [Bool.false_and, Bool.true_and, Bool.and_false, Bool.and_self, Bool.false_eq_true, if_false, if_true, Bool.false_or, Bool.true_or, Bool.and_true, hi]
  all_goals
    generalize Op.bytesLess k.toList a0.toList = p
    generalize Op.bytesLess k.toList b0.toList = q
    generalize Op.bytesLess k.toList a1.toList = s
    generalize Op.bytesLess k.toList b1.toList = t
    cases p <;> cases q <;> cases s <;> cases t <;> rfl
theorem yes (k a0 a1 : ByteArray) (a2 : Bool) (b0 b1 : ByteArray) (b2 : Bool) : Ev (fun n => rundlelaw04_KeyMeets.j0 n k true a0 a1 a2 b0 b1 b2) true := by
  refine Ev.step (f := fun _ => some true) (fun n => ?_) (Ev.now _)
  simp only [rundlelaw04_KeyMeets.j0, if_true, awake_t, Option.bind_some]
theorem KeyMeets (a0 a1 : ByteArray) (a2 : Bool) (b0 b1 : ByteArray) (b2 : Bool) (k : ByteArray) (h0 : a0.size ≤ 9223372036854775807) (h1 : b1.size ≤ 9223372036854775807) : ∃ n, rundlelaw04_KeyMeets.f n a0 a1 a2 b0 b1 b2 k = some true := by
  apply Ev.rounds
  unfold rundlelaw04_KeyMeets.f
  simp only [awake_t, Option.bind_some, if_true]
  obtain ⟨r, hr⟩ := ev_short [(⟨a0, a1, a2⟩ : S23), (⟨b0, b1, b2⟩ : S23)] (by simp)
  refine Ev.bind hr ?_
  by_cases c0 : r = 0
  · simp only [if_pos c0]
    exact yes k a0 a1 a2 b0 b1 b2
  · simp only [if_neg c0]
    by_cases c1 : (k.size : Int) > 1100
    · simp only [decide_eq_true c1]
      exact yes k a0 a1 a2 b0 b1 b2
    · simp only [decide_eq_false c1]
      refine Ev.step (fun n => (by simp only [rundlelaw04_KeyMeets.j0, Bool.false_eq_true, if_false, rundlelaw04_Of.f, rundlelaw04_Plain.f, meet_eq, has_eq, Option.bind_some]; rfl)) ?_
      refine Ev.bind (ev_meet a0 a1 a2 b0 b1 b2 h0 h1) ?_
      simp only [beq_self_eq_true, Bool.and_self, if_true, meet_turn, meet_has]
      cases hasB a0 a1 a2 k <;> cases hasB b0 b1 b2 k <;> exact Ev.now _

end Go.Proofs.Ytchlkbaopgpldaa.Pure
