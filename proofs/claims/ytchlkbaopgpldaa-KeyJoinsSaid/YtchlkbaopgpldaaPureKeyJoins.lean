/- KeyJoins: of spans that join, a text lies in one of both, and never in both, just if it lies in the span from the first one's beginning to the second one's end, where both are good; for all spans and texts. -/
import Derived.Test.YtchlkbaopgpldaaPKeyJoinsx6
import Derived.Test.YtchlkbaopgpldaaPKeyJoinsx4
import Derived.Test.YtchlkbaopgpldaaPKeyJoinsx5
import Derived.Lib.Strings
namespace Go.Proofs.Ytchlkbaopgpldaa.Pure
open Go.RowKit Go.Proofs.Ytchlkbaopgpldaa.PKeyJoins Go.Proofs.YtchlkbaopgpldaaW.PrintWords Go.Proofs.YtchlkbaopgpldaaW.PrintLast
set_option linter.unusedVariables false
set_option linter.unusedSimpArgs false

/-! the order of texts: a rank for finitely many of them -/
theorem bl_nil_left (b : List UInt8) : Op.bytesLess [] b = !b.isEmpty := by cases b <;> rfl
theorem bl_cons (a b : UInt8) (x y : List UInt8) : Op.bytesLess (a :: x) (b :: y) = (decide (a < b) || (a == b && Op.bytesLess x y)) := by
  simp [Op.bytesLess]
theorem bl_irrefl : ∀ x : List UInt8, Op.bytesLess x x = false
  | [] => rfl
  | a :: x => by
    rw [bl_cons, bl_irrefl x]
    simp
theorem bl_asymm : ∀ x y : List UInt8, Op.bytesLess x y = true → Op.bytesLess y x = false
  | [], [] => fun _ => rfl
  | _ :: _, [] => fun h => by simp [Op.bytesLess] at h
  | [], _ :: _ => fun _ => rfl
  | a :: x, b :: y => by
    rw [bl_cons, bl_cons]
    intro h
    rw [Bool.or_eq_true, Bool.and_eq_true, decide_eq_true_eq, beq_iff_eq] at h
    rw [Bool.or_eq_false_iff, Bool.and_eq_false_iff, decide_eq_false_iff_not, beq_eq_false_iff_ne]
    rcases h with h | ⟨h, k⟩
    · exact ⟨fun e => UInt8.lt_asymm h e, Or.inl (fun e => by subst e; exact UInt8.lt_irrefl _ h)⟩
    · subst h
      exact ⟨UInt8.lt_irrefl _, Or.inr (bl_asymm x y k)⟩
theorem bl_total : ∀ x y : List UInt8, Op.bytesLess x y = false → Op.bytesLess y x = false → x = y
  | [], [] => fun _ _ => rfl
  | _ :: _, [] => fun _ h => by simp [Op.bytesLess] at h
  | [], _ :: _ => fun h _ => by simp [Op.bytesLess] at h
  | a :: x, b :: y => by
    rw [bl_cons, bl_cons]
    intro h k
    rw [Bool.or_eq_false_iff, Bool.and_eq_false_iff, decide_eq_false_iff_not, beq_eq_false_iff_ne] at h k
    have e : a = b := by
      have h1 := h.1
      have k1 := k.1
      rw [UInt8.lt_iff_toNat_lt] at h1 k1
      exact UInt8.toNat_inj.1 (by omega)
    subst e
    rw [bl_total x y (h.2.resolve_left (fun n => n rfl)) (k.2.resolve_left (fun n => n rfl))]
theorem bl_trans : ∀ x y z : List UInt8, Op.bytesLess x y = true → Op.bytesLess y z = true → Op.bytesLess x z = true
  | x, [], z => fun h _ => by cases x <;> simp [Op.bytesLess] at h
  | x, _ :: _, [] => fun _ h => by simp [Op.bytesLess] at h
  | [], _ :: _, _ :: _ => fun _ _ => rfl
  | a :: x, b :: y, c :: z => by
    rw [bl_cons, bl_cons, bl_cons]
    intro h k
    rw [Bool.or_eq_true, Bool.and_eq_true, decide_eq_true_eq, beq_iff_eq] at h k ⊢
    rcases h with h | ⟨h, h2⟩
    · rcases k with k | ⟨k, k2⟩
      · exact Or.inl (UInt8.lt_trans h k)
      · subst k; exact Or.inl h
    · subst h
      rcases k with k | ⟨k, k2⟩
      · exact Or.inl k
      · exact Or.inr ⟨k, bl_trans x y z h2 k2⟩
/-- how many of l are less than s -/
def rk (l : List (List UInt8)) (s : List UInt8) : Int := ((l.filter fun t => Op.bytesLess t s).length : Nat)
theorem filter_le (p q : List UInt8 → Bool) (h : ∀ t, p t = true → q t = true) : ∀ l : List (List UInt8), (l.filter p).length ≤ (l.filter q).length
  | [] => Nat.le_refl _
  | t :: l => by
    have ih := filter_le p q h l
    rw [List.filter_cons, List.filter_cons]
    by_cases hp : p t = true
    · rw [if_pos hp, if_pos (h t hp)]; simp; exact ih
    · rw [if_neg hp]
      by_cases hq : q t = true
      · rw [if_pos hq]; simp; omega
      · rw [if_neg hq]; exact ih
theorem filter_lt (p q : List UInt8 → Bool) (h : ∀ t, p t = true → q t = true) (a : List UInt8) (hp : p a = false) (hq : q a = true) : ∀ l : List (List UInt8), a ∈ l → (l.filter p).length < (l.filter q).length
  | [], ha => by cases ha
  | t :: l, ha => by
    rw [List.filter_cons, List.filter_cons]
    by_cases e : t = a
    · subst e
      have ih := filter_le p q h l
      rw [if_neg (by simp [hp]), if_pos hq]; simp; omega
    · have ih := filter_lt p q h a hp hq l ((List.mem_cons.1 ha).resolve_left (fun x => e x.symm))
      by_cases hp : p t = true
      · rw [if_pos hp, if_pos (h t hp)]; simp; exact ih
      · rw [if_neg hp]
        by_cases hq : q t = true
        · rw [if_pos hq]; simp; omega
        · rw [if_neg hq]; exact ih
theorem rk_lt {l : List (List UInt8)} {a b : List UInt8} (ha : a ∈ l) (h : Op.bytesLess a b = true) : rk l a < rk l b := by
  unfold rk
  have := filter_lt (fun t => Op.bytesLess t a) (fun t => Op.bytesLess t b) (fun t ht => bl_trans t a b ht h) a (bl_irrefl a) h l ha
  omega
theorem rk_less {l : List (List UInt8)} {a b : List UInt8} (ha : a ∈ l) (hb : b ∈ l) : Op.bytesLess a b = decide (rk l a < rk l b) := by
  cases h : Op.bytesLess a b with
  | true => exact (decide_eq_true (rk_lt ha h)).symm
  | false =>
    symm
    rw [decide_eq_false_iff_not]
    intro c
    cases k : Op.bytesLess b a with
    | true => have := rk_lt hb k; omega
    | false => rw [bl_total a b h k] at c; omega
theorem rk_eq {l : List (List UInt8)} {a b : List UInt8} (ha : a ∈ l) (hb : b ∈ l) : a = b ↔ rk l a = rk l b := by
  refine ⟨fun e => by rw [e], fun e => bl_total a b ?_ ?_⟩
  · rw [rk_less ha hb, decide_eq_false_iff_not]; omega
  · rw [rk_less hb ha, decide_eq_false_iff_not]; omega

open Go.Proofs.YtchlkbaopgpldaaW.PrintMore
abbrev bl (a b : ByteArray) : Bool := Op.bytesLess a.toList b.toList
theorem toList_app (a b : ByteArray) : (a ++ b).toList = a.toList ++ b.toList := by
  rw [Lib.toList_data, Lib.toList_data, Lib.toList_data, ByteArray.data_append, Array.toList_append]
theorem nil_list : (⟨#[]⟩ : ByteArray).toList = [] := by rw [Lib.toList_data]
theorem bl_nil (a : ByteArray) : bl a (⟨#[]⟩ : ByteArray) = false := by
  unfold bl
  rw [nil_list]
  cases a.toList <;> rfl
theorem after_eq (k : ByteArray) (h : k.size + 1 ≤ 9223372036854775807) : key_After.f k = some (k ++ (⟨#[0]⟩ : ByteArray)) := by
  unfold key_After.f
  rw [if_pos h]
def upB (a1 : ByteArray) (a2 : Bool) (b1 : ByteArray) (b2 : Bool) : Bool := a2 || (!b2 && bl b1 a1)
theorem upper_eq (a0 a1 : ByteArray) (a2 : Bool) (b0 b1 : ByteArray) (b2 : Bool) : key_upper.f a0 a1 a2 b0 b1 b2 = some (if upB a1 a2 b1 b2 = true then (b0, b1, b2) else (a0, a1, a2)) := by
  unfold key_upper.f upB bl
  cases a2 <;> cases b2 <;> cases h : Op.bytesLess b1.toList a1.toList <;> simp
def meetF (a0 a1 : ByteArray) (a2 : Bool) (b0 b1 : ByteArray) (b2 : Bool) : ByteArray × ByteArray × Bool :=
  (mxs a0 b0, if (a2 && b2) = true then (⟨#[]⟩ : ByteArray) else if a2 = true then b1 else if b2 = true then a1 else if bl b1 a1 = true then b1 else a1, a2 && b2)
theorem meet_eq (a0 a1 : ByteArray) (a2 : Bool) (b0 b1 : ByteArray) (b2 : Bool) : key_Meet.f a0 a1 a2 b0 b1 b2 = some (meetF a0 a1 a2 b0 b1 b2) := by
  unfold key_Meet.f meetF
  rw [upper_eq]
  unfold upB bl
  cases a2 <;> cases b2 <;> cases h : Op.bytesLess b1.toList a1.toList <;> simp
theorem awake_t : rundlelaw04_awake.f = some true := by
  unfold rundlelaw04_awake.f
  rw [after_eq _ (by decide)]
  have e1 : ((⟨#[97]⟩ : ByteArray) ++ (⟨#[0]⟩ : ByteArray)).toList = [97, 0] := by
    rw [toList_app, Lib.toList_data, Lib.toList_data]
    rfl
  simp only [Option.bind_some, meet_eq, e1, if_true]
  simp [meetF, mxs, Lib.toList_data, Op.bytesLess]

def hasB (lo hi : ByteArray) (al : Bool) (k : ByteArray) : Bool := !(bl k lo) && (al || bl k hi)
theorem has_eq (lo hi : ByteArray) (al : Bool) (k : ByteArray) : key_Has.f lo hi al k = some (hasB lo hi al k) := by
  unfold key_Has.f hasB
  by_cases c : bl k lo = true
  · rw [if_pos c]; simp [c]
  · rw [if_neg c]
    have c' : bl k lo = false := by simpa using c
    cases al <;> simp [c']

theorem short_loop (l : List S23) (hl : (l.length : Int) ≤ 9223372036854775807) : ∀ d i, i + d = l.length → ∃ r : Int, Ev (fun n => rundlelaw04_Short.l0 n l (i : Int)) r := by
  intro d
  induction d with
  | zero =>
    intro i hi
    refine ⟨1, Ev.step (f := fun _ => some 1) (fun n => ?_) (Ev.now _)⟩
    simp only [rundlelaw04_Short.l0]
    rw [if_neg (by omega)]
  | succ d ih =>
    intro i hi
    obtain ⟨r, hr⟩ := ih (i + 1) (by omega)
    have e1 : wrap64 ((i : Int) + 1) = ((i + 1 : Nat) : Int) := by unfold wrap64; omega
    by_cases c1 : (((rd_T23 l i).f0).size : Int) > 1100
    · refine ⟨0, Ev.step (f := fun _ => some 0) (fun n => ?_) (Ev.now _)⟩
      simp only [rundlelaw04_Short.l0]
      rw [if_pos (by omega), if_pos (by omega), if_pos c1]
    · by_cases c2 : (((rd_T23 l i).f1).size : Int) > 1100
      · refine ⟨0, Ev.step (f := fun _ => some 0) (fun n => ?_) (Ev.now _)⟩
        simp only [rundlelaw04_Short.l0]
        rw [if_pos (by omega), if_pos (by omega), if_neg c1, if_pos c2]
      · refine ⟨r, Ev.step (fun n => ?_) hr⟩
        simp only [rundlelaw04_Short.l0]
        rw [if_pos (by omega), if_pos (by omega), if_neg c1, if_neg c2, e1]
theorem ev_short (l : List S23) (hl : (l.length : Int) ≤ 9223372036854775807) : ∃ r : Int, Ev (fun n => rundlelaw04_Short.f n l) r := short_loop l hl l.length 0 (by omega)

theorem yes (k a0 a1 : ByteArray) (a2 : Bool) (b0 b1 : ByteArray) (b2 : Bool) : Ev (fun n => rundlelaw04_KeyJoins.j0 n k true a0 a1 a2 b0 b1 b2) true := by
  refine Ev.step (f := fun _ => some true) (fun n => ?_) (Ev.now _)
  simp only [rundlelaw04_KeyJoins.j0, if_true, awake_t, Option.bind_some]
theorem nogood (k a0 a1 : ByteArray) (a2 : Bool) (b0 b1 : ByteArray) (b2 : Bool) (h : (a1.toList == b0.toList) = true) : Ev (fun n => rundlelaw04_KeyJoins.j1 n k true a0 a1 a2 b0 b1 b2 a0 a1 a2 b0 b1 b2) true := by
  refine Ev.step (f := fun _ => some true) (fun n => ?_) (Ev.now _)
  simp only [rundlelaw04_KeyJoins.j1, if_true, h]
theorem join_has (a0 a1 b0 b1 : ByteArray) (b2 : Bool) (k : ByteArray) (h : (a1.toList == b0.toList) = true) (g : bl a1 a0 = false) (g2 : b2 = true ∨ bl b1 b0 = false) :
    hasB a0 b1 b2 k = (hasB a0 a1 false k || hasB b0 b1 b2 k) ∧ (hasB a0 a1 false k && hasB b0 b1 b2 k) = false := by
  have e : a1.toList = b0.toList := eq_of_beq h
  unfold hasB
  unfold bl at *
  rw [e] at g ⊢
  have h1 := rk_less (l := [a0.toList, b0.toList, b1.toList, k.toList]) (a := b0.toList) (b := a0.toList) (by simp) (by simp)
  have h2 := rk_less (l := [a0.toList, b0.toList, b1.toList, k.toList]) (a := b1.toList) (b := b0.toList) (by simp) (by simp)
  have h3 := rk_less (l := [a0.toList, b0.toList, b1.toList, k.toList]) (a := k.toList) (b := a0.toList) (by simp) (by simp)
  have h4 := rk_less (l := [a0.toList, b0.toList, b1.toList, k.toList]) (a := k.toList) (b := b0.toList) (by simp) (by simp)
  have h5 := rk_less (l := [a0.toList, b0.toList, b1.toList, k.toList]) (a := k.toList) (b := b1.toList) (by simp) (by simp)
  generalize rk [a0.toList, b0.toList, b1.toList, k.toList] a0.toList = x at *
  generalize rk [a0.toList, b0.toList, b1.toList, k.toList] b0.toList = y at *
  generalize rk [a0.toList, b0.toList, b1.toList, k.toList] b1.toList = z at *
  generalize rk [a0.toList, b0.toList, b1.toList, k.toList] k.toList = u at *
  rw [h1, decide_eq_false_iff_not] at g
  rw [h2, decide_eq_false_iff_not] at g2
  rw [h3, h4, h5]
  cases b2
  · have g2 : ¬ z < y := g2.resolve_left (by simp)
    constructor
    · rw [Bool.eq_iff_iff]
      simp
      omega
    · rw [Bool.eq_false_iff]
      simp
      omega
  · constructor
    · rw [Bool.eq_iff_iff]
      simp
      omega
    · rw [Bool.eq_false_iff]
      simp
theorem KeyJoins (a0 a1 : ByteArray) (a2 : Bool) (b0 b1 : ByteArray) (b2 : Bool) (k : ByteArray) : ∃ n, rundlelaw04_KeyJoins.f n a0 a1 a2 b0 b1 b2 k = some true := by
  apply Ev.rounds
  unfold rundlelaw04_KeyJoins.f
  simp only [awake_t, Option.bind_some, if_true]
  obtain ⟨r, hr⟩ := ev_short [(⟨a0, a1, a2⟩ : S23), (⟨b0, b1, b2⟩ : S23)] (by simp)
  refine Ev.bind hr ?_
  by_cases c0 : r = 0
  · simp only [if_pos c0]
    exact yes k a0 a1 a2 b0 b1 b2
  · simp only [if_neg c0]
    by_cases c1 : (k.size : Int) > 1100
    · simp only [decide_eq_true c1]
      exact yes k a0 a1 a2 b0 b1 b2
    · simp only [decide_eq_false c1]
      cases a2
      · by_cases h : (a1.toList == b0.toList) = true
        · have gb : key_Good.f b0 b1 b2 = some (b2 || !(bl b1 b0)) := by
            unfold key_Good.f
            cases b2 <;> simp
          by_cases g : bl a1 a0 = true
          · refine Ev.step (fun n => (by simp only [rundlelaw04_KeyJoins.j0, Bool.false_eq_true, if_false, rundlelaw04_Of.f, key_Joins.f, key_Good.f, Option.bind_some, h, if_true, g, Bool.not_true]; rfl)) ?_
            exact nogood k a0 a1 false b0 b1 b2 h
          · have g' : bl a1 a0 = false := by simpa using g
            by_cases g2 : (b2 || !(bl b1 b0)) = true
            · refine Ev.step (f := fun n => rundlelaw04_KeyJoins.j1 n k false a0 a1 false b0 b1 b2 a0 a1 false b0 b1 b2) (fun n => ?_) ?_
              · simp only [rundlelaw04_KeyJoins.j0, Bool.false_eq_true, if_false, rundlelaw04_Of.f, key_Joins.f, gb, Option.bind_some, h, if_true, g2, Bool.not_true]
                simp only [key_Good.f, Bool.false_eq_true, if_false, Option.bind_some, g', Bool.not_false, if_true]
              · refine Ev.step (f := fun _ => some true) (fun n => ?_) (Ev.now _)
                obtain ⟨j1, j2⟩ := join_has a0 a1 b0 b1 b2 k h g' (by
                  rw [Bool.or_eq_true, Bool.not_eq_true'] at g2
                  exact g2)
                simp only [rundlelaw04_KeyJoins.j1, Bool.false_eq_true, if_false, has_eq, Option.bind_some, j1]
                generalize hasB a0 a1 false k = p at *
                generalize hasB b0 b1 b2 k = q at *
                cases p <;> cases q <;> simp at j2 ⊢
            · have g3 : (b2 || !(bl b1 b0)) = false := by simpa using g2
              refine Ev.step (f := fun n => rundlelaw04_KeyJoins.j1 n k true a0 a1 false b0 b1 b2 a0 a1 false b0 b1 b2) (fun n => ?_) ?_
              · simp only [rundlelaw04_KeyJoins.j0, Bool.false_eq_true, if_false, rundlelaw04_Of.f, key_Joins.f, gb, Option.bind_some, h, if_true, g3, Bool.not_false]
                simp only [key_Good.f, Bool.false_eq_true, if_false, Option.bind_some, g', Bool.not_false, if_true]
              · exact nogood k a0 a1 false b0 b1 b2 h
        · have h' : (a1.toList == b0.toList) = false := by simpa using h
          refine Ev.step (f := fun _ => some true) (fun n => ?_) (Ev.now _)
          simp only [rundlelaw04_KeyJoins.j0, Bool.false_eq_true, if_false, rundlelaw04_Of.f, key_Joins.f, Option.bind_some, h', bne, Bool.not_false]
      · refine Ev.step (f := fun _ => some true) (fun n => ?_) (Ev.now _)
        simp only [rundlelaw04_KeyJoins.j0, Bool.false_eq_true, if_false, rundlelaw04_Of.f, key_Joins.f, Option.bind_some, if_true]
theorem KeyJoins_walk (a0 a1 : ByteArray) (a2 : Bool) (b0 b1 : ByteArray) (b2 : Bool) (k : ByteArray) (w : World) :
    Calls Try.prog 6 #[.agg #[.string a0, .string a1, .bool a2], .agg #[.string b0, .string b1, .bool b2], .string k] w fun e w' => e = .returned (.bool true) ∧ Below w.heap.size w w' := by
  obtain ⟨n, h⟩ := KeyJoins a0 a1 a2 b0 b1 b2 k
  by_cases c : a2 = true
  · exact PKeyJoins.rundlelaw04_KeyJoins.callsB n a0 a1 a2 b0 b1 b2 k true w h rfl c
  · have c' : a2 = false := by simpa using c
    by_cases d : (a1.toList == b0.toList) = true
    · exact PKeyJoins.rundlelaw04_KeyJoins.callsA n a0 a1 a2 b0 b1 b2 k true w h rfl ⟨c', d⟩
    · exact PKeyJoins.rundlelaw04_KeyJoins.callsC n a0 a1 a2 b0 b1 b2 k true w h rfl ⟨c', by simpa using d⟩

end Go.Proofs.Ytchlkbaopgpldaa.Pure
