/- KeyRights: which texts may be keys, and values, are the document's; for all texts and numbers. -/
import Derived.Test.YtchlkbaopgpldaaPKeyRightsx2
import Derived.Lib.Strings
namespace Go.Proofs.Ytchlkbaopgpldaa.Pure
open Go.RowKit Go.Proofs.Ytchlkbaopgpldaa.PKeyRights Go.Proofs.YtchlkbaopgpldaaW.PrintWords Go.Proofs.YtchlkbaopgpldaaW.PrintLast
set_option linter.unusedVariables false
set_option linter.unusedSimpArgs false

/-! the order of texts: a rank for finitely many of them -/
theorem bl_nil_left (b : List UInt8) : Op.bytesLess [] b = !b.isEmpty := by cases b <;> rfl
theorem bl_cons (a b : UInt8) (x y : List UInt8) : Op.bytesLess (a :: x) (b :: y) = (decide (a < b) || (a == b && Op.bytesLess x y)) := by
  simp [Op.bytesLess]
theorem bl_irrefl : ∀ x : List UInt8, Op.bytesLess x x = false
  | [] => rfl
  | a :: x => by
    rw [bl_cons, bl_irrefl x]
    simp
theorem bl_asymm : ∀ x y : List UInt8, Op.bytesLess x y = true → Op.bytesLess y x = false
  | [], [] => fun _ => rfl
  | _ :: _, [] => fun h => by simp [Op.bytesLess] at h
  | [], _ :: _ => fun _ => rfl
  | a :: x, b :: y => by
    rw [bl_cons, bl_cons]
    intro h
    rw [Bool.or_eq_true, Bool.and_eq_true, decide_eq_true_eq, beq_iff_eq] at h
    rw [Bool.or_eq_false_iff, Bool.and_eq_false_iff, decide_eq_false_iff_not, beq_eq_false_iff_ne]
    rcases h with h | ⟨h, k⟩
    · exact ⟨fun e => UInt8.lt_asymm h e, Or.inl (fun e => by subst e; exact UInt8.lt_irrefl _ h)⟩
    · subst h
      exact ⟨UInt8.lt_irrefl _, Or.inr (bl_asymm x y k)⟩
theorem bl_total : ∀ x y : List UInt8, Op.bytesLess x y = false → Op.bytesLess y x = false → x = y
  | [], [] => fun _ _ => rfl
  | _ :: _, [] => fun _ h => by simp [Op.bytesLess] at h
  | [], _ :: _ => fun h _ => by simp [Op.bytesLess] at h
  | a :: x, b :: y => by
    rw [bl_cons, bl_cons]
    intro h k
    rw [Bool.or_eq_false_iff, Bool.and_eq_false_iff, decide_eq_false_iff_not, beq_eq_false_iff_ne] at h k
    have e : a = b := by
      have h1 := h.1
      have k1 := k.1
      rw [UInt8.lt_iff_toNat_lt] at h1 k1
      exact UInt8.toNat_inj.1 (by omega)
    subst e
    rw [bl_total x y (h.2.resolve_left (fun n => n rfl)) (k.2.resolve_left (fun n => n rfl))]
theorem bl_trans : ∀ x y z : List UInt8, Op.bytesLess x y = true → Op.bytesLess y z = true → Op.bytesLess x z = true
  | x, [], z => fun h _ => by cases x <;> simp [Op.bytesLess] at h
  | x, _ :: _, [] => fun _ h => by simp [Op.bytesLess] at h
  | [], _ :: _, _ :: _ => fun _ _ => rfl
  | a :: x, b :: y, c :: z => by
    rw [bl_cons, bl_cons, bl_cons]
    intro h k
    rw [Bool.or_eq_true, Bool.and_eq_true, decide_eq_true_eq, beq_iff_eq] at h k ⊢
    rcases h with h | ⟨h, h2⟩
    · rcases k with k | ⟨k, k2⟩
      · exact Or.inl (UInt8.lt_trans h k)
      · subst k; exact Or.inl h
    · subst h
      rcases k with k | ⟨k, k2⟩
      · exact Or.inl k
      · exact Or.inr ⟨k, bl_trans x y z h2 k2⟩
/-- how many of l are less than s -/
def rk (l : List (List UInt8)) (s : List UInt8) : Int := ((l.filter fun t => Op.bytesLess t s).length : Nat)
theorem filter_le (p q : List UInt8 → Bool) (h : ∀ t, p t = true → q t = true) : ∀ l : List (List UInt8), (l.filter p).length ≤ (l.filter q).length
  | [] => Nat.le_refl _
  | t :: l => by
    have ih := filter_le p q h l
    rw [List.filter_cons, List.filter_cons]
    by_cases hp : p t = true
    · rw [if_pos hp, if_pos (h t hp)]; simp; exact ih
    · rw [if_neg hp]
      by_cases hq : q t = true
      · rw [if_pos hq]; simp; omega
      · rw [if_neg hq]; exact ih
theorem filter_lt (p q : List UInt8 → Bool) (h : ∀ t, p t = true → q t = true) (a : List UInt8) (hp : p a = false) (hq : q a = true) : ∀ l : List (List UInt8), a ∈ l → (l.filter p).length < (l.filter q).length
  | [], ha => by cases ha
  | t :: l, ha => by
    rw [List.filter_cons, List.filter_cons]
    by_cases e : t = a
    · subst e
      have ih := filter_le p q h l
      rw [if_neg (by simp [hp]), if_pos hq]; simp; omega
    · have ih := filter_lt p q h a hp hq l ((List.mem_cons.1 ha).resolve_left (fun x => e x.symm))
      by_cases hp : p t = true
      · rw [if_pos hp, if_pos (h t hp)]; simp; exact ih
      · rw [if_neg hp]
        by_cases hq : q t = true
        · rw [if_pos hq]; simp; omega
        · rw [if_neg hq]; exact ih
theorem rk_lt {l : List (List UInt8)} {a b : List UInt8} (ha : a ∈ l) (h : Op.bytesLess a b = true) : rk l a < rk l b := by
  unfold rk
  have := filter_lt (fun t => Op.bytesLess t a) (fun t => Op.bytesLess t b) (fun t ht => bl_trans t a b ht h) a (bl_irrefl a) h l ha
  omega
theorem rk_less {l : List (List UInt8)} {a b : List UInt8} (ha : a ∈ l) (hb : b ∈ l) : Op.bytesLess a b = decide (rk l a < rk l b) := by
  cases h : Op.bytesLess a b with
  | true => exact (decide_eq_true (rk_lt ha h)).symm
  | false =>
    symm
    rw [decide_eq_false_iff_not]
    intro c
    cases k : Op.bytesLess b a with
    | true => have := rk_lt hb k; omega
    | false => rw [bl_total a b h k] at c; omega
theorem rk_eq {l : List (List UInt8)} {a b : List UInt8} (ha : a ∈ l) (hb : b ∈ l) : a = b ↔ rk l a = rk l b := by
  refine ⟨fun e => by rw [e], fun e => bl_total a b ?_ ?_⟩
  · rw [rk_less ha hb, decide_eq_false_iff_not]; omega
  · rw [rk_less hb ha, decide_eq_false_iff_not]; omega

open Go.Proofs.YtchlkbaopgpldaaW.PrintMore
abbrev bl (a b : ByteArray) : Bool := Op.bytesLess a.toList b.toList
theorem toList_app (a b : ByteArray) : (a ++ b).toList = a.toList ++ b.toList := by
  rw [Lib.toList_data, Lib.toList_data, Lib.toList_data, ByteArray.data_append, Array.toList_append]
theorem nil_list : (⟨#[]⟩ : ByteArray).toList = [] := by rw [Lib.toList_data]
theorem bl_nil (a : ByteArray) : bl a (⟨#[]⟩ : ByteArray) = false := by
  unfold bl
  rw [nil_list]
  cases a.toList <;> rfl
theorem after_eq (k : ByteArray) (h : k.size + 1 ≤ 9223372036854775807) : key_After.f k = some (k ++ (⟨#[0]⟩ : ByteArray)) := by
  unfold key_After.f
  rw [if_pos h]
def upB (a1 : ByteArray) (a2 : Bool) (b1 : ByteArray) (b2 : Bool) : Bool := a2 || (!b2 && bl b1 a1)
theorem upper_eq (a0 a1 : ByteArray) (a2 : Bool) (b0 b1 : ByteArray) (b2 : Bool) : key_upper.f a0 a1 a2 b0 b1 b2 = some (if upB a1 a2 b1 b2 = true then (b0, b1, b2) else (a0, a1, a2)) := by
  unfold key_upper.f upB bl
  cases a2 <;> cases b2 <;> cases h : Op.bytesLess b1.toList a1.toList <;> simp
def meetF (a0 a1 : ByteArray) (a2 : Bool) (b0 b1 : ByteArray) (b2 : Bool) : ByteArray × ByteArray × Bool :=
  (mxs a0 b0, if (a2 && b2) = true then (⟨#[]⟩ : ByteArray) else if a2 = true then b1 else if b2 = true then a1 else if bl b1 a1 = true then b1 else a1, a2 && b2)
theorem meet_eq (a0 a1 : ByteArray) (a2 : Bool) (b0 b1 : ByteArray) (b2 : Bool) : key_Meet.f a0 a1 a2 b0 b1 b2 = some (meetF a0 a1 a2 b0 b1 b2) := by
  unfold key_Meet.f meetF
  rw [upper_eq]
  unfold upB bl
  cases a2 <;> cases b2 <;> cases h : Op.bytesLess b1.toList a1.toList <;> simp
theorem awake_t : rundlelaw04_awake.f = some true := by
  unfold rundlelaw04_awake.f
  rw [after_eq _ (by decide)]
  have e1 : ((⟨#[97]⟩ : ByteArray) ++ (⟨#[0]⟩ : ByteArray)).toList = [97, 0] := by
    rw [toList_app, Lib.toList_data, Lib.toList_data]
    rfl
  simp only [Option.bind_some, meet_eq, e1, if_true]
  simp [meetF, mxs, Lib.toList_data, Op.bytesLess]

theorem yes (k : ByteArray) (x : Int) : Ev (fun n => rundlelaw04_KeyRights.j0 n k x true) true := by
  refine Ev.step (f := fun _ => some true) (fun n => ?_) (Ev.now _)
  simp only [rundlelaw04_KeyRights.j0, if_true, awake_t, Option.bind_some]
theorem size_nums (l : List Int) : (strOfNums l).size = l.length := by
  show (l.map _).toArray.size = l.length
  simp
theorem KeyRights : rundlelaw04_KeyRights.Pure := by
  intro k x hk hx
  have b : 0 ≤ x ∧ x ≤ 4294967295 := by simpa [Lit.wf, IntKind.min, IntKind.max, IntKind.signed, IntKind.bits] using hx
  have e1 : wrap64 (Int.tmod x 12) = x % 12 := by
    rw [Int.tmod_eq_emod_of_nonneg b.1]
    unfold wrap64
    omega
  have e2 : wrap64 (65530 + x % 12) = 65530 + x % 12 := by unfold wrap64; omega
  apply Ev.rounds
  unfold rundlelaw04_KeyRights.f
  simp only [awake_t, Option.bind_some, if_true]
  by_cases c1 : (k.size : Int) > 1100
  · simp only [decide_eq_true c1]
    exact yes k x
  · simp only [decide_eq_false c1]
    refine Ev.step (f := fun _ => some true) (fun n => ?_) (Ev.now _)
    simp only [rundlelaw04_KeyRights.j0, Bool.false_eq_true, if_false, e1, e2]
    have p1 : (0 : Int) ≤ 65530 + x % 12 := by omega
    have p2 : (65530 + x % 12 : Int).toNat ≤ 281474976710656 := by omega
    have p3 : (k.size : Int) ≤ 65536 := by omega
    have p4 : (((65530 + x % 12 : Int).toNat : Nat) : Int) = 65530 + x % 12 := by omega
    rw [if_pos p1, if_pos p2]
    simp only [Option.bind_some, key_Right.f, key_Fits.f, size_nums, List.length_replicate, p4, decide_eq_true p3, if_true, beq_self_eq_true]
    by_cases c : (k.size : Int) > 0
    · have c' : (k.size : Int) ≥ 1 := by omega
      simp only [if_pos c, if_pos c', Option.bind_some, beq_self_eq_true, if_true]
    · have c' : ¬ (k.size : Int) ≥ 1 := by omega
      simp only [if_neg c, if_neg c', Option.bind_some, beq_self_eq_true, if_true]

end Go.Proofs.Ytchlkbaopgpldaa.Pure
