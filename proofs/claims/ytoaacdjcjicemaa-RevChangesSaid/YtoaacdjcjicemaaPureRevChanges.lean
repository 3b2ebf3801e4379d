/- RevChanges: behind a change each key that is changed is as the change says, and each other one as it was; for all entries and texts. -/
import Derived.Test.YtoaacdjcjicemaaPRevChangesx9
import Derived.Test.YtoaacdjcjicemaaPureRevBase
namespace Go.Proofs.Ytoaacdjcjicemaa.Pure
open Go.RowKit Go.Proofs.Ytoaacdjcjicemaa.PRevChanges Go.Proofs.YtoaacdjcjicemaaW.PrintWords Go.Proofs.YtoaacdjcjicemaaW.PrintLast
set_option linter.unusedVariables false
set_option linter.unusedSimpArgs false

open Go.Proofs.YtoaacdjcjicemaaW.PrintMore
/-- The last entry of a key. -/
def lastP (k : ByteArray) : ByteArray × Bool → List S114 → ByteArray × Bool
  | p, [] => p
  | p, e :: l => lastP k (if e.f0.toList = k.toList then (e.f1, !e.f2) else p) l
theorem lastP_none (k : ByteArray) : ∀ (l : List S114) (p : ByteArray × Bool), l.find? (is k) = none → lastP k p l = p
  | [], p, _ => rfl
  | e :: l, p, h => by
    have h1 := List.find?_eq_none.1 h e List.mem_cons_self
    have h2 : ¬ e.f0.toList = k.toList := by simpa [is] using h1
    unfold lastP
    rw [if_neg h2]
    exact lastP_none k l p (List.find?_eq_none.2 fun x hx => List.find?_eq_none.1 h x (List.mem_cons_of_mem _ hx))
theorem lastP_rise (k : ByteArray) : ∀ (l : List S114) (p : ByteArray × Bool), Rise l → lastP k p l = (match l.find? (is k) with | none => p | some e => (e.f1, !e.f2))
  | [], p, _ => rfl
  | e :: l, p, h => by
    have h' := List.pairwise_cons.1 h
    unfold lastP
    by_cases c : e.f0.toList = k.toList
    · rw [if_pos c, List.find?_cons_of_pos (by simp [is, c])]
      refine lastP_none k l _ (find_none_of fun x hx => ?_)
      unfold bl
      rw [← c]
      exact h'.1 x hx
    · rw [if_neg c, List.find?_cons_of_neg (by simp [is, c])]
      exact lastP_rise k l p h'.2
theorem law_loop (m : List S62) (hm : m.length ≤ 70) (k : ByteArray) (hk : k.size ≤ 140737488351232) (M : List S114) (hM : M.length ≤ 140) (T : List Int) (hT : Tab (keysOf M) T) (v r : Int) (lo hi : ByteArray) (al : Bool) : ∀ d i (p : ByteArray × Bool), i + d = m.length → lastP k p ((m.map cv).drop i) = tell (M.find? (is k)) → Ev (fun n => rundlelaw08_RevChanges.l0 n m k p.1 p.2 (i : Int) v r lo hi al false (keysOf M) (valsOf M) (goneOf M) T) true := by
  intro d
  induction d with
  | zero =>
    intro i p hid h
    rw [List.drop_of_length_le (by rw [List.length_map]; omega)] at h
    have h : p = tell (M.find? (is k)) := h
    refine Ev.step (fun n => (by simp only [rundlelaw08_RevChanges.l0]; rw [if_neg (by omega)])) ?_
    refine Ev.bind (ev_get M (by omega) T hT k hk v r lo hi al false) ?_
    have e1 : (p.2 == (tell (M.find? (is k))).2) = true := by rw [h]; simp
    rw [← h]
    simp only [if_true, beq_self_eq_true]
    refine Ev.bind (ev_live M (by omega) T v r lo hi al false) ?_
    unfold key_Whole.f
    simp only [Option.bind_some]
    refine Ev.bind (ev_pairs M (by omega) T v r lo hi al false ⟨#[]⟩ ⟨#[]⟩ true 1000) ?_
    have e2 : M.filter (pw ⟨#[]⟩ ⟨#[]⟩ true) = M.filter fun e => !e.f2 := by
      refine List.filter_congr fun e _ => ?_
      unfold pw
      rw [has_whole]
      simp
    have e3 : (((M.filter fun e => !e.f2).map fun e => (⟨e.f0, e.f1⟩ : S129)).take (1000 : Int).toNat).length = liveN M := by
      rw [List.length_take, List.length_map]
      have := List.length_filter_le (fun e => !e.f2) M
      unfold liveN
      have e9 : (1000 : Int).toNat = 1000 := rfl
      omega
    rw [e2, e3]
    simp only [beq_self_eq_true]
    exact Ev.now _
  | succ d ih =>
    intro i p hid h
    have hil : i < (m.map cv).length := by rw [List.length_map]; omega
    rw [drop_one _ i hil] at h
    have er := rd62 m i (by omega)
    have e0 : (rd_T62 m (i : Int)).f0 = ((m.map cv).getD i z114).f0 := by rw [← er]; rfl
    have e1 : (rd_T62 m (i : Int)).f1 = ((m.map cv).getD i z114).f1 := by rw [← er]; rfl
    have e2 : (rd_T62 m (i : Int)).f2 = ((m.map cv).getD i z114).f2 := by rw [← er]; rfl
    unfold lastP at h
    by_cases c : ((m.map cv).getD i z114).f0.toList = k.toList
    · rw [if_pos c] at h
      refine Ev.step (fun n => ?_) (ih (i + 1) _ (by omega) h)
      simp only [rundlelaw08_RevChanges.l0, e0, e1, e2, w_up i (by omega)]
      rw [if_pos (by omega), if_pos (by omega), if_pos c]
    · rw [if_neg c] at h
      refine Ev.step (fun n => ?_) (ih (i + 1) p (by omega) h)
      simp only [rundlelaw08_RevChanges.l0, e0, e1, e2, w_up i (by omega)]
      rw [if_pos (by omega), if_pos (by omega), if_neg c]
theorem small_nil : Small [] := fun e he => by cases he
theorem RevChanges (lo hi : ByteArray) (al : Bool) (l m : List S62) (k : ByteArray) : ∃ n, rundlelaw08_RevChanges.f n lo hi al l m k = some true := by
  apply Ev.rounds
  unfold rundlelaw08_RevChanges.f
  refine Ev.bind ev_awake8 ?_
  simp only [if_true]
  have aw : ∀ x : Bool × Unit, Ev (fun n => rundlelaw08_RevChanges.j0 n l m k true lo hi al) true := fun _ =>
    Ev.step (fun n => (by simp only [rundlelaw08_RevChanges.j0, if_true])) (Ev.bind ev_awake8 (Ev.now true))
  have aw := aw (true, ())
  rcases few8 l with ⟨f1, hl, sl, vl⟩ | f1
  rotate_left
  · refine Ev.bind f1 ?_
    simp only [if_true]
    exact aw
  refine Ev.bind f1 ?_
  simp only [Int.reduceEq, if_false]
  rcases few8 m with ⟨f2, hm, sm, vm⟩ | f2
  rotate_left
  · refine Ev.bind f2 ?_
    simp only [if_true]
    exact aw
  refine Ev.bind f2 ?_
  simp only [Int.reduceEq, if_false]
  unfold rundlelaw08_short.f
  have go : Ev (fun n => rundlelaw08_RevChanges.j0 n l m k (decide ((k.size : Int) > 40)) lo hi al) true := by
    by_cases hk : (k.size : Int) > 40
    · rw [decide_eq_true hk]
      exact aw
    rw [decide_eq_false hk]
    have hll : (l.map cv).length ≤ 1000 := by rw [List.length_map]; omega
    refine Ev.step (fun n => (by simp only [rundlelaw08_RevChanges.j0, Bool.false_eq_true, if_false, rundlelaw04_Of.f, Option.bind_some]; rfl)) ?_
    refine Ev.bind (ev_of8 l (by omega)) ?_
    rcases ev_new (l.map cv) hll sl 1 0 lo hi al with ⟨hM, T, hT, h1⟩ | ⟨hM, h1⟩
    · refine Ev.bind h1 ?_
      refine Ev.bind (ev_of8 m (by omega)) ?_
      rcases ev_apply (l.map cv) (m.map cv) (by rw [List.length_map, List.length_map]; omega) sl sm T 1 0 2 lo hi al with ⟨hm2, T', hT', h2⟩ | ⟨hm2, h2⟩
      · refine Ev.bind h2 ?_
        simp only [if_true]
        refine Ev.step (fun n => (by simp only [rundlelaw08_RevChanges.j1, bne_self_eq_false, Bool.false_eq_true, if_false]; rfl)) ?_
        refine Ev.bind (ev_get (l.map cv) hll T hT k (by omega) 1 0 lo hi al false) ?_
        have hlen := (mergeL_len _ (l.map cv) (m.map cv) rfl).1
        rw [List.length_map, List.length_map] at hlen
        refine law_loop m hm k (by omega) _ (by omega) T' hT' 2 _ lo hi al m.length 0 _ (by omega) ?_
        rw [List.drop_zero, lastP_rise k _ _ (may_rise hm2), merge_find k _ _ _ rfl (may_rise hM) (may_rise hm2)]
        cases hf : (m.map cv).find? (is k) with
        | none => rfl
        | some e =>
          simp only [Option.some_or, tell]
          by_cases g : e.f2 = true
          · have he := List.mem_of_find?_eq_some hf
            obtain ⟨j, hj, ej⟩ := List.getElem_of_mem he
            have := (hm2 j hj).2.1
            rw [List.getD_eq_getElem?_getD, List.getElem?_eq_getElem hj, Option.getD_some, ej] at this
            have e9 : e.f1 = (⟨#[]⟩ : ByteArray) := toList_inj ((this g).trans nil_list.symm)
            rw [if_pos g, g, e9]
            rfl
          · rw [if_neg g, Bool.eq_false_iff.2 g]
            rfl
      · refine Ev.bind h2 ?_
        simp only [if_true]
        refine Ev.step (f := fun _ => some true) (fun n => ?_) (Ev.now _)
        simp only [rundlelaw08_RevChanges.j1]
        simp
    · refine Ev.bind h1 ?_
      refine Ev.bind (ev_of8 m (by omega)) ?_
      have fin : ∀ (x : Int × Int × ByteArray × ByteArray × Bool × Bool × List ByteArray × List ByteArray × List Bool × List Int × Int), Ev (fun n => rev_Apply.f n 0 0 (⟨#[]⟩ : ByteArray) (⟨#[]⟩ : ByteArray) false false (keysOf []) (valsOf []) (goneOf []) [] 2 (m.map cv)) x → Ev (fun n => (rev_Apply.f n 0 0 (⟨#[]⟩ : ByteArray) (⟨#[]⟩ : ByteArray) false false (keysOf []) (valsOf []) (goneOf []) [] 2 (m.map cv)).bind fun bt345 => some true) true := fun x hx => Ev.bind hx (Ev.now _)
      rcases ev_apply [] (m.map cv) (by rw [List.length_map, List.length_nil]; omega) small_nil sm [] 0 0 2 ⟨#[]⟩ ⟨#[]⟩ false with ⟨hm2, T', hT', h2⟩ | ⟨hm2, h2⟩
      · refine Ev.bind h2 ?_
        simp only [Int.reduceEq, if_false]
        refine Ev.step (f := fun _ => some true) (fun n => ?_) (Ev.now _)
        simp only [rundlelaw08_RevChanges.j1]
        simp
      · refine Ev.bind h2 ?_
        simp only [Int.reduceEq, if_false]
        refine Ev.step (f := fun _ => some true) (fun n => ?_) (Ev.now _)
        simp only [rundlelaw08_RevChanges.j1]
        simp
  by_cases c1 : (lo.size : Int) ≤ 40
  · simp only [if_pos c1, Option.bind_some]
    by_cases c2 : (hi.size : Int) ≤ 40
    · simp only [decide_eq_true c2, if_true]
      exact go
    · simp only [decide_eq_false c2, Bool.false_eq_true, if_false]
      exact aw
  · simp only [if_neg c1, Option.bind_some, Bool.false_eq_true, if_false]
    exact aw

end Go.Proofs.Ytoaacdjcjicemaa.Pure
