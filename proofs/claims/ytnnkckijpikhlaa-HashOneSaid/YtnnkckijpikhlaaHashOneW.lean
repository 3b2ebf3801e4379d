/- HashOne: the law's function by hand: a text's bytes, one of them changed, and a text of them again. -/
import Derived.Test.YtnnkckijpikhlaaPHashOnex1
import Derived.Lib.ConvBytes
import Derived.Lib.UnsafeStr
import Derived.Lib.Hide
import Derived.WideLaws
namespace Go.Proofs.Ytnnkckijpikhlaa.HashOneW
open Go.RowKit Go.Proofs.YtnnkckijpikhlaaW.PrintWords Go.Proofs.YtnnkckijpikhlaaW.PrintLast Go.Proofs.Ytnnkckijpikhlaa.PHashOne
set_option linter.unusedVariables false
set_option linter.unusedSimpArgs false
def nums (s : ByteArray) : List Int := s.data.toList.map fun c => (c.toNat : Int)
theorem nums_len (s : ByteArray) : (nums s).length = s.size := by simp [nums]
theorem nums_get (s : ByteArray) (j : Nat) (h : j < s.size) : (nums s).getD j 0 = ((s.data.toList.getD j 0).toNat : Int) := by
  have h2 : j < s.data.toList.length := by simpa using h
  simp [nums, List.getD_eq_getElem?_getD, List.getElem?_map, List.getElem?_eq_getElem h2]
theorem nums_bd (s : ByteArray) (j : Nat) : 0 ≤ (nums s).getD j 0 ∧ (nums s).getD j 0 < 256 := by
  rw [List.getD_eq_getElem?_getD]
  cases e : (nums s)[j]? with
  | none => exact ⟨by simp, by simp⟩
  | some v =>
    have := List.mem_of_getElem? e
    unfold nums at this
    obtain ⟨c, _, rfl⟩ := List.mem_map.1 this
    have := c.toNat_lt
    exact ⟨by simp, by simp; omega⟩
theorem cell_put {W : World} {a : Addr} {u v : Value} (h : W.cell? a = some u) : (W.setCell a v).cell? a = some v := by
  go_simp
theorem cell_other {W : World} {a p : Addr} {v : Value} (h : a ≠ p) : (W.setCell p v).cell? a = W.cell? a := by
  refine World.cell?_setCell_other (h := ?_) ..
  exact fun e => h e.symm
theorem below_drew1 (w : World) : Below w.heap.size w w.drew := ⟨rfl, rfl, rfl, Nat.le_refl _, fun _ _ => rfl⟩
theorem conv_in (w : World) (s : ByteArray) (hz : s.size ≤ 300) : ∃ (W : World) (c b : Nat), b = w.heap.size ∧ (convert 9 39 (.string s)).run Try.prog w = .ok (.slice (some ⟨b, 0, none⟩) s.size c) W ∧ Below w.heap.size w W ∧ (∀ j, j < s.size → W.cell? ⟨b, j, none⟩ = some (.int .u8 ((nums s).getD j 0))) ∧ (∀ j, j < s.size → W.frozen? ⟨b, j, none⟩ = false) := by
  refine ⟨Lib.bytesWorld w 5 s, _, w.heap.size, rfl, Lib.run_convert_string_bytes w 9 39 5 s Try.underlying9 Try.underlying39 Try.underlying5, ?_, ?_, ?_⟩
  · refine ⟨rfl, rfl, rfl, by rw [Lib.bytesWorld_size]; omega, fun k hk => Lib.bytesWorld_at_old w 5 s k hk⟩
  · intro j hj
    rw [Lib.bytesWorld_cell w 5 s j hj, nums_get s j hj]
  · intro j hj
    have hs : (Lib.bytesCells w 5 s).size ≥ s.size := by simp [Lib.bytesCells]
    simp [World.frozen?, Lib.bytesWorld_at_new]
    omega
set_option maxHeartbeats 800000 in
theorem long (k : Nat) (s : ByteArray) (a b : Int) (w : World) (ha : rundlelaw05_awake.f k = some true) (h : (s.size : Int) > 300) :
    Calls Try.prog 10 #[.string s, .int .u16 a, .int .u8 b] w fun e w' => e = .returned (.bool true) ∧ Below w.heap.size w w' := by
  have g1 : decide ((s.size : Int) > 300) = true := decide_eq_true h
  have g2 : decide (300 < s.size) = true := decide_eq_true (by omega)
  have g3 : 300 < s.size := by omega
  go_enter Try.func10, Try.ntmps10
  go_wp2_with fail
  refine (rundlelaw05_awake.calls k true w ha).mono ?_
  rintro e w1 ⟨rfl, ⟨n1, rfl⟩⟩
  go_wp2_with fail
  refine (rundlelaw05_awake.calls k true _ ha).mono ?_
  rintro e w2 ⟨rfl, ⟨n2, rfl⟩⟩
  go_wp2
  go_ret
  exact ⟨rfl, ⟨rfl, rfl, rfl, Nat.le_refl _, fun _ _ => rfl⟩⟩
set_option maxHeartbeats 800000 in
theorem empty (k : Nat) (s : ByteArray) (a b : Int) (w : World) (ha : rundlelaw05_awake.f k = some true) (h : s.size = 0) :
    Calls Try.prog 10 #[.string s, .int .u16 a, .int .u8 b] w fun e w' => e = .returned (.bool true) ∧ Below w.heap.size w w' := by
  go_enter Try.func10, Try.ntmps10
  go_wp2_with fail
  refine (rundlelaw05_awake.calls k true w ha).mono ?_
  rintro e w1 ⟨rfl, ⟨n1, rfl⟩⟩
  go_wp2_with fail
  refine (rundlelaw05_awake.calls k true _ ha).mono ?_
  rintro e w2 ⟨rfl, ⟨n2, rfl⟩⟩
  go_wp2
  go_ret
  exact ⟨rfl, ⟨rfl, rfl, rfl, Nat.le_refl _, fun _ _ => rfl⟩⟩
set_option maxHeartbeats 800000 in
theorem main (k : Nat) (s : ByteArray) (a b r0 r1 : Int) (w : World) (ha : rundlelaw05_awake.f k = some true) (h1 : 0 < s.size) (h2 : s.size ≤ 300) (a0 : 0 ≤ a) (a1 : a < 65536)
    (f0 : hash_Of.f k (strOfNums ((nums s).set (a % (s.size : Int)).toNat (Go.bits .xor .u8 ((nums s).getD (a % (s.size : Int)).toNat 0) b))) = some r0) (f1 : hash_Of.f k s = some r1) :
    Calls Try.prog 10 #[.string s, .int .u16 a, .int .u8 b] w fun e w' => e = .returned (.bool ((r0 == r1) == (b == 0))) ∧ Below w.heap.size w w' := by
  have g3 : ¬ (300 < s.size) := by omega
  have g4 : ¬ (s.size = 0) := by omega
  have g5 : decide ((300 : Int) < (s.size : Int)) = false := decide_eq_false (by omega)
  have g6 : ((s.size : Int) == 0) = false := by rw [beq_eq_false_iff_ne]; omega
  go_enter Try.func10, Try.ntmps10
  go_wp2_with fail
  refine (rundlelaw05_awake.calls k true w ha).mono ?_
  rintro e w1 ⟨rfl, ⟨n1, rfl⟩⟩
  have HB : Below w.heap.size w (w.drewN n1) := ⟨rfl, rfl, rfl, Nat.le_refl _, fun _ _ => rfl⟩
  obtain ⟨W, c, q, eq, e1, e2, e3, e4⟩ := conv_in (w.drewN n1) s h2
  obtain ⟨j, hj⟩ : ∃ j : Nat, a % (s.size : Int) = (j : Int) := ⟨(a % (s.size : Int)).toNat, by rw [Int.toNat_of_nonneg (Int.emod_nonneg _ (by omega))]⟩
  have hjl : j < s.size := by
    have := Int.emod_lt_of_pos a (b := (s.size : Int)) (by omega)
    omega
  rw [hj, Int.toNat_natCast] at f0
  have c3 := e3 j hjl
  have c4 := e4 j hjl
  generalize hx : (nums s).getD j 0 = x at *
  have hR : ReadsInt (W.setCell ⟨q, j, none⟩ (.int .u8 (Go.bits .xor .u8 x b))) .u8 (some ⟨q, 0, none⟩) s.size ((nums s).set j (Go.bits .xor .u8 x b)) := by
    refine ⟨by rw [List.length_set, nums_len], by omega, fun _ => ⟨_, rfl, fun i hi => ?_⟩⟩
    have ei : (⟨q, 0, none⟩ : Addr).add i = ⟨q, i, none⟩ := by unfold Addr.add; by_cases h : i = 0 <;> simp [h]
    rw [ei]
    by_cases c : j = i
    · subst c
      have e : ((nums s).set j (Go.bits .xor .u8 x b)).getD j 0 = Go.bits .xor .u8 x b := by
        rw [List.getD_eq_getElem?_getD, List.getElem?_set_self (by rw [nums_len]; exact hjl)]
        rfl
      rw [e]
      exact cell_put c3
    · have e : ((nums s).set j (Go.bits .xor .u8 x b)).getD i 0 = (nums s).getD i 0 := by
        rw [List.getD_eq_getElem?_getD, List.getElem?_set_ne c, ← List.getD_eq_getElem?_getD]
      rw [e, ← e3 i hi]
      exact cell_other (by intro k; injection k with _ k; exact c k.symm)
  have e5 := string_of_reads (P := Try.prog) (src := 39) (dst := 9) (c := c) Try.underlying39 Try.underlying5 Try.underlying9 hR
  clear hR e3 e4
  have hHB : Below w.heap.size w (W.setCell ⟨q, j, none⟩ (.int .u8 (Go.bits .xor .u8 x b))) := by
    exact below_set (below_then HB (Nat.le_refl _) e2) (by rw [eq]; exact Nat.le_refl _)
  clear e2 HB eq
  go_wp2_with fail
  refine (hash_Of.calls k _ r0 _ f0).mono ?_
  rintro e w3 ⟨rfl, ⟨n3, rfl⟩⟩
  go_wp2_with fail
  refine (hash_Of.calls k s r1 _ f1).mono ?_
  rintro e w4 ⟨rfl, ⟨n4, rfl⟩⟩
  go_wp2
  go_ret
  exact ⟨rfl, hHB.os, hHB.tape, hHB.output, hHB.size, hHB.block⟩
end Go.Proofs.Ytnnkckijpikhlaa.HashOneW
