/- HashOne: with one byte of a text changed its sum is another one, and with none it is the same; for all texts, places and bytes. -/
import Derived.Test.YtnnkckijpikhlaaPHashOnex1
import Derived.Test.YtnnkckijpikhlaaHashOneW
import Derived.Laws.BitsAllLaws
namespace Go.Proofs.Ytnnkckijpikhlaa.Pure
open Go.RowKit Go.Proofs.Ytnnkckijpikhlaa.PHashOne Go.Proofs.YtnnkckijpikhlaaW.PrintWords Go.Proofs.YtnnkckijpikhlaaW.PrintLast
set_option linter.unusedVariables false
set_option linter.unusedSimpArgs false

/-- one byte more -/
def y32 (x b : Int) : Int := (x + b) % 4294967296
def m10 (y : Int) : Int := (y * 1025) % 4294967296
def xs (t s : Nat) : Nat := t ^^^ (t / s)
def hs (x b : Int) : Int := ((xs (m10 (y32 x b)).toNat 64 : Nat) : Int)
def bytes (s : ByteArray) : List Int := s.data.toList.map fun c => (c.toNat : Int)
def hadd (h : Int) (l : List Int) : Int := l.foldl hs h
theorem xs_lt (t s : Nat) (ht : t < 4294967296) : xs t s < 4294967296 := by
  have h : t / s ≤ t := Nat.div_le_self t s
  exact Nat.xor_lt_two_pow (n := 32) ht (by omega)
theorem hs_bd (x b : Int) : 0 ≤ hs x b ∧ hs x b < 4294967296 := by
  unfold hs
  have := xs_lt (m10 (y32 x b)).toNat 64 (by unfold m10; omega)
  omega
theorem xor32 (t : Int) (s : Nat) (h0 : 0 ≤ t) (h1 : t < 4294967296) : Go.bits .xor .u32 t (t / (s : Int)) = ((xs t.toNat s : Nat) : Int) := by
  obtain ⟨n, rfl⟩ := Int.eq_ofNat_of_zero_le h0
  have e : ((n : Int) / (s : Int)) = ((n / s : Nat) : Int) := by simp
  have hn : n < 4294967296 := by omega
  have hd : n / s ≤ n := Nat.div_le_self n s
  rw [e, u32_xor_nat n (n / s) hn (by omega)]
  rfl
theorem bt_eq (s : ByteArray) (i : Nat) (h : i < s.size) : bt s (i : Int) = (bytes s).getD i 0 := by
  have h2 : i < s.data.toList.length := by simpa using h
  unfold bt bytes
  rw [dif_pos (by simpa using h), List.getD_eq_getElem?_getD, List.getElem?_map, List.getElem?_eq_getElem h2]
  simp [ByteArray.getElem_eq_getElem_data]
theorem bytes_len (s : ByteArray) : (bytes s).length = s.size := by simp [bytes]
theorem bytes_bd (s : ByteArray) : ∀ b ∈ bytes s, 0 ≤ b ∧ b < 256 := by
  intro b hb
  unfold bytes at hb
  obtain ⟨c, _, rfl⟩ := List.mem_map.1 hb
  have := c.toNat_lt
  omega
theorem step_eq (x b : Int) (hb : 0 ≤ b ∧ b < 256) :
    Go.bits .xor .u32 ((((x + (b % 4294967296)) % 4294967296) + ((((x + (b % 4294967296)) % 4294967296) * 1024) % 4294967296)) % 4294967296) (((((x + (b % 4294967296)) % 4294967296) + ((((x + (b % 4294967296)) % 4294967296) * 1024) % 4294967296)) % 4294967296) / 64) = hs x b := by
  have e0 : b % 4294967296 = b := by omega
  rw [e0]
  have e : (((x + b) % 4294967296) + ((((x + b) % 4294967296) * 1024) % 4294967296)) % 4294967296 = m10 (y32 x b) := by
    unfold m10 y32; omega
  rw [e]
  exact xor32 _ 64 (by unfold m10; omega) (by unfold m10; omega)
theorem add_loop (s : ByteArray) (hz : s.size ≤ 140737488351232) : ∀ (d k : Nat) (x : Int) (i : Nat), i + d = s.size → d < k →
    hash_Add.l0 k x s (s.size : Int) (i : Int) = some (hadd x ((bytes s).drop i)) := by
  intro d
  induction d with
  | zero =>
    intro k x i hi hk
    obtain ⟨k, rfl⟩ : ∃ m, k = m + 1 := ⟨k - 1, by omega⟩
    simp only [hash_Add.l0]
    rw [if_neg (by omega), List.drop_of_length_le (by rw [bytes_len]; omega)]
    rfl
  | succ d ih =>
    intro k x i hi hk
    obtain ⟨k, rfl⟩ : ∃ m, k = m + 1 := ⟨k - 1, by omega⟩
    have hlt : i < s.size := by omega
    have hl : i < (bytes s).length := by rw [bytes_len]; exact hlt
    simp only [hash_Add.l0]
    rw [if_pos (by omega), if_pos (by omega), if_pos (by omega), bt_eq s i hlt]
    have hg : (bytes s).getD i 0 = (bytes s)[i] := by rw [List.getD_eq_getElem?_getD, List.getElem?_eq_getElem hl]; rfl
    have hb := bytes_bd s (bytes s)[i] (List.getElem_mem hl)
    rw [hg, step_eq x _ hb]
    have ew : wrap64 ((i : Int) + 1) = ((i + 1 : Nat) : Int) := by unfold wrap64; omega
    rw [ew, ih k _ (i + 1) (by omega) (by omega), List.drop_eq_getElem_cons hl]
    rfl
theorem add_eq (s : ByteArray) (hz : s.size ≤ 140737488351232) (k : Nat) (h : Int) (hk : s.size < k) : hash_Add.f k h s = some (hadd h (bytes s)) := by
  unfold hash_Add.f
  have := add_loop s hz s.size k h 0 (by omega) hk
  simpa using this
def m3 (h : Int) : Int := (h * 9) % 4294967296
def m15 (h : Int) : Int := (h * 32769) % 4294967296
def he (h : Int) : Int := m15 ((xs (m3 h).toNat 2048 : Nat) : Int)
theorem end_eq (h : Int) : hash_End.f h = some (he h) := by
  unfold hash_End.f
  have e : (h + ((h * 8) % 4294967296)) % 4294967296 = m3 h := by unfold m3; omega
  rw [e]
  have x := xor32 (m3 h) 2048 (by unfold m3; omega) (by unfold m3; omega)
  have x' : Go.bits .xor .u32 (m3 h) (m3 h / 2048) = ((xs (m3 h).toNat 2048 : Nat) : Int) := x
  rw [x']
  congr 1
  unfold he m15
  generalize ((xs (m3 h).toNat 2048 : Nat) : Int) = z
  omega
theorem of_eq (s : ByteArray) (hz : s.size ≤ 140737488351232) (k : Nat) (hk : s.size < k) : hash_Of.f k s = some (he (hadd 0 (bytes s))) := by
  unfold hash_Of.f
  rw [add_eq s hz k 0 hk]
  simp only [Option.bind_some, end_eq]

theorem awake_t (k : Nat) (hk : 2 ≤ k) : rundlelaw05_awake.f k = some true := by
  unfold rundlelaw05_awake.f
  rw [of_eq _ (by decide) k (by exact Nat.lt_of_lt_of_le (by decide) hk)]
  decide +kernel

theorem xor_self_shift {a b s : Nat} (hs : 1 ≤ s) (h : xs a (2 ^ s) = xs b (2 ^ s)) : a = b := by
  unfold xs at h
  rw [← Nat.shiftRight_eq_div_pow, ← Nat.shiftRight_eq_div_pow] at h
  have h1 : a ^^^ b = (a ^^^ b) >>> s := by
    rw [Nat.shiftRight_xor_distrib]
    have e : (a ^^^ a >>> s) ^^^ (b ^^^ a >>> s) = (b ^^^ b >>> s) ^^^ (b ^^^ a >>> s) := by rw [h]
    have e1 : (a ^^^ a >>> s) ^^^ (b ^^^ a >>> s) = a ^^^ b := by
      rw [Nat.xor_comm b, Nat.xor_assoc, ← Nat.xor_assoc (a >>> s), Nat.xor_self, Nat.zero_xor]
    have e2 : (b ^^^ b >>> s) ^^^ (b ^^^ a >>> s) = b >>> s ^^^ a >>> s := by
      rw [Nat.xor_comm b (b >>> s), Nat.xor_assoc, ← Nat.xor_assoc b, Nat.xor_self, Nat.zero_xor]
    rw [e1, e2] at e
    rw [e, Nat.xor_comm]
  have h2 : a ^^^ b = 0 := by
    rcases Nat.eq_zero_or_pos (a ^^^ b) with z | z
    · exact z
    · rw [Nat.shiftRight_eq_div_pow] at h1
      have := Nat.div_lt_self z (Nat.one_lt_two_pow (by omega : s ≠ 0))
      omega
  have h3 : (a ^^^ b) ^^^ b = a := by rw [Nat.xor_assoc, Nat.xor_self, Nat.xor_zero]
  rw [h2, Nat.zero_xor] at h3
  exact h3.symm
theorem xs64 {a b : Nat} (h : xs a 64 = xs b 64) : a = b := xor_self_shift (s := 6) (by decide) h
theorem xs2048 {a b : Nat} (h : xs a 2048 = xs b 2048) : a = b := xor_self_shift (s := 11) (by decide) h
theorem m10_inj (y y' : Int) (h0 : 0 ≤ y) (h1 : y < 4294967296) (h2 : 0 ≤ y') (h3 : y' < 4294967296) (h : m10 y = m10 y') : y = y' := by
  unfold m10 at h
  omega
theorem y32_inj (x x' b : Int) (h0 : 0 ≤ x) (h1 : x < 4294967296) (h2 : 0 ≤ x') (h3 : x' < 4294967296) (h : y32 x b = y32 x' b) : x = x' := by
  unfold y32 at h
  omega
theorem y32_inj_b (x b b' : Int) (h0 : 0 ≤ b) (h1 : b < 256) (h2 : 0 ≤ b') (h3 : b' < 256) (h : y32 x b = y32 x b') : b = b' := by
  unfold y32 at h
  omega
theorem y32_bd (x b : Int) : 0 ≤ y32 x b ∧ y32 x b < 4294967296 := by unfold y32; omega
theorem m10_bd (y : Int) : 0 ≤ m10 y ∧ m10 y < 4294967296 := by unfold m10; omega
theorem m3_bd (y : Int) : 0 ≤ m3 y ∧ m3 y < 4294967296 := by unfold m3; omega
theorem m3_aux (z k : Int) (e3 : z * 9 = 4294967296 * k) : z = 4294967296 * (954437177 * k - 2 * z) := by
  have e4 : z * 9 * 954437177 = 4294967296 * k * 954437177 := by rw [e3]
  clear e3
  omega
theorem m3_inj (y y' : Int) (h0 : 0 ≤ y) (h1 : y < 4294967296) (h2 : 0 ≤ y') (h3 : y' < 4294967296) (h : m3 y = m3 y') : y = y' := by
  unfold m3 at h
  have hd := Int.dvd_of_emod_eq_zero (Int.emod_eq_emod_iff_emod_sub_eq_zero.1 h)
  clear h
  obtain ⟨k, e⟩ := hd
  have e2 := m3_aux (y - y') k (by rw [← e, Int.sub_mul])
  clear e
  generalize 954437177 * k - 2 * (y - y') = m at e2
  omega
theorem m15_inj (y y' : Int) (h0 : 0 ≤ y) (h1 : y < 4294967296) (h2 : 0 ≤ y') (h3 : y' < 4294967296) (h : m15 y = m15 y') : y = y' := by
  unfold m15 at h
  omega
theorem nat_of (a b : Int) (h0 : 0 ≤ a) (h1 : 0 ≤ b) (h : a.toNat = b.toNat) : a = b := by omega
theorem hs_inj (x x' b : Int) (h0 : 0 ≤ x) (h1 : x < 4294967296) (h2 : 0 ≤ x') (h3 : x' < 4294967296) (h : hs x b = hs x' b) : x = x' := by
  unfold hs at h
  have e := nat_of _ _ (m10_bd _).1 (m10_bd _).1 (xs64 (Int.ofNat.inj h))
  exact y32_inj x x' b h0 h1 h2 h3 (m10_inj _ _ (y32_bd _ _).1 (y32_bd _ _).2 (y32_bd _ _).1 (y32_bd _ _).2 e)
theorem hs_inj_b (x b b' : Int) (h0 : 0 ≤ b) (h1 : b < 256) (h2 : 0 ≤ b') (h3 : b' < 256) (h : hs x b = hs x b') : b = b' := by
  unfold hs at h
  have e := nat_of _ _ (m10_bd _).1 (m10_bd _).1 (xs64 (Int.ofNat.inj h))
  exact y32_inj_b x b b' h0 h1 h2 h3 (m10_inj _ _ (y32_bd _ _).1 (y32_bd _ _).2 (y32_bd _ _).1 (y32_bd _ _).2 e)
theorem he_inj (x x' : Int) (h0 : 0 ≤ x) (h1 : x < 4294967296) (h2 : 0 ≤ x') (h3 : x' < 4294967296) (h : he x = he x') : x = x' := by
  unfold he at h
  have l1 := xs_lt (m3 x).toNat 2048 (by have := m3_bd x; omega)
  have l2 := xs_lt (m3 x').toNat 2048 (by have := m3_bd x'; omega)
  have e0 := m15_inj _ _ (by omega) (by omega) (by omega) (by omega) h
  have e := nat_of _ _ (m3_bd _).1 (m3_bd _).1 (xs2048 (Int.ofNat.inj e0))
  exact m3_inj x x' h0 h1 h2 h3 e
theorem hadd_bd (l : List Int) : ∀ h : Int, 0 ≤ h → h < 4294967296 → 0 ≤ hadd h l ∧ hadd h l < 4294967296 := by
  induction l with
  | nil => intro h h0 h1; exact ⟨h0, h1⟩
  | cons b l ih => intro h _ _; exact ih _ (hs_bd h b).1 (hs_bd h b).2
theorem hadd_inj (l : List Int) : ∀ h h' : Int, 0 ≤ h → h < 4294967296 → 0 ≤ h' → h' < 4294967296 → hadd h l = hadd h' l → h = h' := by
  induction l with
  | nil => intro h h' _ _ _ _ e; exact e
  | cons b l ih =>
    intro h h' h0 h1 h2 h3 e
    exact hs_inj h h' b h0 h1 h2 h3 (ih _ _ (hs_bd h b).1 (hs_bd h b).2 (hs_bd h' b).1 (hs_bd h' b).2 e)

open Go.Proofs.Ytnnkckijpikhlaa.HashOneW (nums nums_len)
theorem xor8 (x b : Int) (h0 : 0 ≤ x) (h1 : x < 256) (h2 : 0 ≤ b) (h3 : b < 256) : Go.bits .xor .u8 x b = ((x.toNat ^^^ b.toNat : Nat) : Int) := by
  exact u8_xor x b h0 h1 h2 h3
theorem xor_eq_self (n m : Nat) : (n ^^^ m = n) ↔ m = 0 := by
  constructor
  · intro h
    have := congrArg (fun t => n ^^^ t) h
    simpa [← Nat.xor_assoc] using this
  · rintro rfl
    simp
theorem bytes_nums (s : ByteArray) : bytes s = nums s := rfl
theorem bytes_of (l : List Int) (h : ∀ x ∈ l, 0 ≤ x ∧ x < 256) : bytes (strOfNums l) = l := by
  unfold bytes
  rw [strOfNums_data, List.map_map]
  conv => rhs; rw [← List.map_id l]
  apply List.map_congr_left
  intro x hx
  have := h x hx
  simp
  omega
theorem set_split (l : List Int) (j : Nat) (h : j < l.length) (v : Int) : l.set j v = l.take j ++ v :: l.drop (j + 1) := List.set_eq_take_append_cons_drop ..|>.trans (by rw [if_pos h])
theorem hadd_set (l : List Int) (hl : ∀ x ∈ l, 0 ≤ x ∧ x < 256) (j : Nat) (h : j < l.length) (v : Int) (v0 : 0 ≤ v) (v1 : v < 256) :
    hadd 0 (l.set j v) = hadd 0 l ↔ v = l.getD j 0 := by
  have e : l.getD j 0 = l[j] := by simp [List.getD_eq_getElem?_getD, h]
  have e2 : l = l.set j l[j] := by simp
  have hb := hl l[j] (List.getElem_mem h)
  rw [e]
  constructor
  · intro k
    rw [e2] at k
    simp only [List.set_set, List.getElem_set_self] at k
    rw [set_split l j h v, set_split l j h l[j]] at k
    unfold hadd at k
    rw [List.foldl_append, List.foldl_append, List.foldl_cons, List.foldl_cons] at k
    have b1 := hs_bd ((l.take j).foldl hs 0) v
    have b2 := hs_bd ((l.take j).foldl hs 0) l[j]
    have k2 := hadd_inj (l.drop (j + 1)) _ _ b1.1 b1.2 b2.1 b2.2 k
    exact hs_inj_b _ v l[j] v0 v1 hb.1 hb.2 k2
  · rintro rfl
    rw [← e2]
theorem HashOne (s : ByteArray) (a b : Int) (h1 : 0 < s.size) (h2 : s.size ≤ 300) (b0 : 0 ≤ b) (b1 : b < 256) : ∃ k r0 r1, rundlelaw05_awake.f k = some true ∧
    hash_Of.f k (strOfNums ((nums s).set (a % (s.size : Int)).toNat (Go.bits .xor .u8 ((nums s).getD (a % (s.size : Int)).toNat 0) b))) = some r0 ∧ hash_Of.f k s = some r1 ∧ ((r0 == r1) == (b == 0)) = true := by
  have hj : (a % (s.size : Int)).toNat < s.size := by
    have := Int.emod_lt_of_pos a (b := (s.size : Int)) (by omega)
    have := Int.emod_nonneg a (b := (s.size : Int)) (by omega)
    omega
  generalize (a % (s.size : Int)).toNat = j at *
  have hjl : j < (nums s).length := by rw [nums_len]; exact hj
  have hall : ∀ x ∈ nums s, 0 ≤ x ∧ x < 256 := bytes_bd s
  have hx := hall ((nums s).getD j 0) (by
    rw [List.getD_eq_getElem?_getD, List.getElem?_eq_getElem hjl]
    exact List.getElem_mem hjl)
  generalize hxx : (nums s).getD j 0 = x at *
  have hv : Go.bits .xor .u8 x b = ((x.toNat ^^^ b.toNat : Nat) : Int) := xor8 x b hx.1 hx.2 b0 b1
  have hv2 : x.toNat ^^^ b.toNat < 2 ^ 8 := Nat.xor_lt_two_pow (by omega) (by omega)
  rw [hv]
  generalize hvv : ((x.toNat ^^^ b.toNat : Nat) : Int) = v
  have v0 : 0 ≤ v := by omega
  have v1 : v < 256 := by omega
  have hall2 : ∀ y ∈ (nums s).set j v, 0 ≤ y ∧ y < 256 := by
    intro y hy
    rcases List.mem_or_eq_of_mem_set hy with h | h
    · exact hall y h
    · subst h; exact ⟨v0, v1⟩
  have hsz : (strOfNums ((nums s).set j v)).size = s.size := by rw [strOfNums_size, List.length_set, nums_len]
  refine ⟨s.size + 2, _, _, awake_t _ (by omega), of_eq _ (by omega) _ (by omega), of_eq _ (by omega) _ (by omega), ?_⟩
  rw [bytes_of _ hall2, bytes_nums]
  have q0 := hadd_bd ((nums s).set j v) 0 (by omega) (by omega)
  have q1 := hadd_bd (nums s) 0 (by omega) (by omega)
  have key : (he (hadd 0 ((nums s).set j v)) = he (hadd 0 (nums s))) ↔ b = 0 := by
    constructor
    · intro h
      have h3 := he_inj _ _ q0.1 q0.2 q1.1 q1.2 h
      have h4 := (hadd_set (nums s) hall j hjl v v0 v1).1 h3
      rw [hxx, ← hvv] at h4
      have h5 : x.toNat ^^^ b.toNat = x.toNat := by omega
      have h6 := (xor_eq_self _ _).1 h5
      omega
    · rintro rfl
      have h5 : v = x := by
        rw [← hvv]
        simp
        omega
      rw [(hadd_set (nums s) hall j hjl v v0 v1).2 (by rw [hxx]; exact h5)]
  rw [beq_iff_eq, Bool.eq_iff_iff, beq_iff_eq, beq_iff_eq]
  exact key
theorem HashOne_walk (s : ByteArray) (a b : Int) (w : World) (a0 : 0 ≤ a) (a1 : a < 65536) (b0 : 0 ≤ b) (b1 : b < 256) :
    Calls Try.prog 10 #[.string s, .int .u16 a, .int .u8 b] w fun e w' => e = .returned (.bool true) ∧ Below w.heap.size w w' := by
  by_cases c : s.size = 0
  · exact HashOneW.empty 2 s a b w (awake_t 2 (by omega)) c
  · by_cases c2 : (s.size : Int) > 300
    · exact HashOneW.long 2 s a b w (awake_t 2 (by omega)) c2
    · obtain ⟨k, r0, r1, ha, f0, f1, h⟩ := HashOne s a b (by omega) (by omega) b0 b1
      have := HashOneW.main k s a b r0 r1 w ha (by omega) (by omega) a0 a1 f0 f1
      rw [h] at this
      exact this

end Go.Proofs.Ytnnkckijpikhlaa.Pure
