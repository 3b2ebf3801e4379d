/- What the functions of chapter 8 compute that split a revision and join it again: plain lemmas. -/
import Derived.Test.YtoaacdjcjicemaaPRevBackx8a
import Derived.Test.YtoaacdjcjicemaaPRevBackx9
import Derived.Test.YtoaacdjcjicemaaPRevBackx13
import Derived.Test.YtoaacdjcjicemaaPRevBackx12
import Derived.Test.YtoaacdjcjicemaaPRevBackx15
import Derived.Lib.Strings
import Derived.Laws.BitsLemmas
import Derived.Lib.Strings
import Derived.Laws.BitsAllLaws
namespace Go.Proofs.Ytoaacdjcjicemaa.Pure
open Go.RowKit Go.Proofs.Ytoaacdjcjicemaa.PRevBack Go.Proofs.YtoaacdjcjicemaaW.PrintWords Go.Proofs.YtoaacdjcjicemaaW.PrintLast Go.Proofs.YtoaacdjcjicemaaW.PrintMore
set_option linter.unusedVariables false
set_option linter.unusedSimpArgs false

/-- one byte more -/
def y32 (x b : Int) : Int := (x + b) % 4294967296
def m10 (y : Int) : Int := (y * 1025) % 4294967296
def xs (t s : Nat) : Nat := t ^^^ (t / s)
def hs (x b : Int) : Int := ((xs (m10 (y32 x b)).toNat 64 : Nat) : Int)
def bytes (s : ByteArray) : List Int := s.data.toList.map fun c => (c.toNat : Int)
def hadd (h : Int) (l : List Int) : Int := l.foldl hs h
theorem xor32 (t : Int) (s : Nat) (h0 : 0 ≤ t) (h1 : t < 4294967296) : Go.bits .xor .u32 t (t / (s : Int)) = ((xs t.toNat s : Nat) : Int) := by
  obtain ⟨n, rfl⟩ := Int.eq_ofNat_of_zero_le h0
  have e : ((n : Int) / (s : Int)) = ((n / s : Nat) : Int) := by simp
  have hn : n < 4294967296 := by omega
  have hd : n / s ≤ n := Nat.div_le_self n s
  rw [e, u32_xor_nat n (n / s) hn (by omega)]
  rfl
theorem bt_eq (s : ByteArray) (i : Nat) (h : i < s.size) : bt s (i : Int) = (bytes s).getD i 0 := by
  have h2 : i < s.data.toList.length := by simpa using h
  unfold bt bytes
  rw [dif_pos (by simpa using h), List.getD_eq_getElem?_getD, List.getElem?_map, List.getElem?_eq_getElem h2]
  simp [ByteArray.getElem_eq_getElem_data]
theorem bytes_len (s : ByteArray) : (bytes s).length = s.size := by simp [bytes]
theorem bytes_bd (s : ByteArray) : ∀ b ∈ bytes s, 0 ≤ b ∧ b < 256 := by
  intro b hb
  unfold bytes at hb
  obtain ⟨c, _, rfl⟩ := List.mem_map.1 hb
  have := c.toNat_lt
  omega
theorem step_eq (x b : Int) (hb : 0 ≤ b ∧ b < 256) :
    Go.bits .xor .u32 ((((x + (b % 4294967296)) % 4294967296) + ((((x + (b % 4294967296)) % 4294967296) * 1024) % 4294967296)) % 4294967296) (((((x + (b % 4294967296)) % 4294967296) + ((((x + (b % 4294967296)) % 4294967296) * 1024) % 4294967296)) % 4294967296) / 64) = hs x b := by
  have e0 : b % 4294967296 = b := by omega
  rw [e0]
  have e : (((x + b) % 4294967296) + ((((x + b) % 4294967296) * 1024) % 4294967296)) % 4294967296 = m10 (y32 x b) := by
    unfold m10 y32; omega
  rw [e]
  exact xor32 _ 64 (by unfold m10; omega) (by unfold m10; omega)
theorem add_loop (s : ByteArray) (hz : s.size ≤ 140737488351232) : ∀ (d k : Nat) (x : Int) (i : Nat), i + d = s.size → d < k →
    hash_Add.l0 k x s (s.size : Int) (i : Int) = some (hadd x ((bytes s).drop i)) := by
  intro d
  induction d with
  | zero =>
    intro k x i hi hk
    obtain ⟨k, rfl⟩ : ∃ m, k = m + 1 := ⟨k - 1, by omega⟩
    simp only [hash_Add.l0]
    rw [if_neg (by omega), List.drop_of_length_le (by rw [bytes_len]; omega)]
    rfl
  | succ d ih =>
    intro k x i hi hk
    obtain ⟨k, rfl⟩ : ∃ m, k = m + 1 := ⟨k - 1, by omega⟩
    have hlt : i < s.size := by omega
    have hl : i < (bytes s).length := by rw [bytes_len]; exact hlt
    simp only [hash_Add.l0]
    rw [if_pos (by omega), if_pos (by omega), if_pos (by omega), bt_eq s i hlt]
    have hg : (bytes s).getD i 0 = (bytes s)[i] := by rw [List.getD_eq_getElem?_getD, List.getElem?_eq_getElem hl]; rfl
    have hb := bytes_bd s (bytes s)[i] (List.getElem_mem hl)
    rw [hg, step_eq x _ hb]
    have ew : wrap64 ((i : Int) + 1) = ((i + 1 : Nat) : Int) := by unfold wrap64; omega
    rw [ew, ih k _ (i + 1) (by omega) (by omega), List.drop_eq_getElem_cons hl]
    rfl
theorem add_eq (s : ByteArray) (hz : s.size ≤ 140737488351232) (k : Nat) (h : Int) (hk : s.size < k) : hash_Add.f k h s = some (hadd h (bytes s)) := by
  unfold hash_Add.f
  have := add_loop s hz s.size k h 0 (by omega) hk
  simpa using this
def m3 (h : Int) : Int := (h * 9) % 4294967296
def m15 (h : Int) : Int := (h * 32769) % 4294967296
def he (h : Int) : Int := m15 ((xs (m3 h).toNat 2048 : Nat) : Int)
theorem end_eq (h : Int) : hash_End.f h = some (he h) := by
  unfold hash_End.f
  have e : (h + ((h * 8) % 4294967296)) % 4294967296 = m3 h := by unfold m3; omega
  rw [e]
  have x := xor32 (m3 h) 2048 (by unfold m3; omega) (by unfold m3; omega)
  have x' : Go.bits .xor .u32 (m3 h) (m3 h / 2048) = ((xs (m3 h).toNat 2048 : Nat) : Int) := x
  rw [x']
  congr 1
  unfold he m15
  generalize ((xs (m3 h).toNat 2048 : Nat) : Int) = z
  omega
theorem of_eq (s : ByteArray) (hz : s.size ≤ 140737488351232) (k : Nat) (hk : s.size < k) : hash_Of.f k s = some (he (hadd 0 (bytes s))) := by
  unfold hash_Of.f
  rw [add_eq s hz k 0 hk]
  simp only [Option.bind_some, end_eq]
/-! sizes of tables -/
theorem pow_s (j : Nat) : (2 : Int) ^ (j + 1) = 2 * 2 ^ j := by rw [Int.pow_succ]; omega
theorem pow_pos' (j : Nat) : (1 : Int) ≤ 2 ^ j := by
  induction j with
  | zero => decide
  | succ j ih => rw [pow_s]; omega
theorem pow_mono' {i j : Nat} (h : i ≤ j) : (2 : Int) ^ i ≤ 2 ^ j := by
  induction h with
  | refl => exact Int.le_refl _
  | step _ ih => rw [pow_s]; have := pow_pos' i; omega
/-- 2^j is the least that is enough for n. -/
def Least (n : Int) (j : Nat) : Prop := n ≤ 2 ^ j ∧ (j = 0 ∨ 2 ^ (j - 1) < n)
theorem least_some (n : Int) : ∀ d, n ≤ 2 ^ d → ∃ j, j ≤ d ∧ Least n j
  | 0, h => ⟨0, Nat.le_refl _, h, Or.inl rfl⟩
  | d + 1, h => by
    by_cases c : n ≤ 2 ^ d
    · obtain ⟨j, hj, hl⟩ := least_some n d c
      exact ⟨j, by omega, hl⟩
    · exact ⟨d + 1, Nat.le_refl _, h, Or.inr (by rw [Nat.add_sub_cancel]; omega)⟩
theorem psize_loop (n : Int) (j : Nat) (hj : j ≤ 41) (hl : Least n j) : ∀ d i, i + d = j → Ev (fun k => probe_Size.l0 k n (2 * 2 ^ i)) (2 * 2 ^ j) := by
  intro d
  induction d with
  | zero =>
    intro i hi
    obtain rfl : i = j := by omega
    refine Ev.step (f := fun _ => some (2 * 2 ^ i)) (fun k => ?_) (Ev.now _)
    simp only [probe_Size.l0]
    have h1 := hl.1
    have p := pow_pos' i
    have q := pow_mono' (i := i) (j := 41) hj
    have e : wrap64 (Int.tdiv (2 * 2 ^ i) 2) = 2 ^ i := by
      rw [Int.tdiv_eq_ediv_of_nonneg (by omega)]
      unfold wrap64
      omega
    rw [e, if_neg (by omega)]
  | succ d ih =>
    intro i hi
    refine Ev.step (f := fun k => probe_Size.l0 k n (2 * 2 ^ (i + 1))) (fun k => ?_) (ih (i + 1) (by omega))
    simp only [probe_Size.l0]
    have p := pow_pos' i
    have q := pow_mono' (i := i) (j := 40) (by omega)
    have e : wrap64 (Int.tdiv (2 * 2 ^ i) 2) = 2 ^ i := by
      rw [Int.tdiv_eq_ediv_of_nonneg (by omega)]
      unfold wrap64
      omega
    have h2 : (2 : Int) ^ i < n := by
      rcases hl.2 with e | e
      · omega
      · have := pow_mono' (i := i) (j := j - 1) (by omega); omega
    have e2 : wrap64 (2 * 2 ^ i * 2) = 2 * 2 ^ (i + 1) := by
      rw [pow_s]
      unfold wrap64
      omega
    rw [e, if_pos h2, e2]
theorem psize (n : Int) (j : Nat) (hj : j ≤ 41) (hl : Least n j) : Ev (fun k => probe_Size.f k n) (2 * 2 ^ j) := by
  have := psize_loop n j hj hl j 0 (by omega)
  exact this
/-- masks by a table's size -/
theorem wraps_i64 (n : Int) (h₀ : 0 ≤ n) (h₁ : n < 2 ^ 63) : IntKind.i64.wrap n = n := by rw [IntKind.wrap_i64]; omega
theorem mask (x : Int) (j : Nat) (hj : j ≤ 41) (h0 : 0 ≤ x) (h1 : x < 9223372036854775808) : Go.bits .and .i64 x (wrap64 (2 * 2 ^ j - 1)) = x % (2 * 2 ^ j) := by
  have p := pow_pos' j
  have q := pow_mono' (i := j) (j := 41) hj
  have e : wrap64 (2 * 2 ^ j - 1) = 2 ^ (j + 1) - 1 := by
    rw [pow_s]
    unfold wrap64
    omega
  rw [e, ← pow_s]
  exact bits_mask .i64 63 (by decide) wraps_i64 (j + 1) (by omega) x h0 (by omega)
def hsh (k : ByteArray) : Int := he (hadd 0 (bytes k))
theorem hsh_bd (k : ByteArray) : 0 ≤ hsh k ∧ hsh k < 4294967296 := by unfold hsh he m15; omega
theorem ev_of (k : ByteArray) (hz : k.size ≤ 140737488351232) : Ev (fun n => hash_Of.f n k) (hsh k) := ⟨k.size + 1, fun n hn => of_eq k hz n (by omega)⟩
theorem ev_first (k : ByteArray) (hz : k.size ≤ 140737488351232) (j : Nat) (hj : j ≤ 41) : Ev (fun n => probe_first.f n (2 * 2 ^ j) k) (hsh k % (2 * 2 ^ j)) := by
  unfold probe_first.f
  refine Ev.bind (ev_of k hz) ?_
  have b := hsh_bd k
  have e : wrap64 (hsh k) = hsh k := by unfold wrap64; omega
  rw [e, mask _ j hj b.1 (by omega)]
  exact Ev.now _
/-- the place of the i-th look -/
theorem next_at (N a : Int) (hN : 0 < N) : (a % N + 1) % N = (a + 1) % N := by
  rw [Int.add_emod, Int.emod_emod_of_dvd _ (Int.dvd_refl N), ← Int.add_emod]
theorem emod_bd (N a : Int) (hN : 0 < N) : 0 ≤ a % N ∧ a % N < N := ⟨Int.emod_nonneg _ (by omega), Int.emod_lt_of_pos _ hN⟩
/-! looking for a key -/
def slot (t : List Int) (h : Int) (i : Nat) : Int := rd t ((h + i) % (t.length : Int))
def hits (keys : List ByteArray) (k : ByteArray) (v : Int) : Prop := v > 0 ∧ v ≤ (keys.length : Int) ∧ (rdOf ByteArray.empty keys (v - 1)).toList = k.toList
instance (keys : List ByteArray) (k : ByteArray) (v : Int) : Decidable (hits keys k v) := inferInstanceAs (Decidable (_ ∧ _ ∧ _))
def look (t : List Int) (keys : List ByteArray) (k : ByteArray) : Nat → Nat → Int × Int
  | 0, _ => (-1, (t.length : Int))
  | d + 1, i => if slot t (hsh k) i = 0 then (-1, (i : Int) + 1) else if hits keys k (slot t (hsh k) i) then (slot t (hsh k) i - 1, (i : Int) + 1) else look t keys k d (i + 1)
theorem len_bd (t : List Int) (j : Nat) (hj : j ≤ 41) (ht : (t.length : Int) = 2 * 2 ^ j) : 0 < (t.length : Int) ∧ (t.length : Int) ≤ 4398046511104 := by
  have p := pow_pos' j
  have q := pow_mono' (i := j) (j := 41) hj
  have e : (2 : Int) ^ 41 = 2199023255552 := by decide
  omega
theorem inc_at (a N : Int) (h0 : 0 ≤ a) (h1 : a < N) (h2 : N ≤ 4398046511104) : wrap64 (a + 1) = a + 1 ∧ 0 ≤ a + 1 ∧ a + 1 < 9223372036854775808 := by
  unfold wrap64
  omega
theorem nxt (t : List Int) (j : Nat) (hj : j ≤ 41) (ht : (t.length : Int) = 2 * 2 ^ j) (h : Int) (i : Nat) :
    Go.bits .and .i64 (wrap64 ((h + (i : Int)) % (t.length : Int) + 1)) (wrap64 ((t.length : Int) - 1)) = (h + ((i + 1 : Nat) : Int)) % (t.length : Int) := by
  have hN := len_bd t j hj ht
  have b := emod_bd (t.length : Int) (h + i) hN.1
  obtain ⟨e1, e2, e3⟩ := inc_at _ _ b.1 b.2 hN.2
  have e9 : h + (i : Int) + 1 = h + ((i + 1 : Nat) : Int) := by omega
  rw [e1, ht, mask _ j hj (by rw [← ht]; exact e2) (by rw [← ht]; exact e3), ← ht, next_at _ _ hN.1, e9]
theorem hits_wrap (keys : List ByteArray) (v : Int) (h1 : v > 0) (h2 : v ≤ (keys.length : Int)) (hk : (keys.length : Int) ≤ 9223372036854775807) : wrap64 (v - 1) = v - 1 ∧ 0 ≤ v - 1 ∧ v - 1 < (keys.length : Int) := by
  unfold wrap64
  omega
theorem find_loop (t : List Int) (keys : List ByteArray) (k : ByteArray) (j : Nat) (hj : j ≤ 41) (ht : (t.length : Int) = 2 * 2 ^ j) (hk : (keys.length : Int) ≤ 9223372036854775807) :
    ∀ d i, i + d = t.length → Ev (fun n => probe_Find.l0 n t keys k ((hsh k + (i : Int)) % (t.length : Int)) ((i : Int) + 1)) (look t keys k d i) := by
  have hN := len_bd t j hj ht
  intro d
  induction d with
  | zero =>
    intro i hi
    refine Ev.step (f := fun _ => some (-1, (t.length : Int))) (fun n => ?_) (Ev.now _)
    simp only [probe_Find.l0]
    rw [if_neg (by omega)]
  | succ d ih =>
    intro i hi
    have hi1 : (i : Int) + 1 ≤ (t.length : Int) := by omega
    have e3 : wrap64 ((i : Int) + 1 + 1) = ((i + 1 : Nat) : Int) + 1 := by unfold wrap64; omega
    have b := emod_bd (t.length : Int) (hsh k + i) hN.1
    have go : Ev (fun n => probe_Find.l0 n t keys k (Go.bits .and .i64 (wrap64 ((hsh k + (i : Int)) % (t.length : Int) + 1)) (wrap64 ((t.length : Int) - 1))) (wrap64 ((i : Int) + 1 + 1))) (look t keys k d (i + 1)) := by
      rw [nxt t j hj ht, e3]
      exact ih (i + 1) (by omega)
    have es : rd t ((hsh k + (i : Int)) % (t.length : Int)) = slot t (hsh k) i := rfl
    clear ih hi
    unfold look
    by_cases c0 : slot t (hsh k) i = 0
    · rw [if_pos c0]
      refine Ev.step (f := fun _ => some (-1, (i : Int) + 1)) (fun n => ?_) (Ev.now _)
      simp only [probe_Find.l0]
      rw [if_pos hi1, if_pos b.1, if_pos b.2, es, if_pos c0]
    · rw [if_neg c0]
      by_cases c1 : hits keys k (slot t (hsh k) i)
      · rw [if_pos c1]
        obtain ⟨h1, h2, h3⟩ := c1
        obtain ⟨ew, e4, e5⟩ := hits_wrap keys _ h1 h2 hk
        refine Ev.step (f := fun _ => some (slot t (hsh k) i - 1, (i : Int) + 1)) (fun n => ?_) (Ev.now _)
        simp only [probe_Find.l0]
        rw [if_pos hi1, if_pos b.1, if_pos b.2, es, if_neg c0, if_pos h1, if_pos h2, ew, if_pos e4, if_pos e5, if_pos h3]
      · rw [if_neg c1]
        refine Ev.step (fun n => ?_) go
        simp only [probe_Find.l0]
        rw [if_pos hi1, if_pos b.1, if_pos b.2, es, if_neg c0]
        by_cases h1 : slot t (hsh k) i > 0
        · rw [if_pos h1]
          by_cases h2 : slot t (hsh k) i ≤ (keys.length : Int)
          · obtain ⟨ew, e4, e5⟩ := hits_wrap keys _ h1 h2 hk
            rw [if_pos h2, ew, if_pos e4, if_pos e5, if_neg (fun h3 => c1 ⟨h1, h2, h3⟩)]
          · rw [if_neg h2]
        · rw [if_neg h1]
theorem ev_find (t : List Int) (keys : List ByteArray) (k : ByteArray) (j : Nat) (hj : j ≤ 41) (hl : Least (keys.length : Int) j) (hz : k.size ≤ 140737488351232) (hk : (keys.length : Int) ≤ 9223372036854775807) :
    Ev (fun n => probe_Find.f n t keys k) (if (t.length : Int) = 2 * 2 ^ j then look t keys k t.length 0 else (-1, 0)) := by
  unfold probe_Find.f
  refine Ev.bind (psize _ j hj hl) ?_
  by_cases c : (t.length : Int) = 2 * 2 ^ j
  · simp only [if_pos c]
    have f := find_loop t keys k j hj c hk t.length 0 (by omega)
    rw [c] at f
    have g := Ev.bind (ev_first k hz j hj) (f := fun n a => probe_Find.l0 n t keys k a 1) (by simpa using f)
    rw [← c] at g
    exact g
  · simp only [if_neg c]
    exact Ev.now _
/-! making a table -/
def nz (t : List Int) : Nat := t.countP (· ≠ 0)
theorem rd_nat (t : List Int) (i : Nat) : rd t (i : Int) = t.getD i 0 := by simp [rd]
theorem rd_of (t : List Int) (a : Int) (h0 : 0 ≤ a) (h1 : a < (t.length : Int)) : ∃ h : a.toNat < t.length, rd t a = t[a.toNat] := by
  have h : a.toNat < t.length := by omega
  refine ⟨h, ?_⟩
  unfold rd
  rw [List.getD_eq_getElem?_getD, List.getElem?_eq_getElem h]
  rfl
theorem rd_set (t : List Int) (a b v : Int) (h0 : 0 ≤ a) (h1 : a < (t.length : Int)) (h2 : 0 ≤ b) : rd (t.set a.toNat v) b = if a = b then v else rd t b := by
  unfold rd
  rw [List.getD_eq_getElem?_getD, List.getD_eq_getElem?_getD, List.getElem?_set]
  by_cases c : a = b
  · subst c
    rw [if_pos rfl, if_pos (by omega), if_pos rfl]
    rfl
  · rw [if_neg (by omega), if_neg c]
theorem nz_set (t : List Int) (a v : Int) (h0 : 0 ≤ a) (h1 : a < (t.length : Int)) (hz : rd t a = 0) (hv : v ≠ 0) : nz (t.set a.toNat v) = nz t + 1 := by
  obtain ⟨h, e⟩ := rd_of t a h0 h1
  rw [e] at hz
  unfold nz
  rw [List.countP_set h, hz]
  simp [hv]
theorem all_full (t : List Int) (h : ∀ a : Int, 0 ≤ a → a < (t.length : Int) → rd t a ≠ 0) : nz t = t.length := by
  unfold nz
  rw [List.countP_eq_length]
  intro x hx
  obtain ⟨i, hi, rfl⟩ := List.mem_iff_getElem.1 hx
  have := h (i : Int) (by omega) (by omega)
  rw [rd_nat, List.getD_eq_getElem?_getD, List.getElem?_eq_getElem hi] at this
  simpa using this
theorem least_of (p : Nat → Prop) (n : Nat) : p n → ∃ m, m ≤ n ∧ p m ∧ ∀ i, i < m → ¬ p i := by
  induction n using Nat.strongRecOn with
  | ind n ih =>
    intro h
    by_cases c : ∃ i, i < n ∧ p i
    · obtain ⟨i, hi, hp⟩ := c
      obtain ⟨m, hm, h1, h2⟩ := ih i hi hp
      exact ⟨m, by omega, h1, h2⟩
    · exact ⟨n, Nat.le_refl _, h, fun i hi hp => c ⟨i, hi, hp⟩⟩
theorem slot_at (t : List Int) (h a : Int) (h0 : 0 ≤ a) (h1 : a < (t.length : Int)) : ∃ i : Nat, i < t.length ∧ (h + (i : Int)) % (t.length : Int) = a := by
  have b := emod_bd (t.length : Int) (a - h) (by omega)
  refine ⟨((a - h) % (t.length : Int)).toNat, by omega, ?_⟩
  have e : ((((a - h) % (t.length : Int)).toNat : Nat) : Int) = (a - h) % (t.length : Int) := by omega
  rw [e, Int.add_emod, Int.emod_emod_of_dvd _ (Int.dvd_refl _), ← Int.add_emod]
  have e2 : h + (a - h) = a := by omega
  rw [e2]
  exact Int.emod_eq_of_lt h0 h1
theorem free_slot (t : List Int) (h : Int) (hz : nz t < t.length) : ∃ q, q < t.length ∧ slot t h q = 0 ∧ ∀ p, p < q → slot t h p ≠ 0 := by
  have c : ∃ a : Int, 0 ≤ a ∧ a < (t.length : Int) ∧ rd t a = 0 := by
    apply Classical.byContradiction
    intro n
    have := all_full t (fun a h0 h1 e => n ⟨a, h0, h1, e⟩)
    omega
  obtain ⟨a, h0, h1, e⟩ := c
  obtain ⟨i, hi, ei⟩ := slot_at t h a h0 h1
  obtain ⟨m, hm, h2, h3⟩ := least_of (fun i => slot t h i = 0) i (by unfold slot; rw [ei]; exact e)
  exact ⟨m, by omega, h2, h3⟩
/-- what a table is when so many keys are in it -/
structure Inv (keys : List ByteArray) (i : Nat) (t : List Int) : Prop where
  full : nz t = i
  low : ∀ a : Int, 0 ≤ a → a < (t.length : Int) → 0 ≤ rd t a ∧ rd t a ≤ (i : Int)
  has : ∀ m : Nat, m < i → ∃ q, q < t.length ∧ slot t (hsh (rdOf ByteArray.empty keys m)) q = (m : Int) + 1 ∧ ∀ p, p < q → 1 ≤ slot t (hsh (rdOf ByteArray.empty keys m)) p ∧ slot t (hsh (rdOf ByteArray.empty keys m)) p ≤ (m : Int)
theorem rd_rep (n : Nat) (a : Int) : rd (List.replicate n 0) a = 0 := by
  unfold rd
  rw [List.getD_eq_getElem?_getD, List.getElem?_replicate]
  split <;> rfl
theorem inv_nil (keys : List ByteArray) (n : Nat) : Inv keys 0 (List.replicate n 0) := by
  refine ⟨?_, fun a _ _ => ?_, fun m hm => by omega⟩
  · unfold nz
    rw [List.countP_replicate]
    simp
  · rw [rd_rep]; omega
theorem inv_step (keys : List ByteArray) (i q : Nat) (t : List Int) (I : Inv keys i t) (hq : q < t.length) (h0 : slot t (hsh (rdOf ByteArray.empty keys i)) q = 0) (h1 : ∀ p, p < q → slot t (hsh (rdOf ByteArray.empty keys i)) p ≠ 0) :
    Inv keys (i + 1) (t.set ((hsh (rdOf ByteArray.empty keys i) + (q : Int)) % (t.length : Int)).toNat ((i : Int) + 1)) := by
  have hN : 0 < (t.length : Int) := by omega
  have b := emod_bd (t.length : Int) (hsh (rdOf ByteArray.empty keys i) + (q : Int)) hN
  have za : rd t ((hsh (rdOf ByteArray.empty keys i) + (q : Int)) % (t.length : Int)) = 0 := h0
  have same : ∀ (g : Int) (p : Nat), slot t g p ≠ 0 → slot (t.set ((hsh (rdOf ByteArray.empty keys i) + (q : Int)) % (t.length : Int)).toNat ((i : Int) + 1)) g p = slot t g p := by
    intro g p hp
    unfold slot
    rw [List.length_set, rd_set t _ _ _ b.1 b.2 (emod_bd _ _ hN).1]
    rw [if_neg]
    intro e
    apply hp
    unfold slot
    rw [← e]
    exact za
  refine ⟨?_, ?_, ?_⟩
  · rw [nz_set t _ _ b.1 b.2 za (by omega), I.full]
  · intro a ha0 ha1
    rw [List.length_set] at ha1
    rw [rd_set t _ _ _ b.1 b.2 ha0]
    have := I.low a ha0 ha1
    split <;> omega
  · intro m hm
    rw [List.length_set]
    by_cases c : m = i
    · subst c
      refine ⟨q, hq, ?_, ?_⟩
      · unfold slot
        rw [List.length_set, rd_set t _ _ _ b.1 b.2 b.1, if_pos rfl]
      · intro p hp
        have hz := h1 p hp
        rw [same _ p hz]
        have := I.low ((hsh (rdOf ByteArray.empty keys m) + (p : Int)) % (t.length : Int)) (emod_bd _ _ hN).1 (emod_bd _ _ hN).2
        unfold slot at hz ⊢
        omega
    · obtain ⟨q', hq', e1, e2⟩ := I.has m (by omega)
      refine ⟨q', hq', ?_, ?_⟩
      · rw [same _ q' (by omega)]; exact e1
      · intro p hp
        have := e2 p hp
        rw [same _ p (by omega)]
        exact this
theorem build_step (keys : List ByteArray) (i q j : Nat) (t T : List Int) (hj : j ≤ 41) (ht : (t.length : Int) = 2 * 2 ^ j) (hi : i < keys.length) (hlen : (keys.length : Int) ≤ 9223372036854775807) (hz : (rdOf ByteArray.empty keys (i : Int)).size ≤ 140737488351232)
    (hq : q < t.length) (h0 : slot t (hsh (rdOf ByteArray.empty keys i)) q = 0) (h1 : ∀ p, p < q → slot t (hsh (rdOf ByteArray.empty keys i)) p ≠ 0)
    (K : Ev (fun n => probe_Build.l0 n (t.set ((hsh (rdOf ByteArray.empty keys i) + (q : Int)) % (t.length : Int)).toNat ((i : Int) + 1)) keys (keys.length : Int) ((i : Int) + 1)) T) :
    Ev (fun n => probe_Build.l0 n t keys (keys.length : Int) (i : Int)) T := by
  have p := pow_pos' j
  have p41 := pow_mono' (i := j) (j := 41) hj
  have hN : 0 < (t.length : Int) := by omega
  have inner : ∀ d s, s + d = q → Ev (fun n => probe_Build.l1 n t (i : Int) ((hsh (rdOf ByteArray.empty keys i) + (s : Int)) % (t.length : Int)) keys (keys.length : Int) (i : Int)) T := by
    intro d
    induction d with
    | zero =>
      intro s hs
      obtain rfl : s = q := by omega
      have b := emod_bd (t.length : Int) (hsh (rdOf ByteArray.empty keys i) + (s : Int)) hN
      refine Ev.step (fun n => ?_) K
      simp only [probe_Build.l1]
      have e1 : wrap64 ((i : Int) + 1) = (i : Int) + 1 := by unfold wrap64; omega
      have ez : rd t ((hsh (rdOf ByteArray.empty keys i) + (s : Int)) % (t.length : Int)) = 0 := h0
      rw [if_pos b.1, if_pos b.2, if_pos ez, e1]
    | succ d ih =>
      intro s hs
      have b := emod_bd (t.length : Int) (hsh (rdOf ByteArray.empty keys i) + (s : Int)) hN
      refine Ev.step (fun n => ?_) (ih (s + 1) (by omega))
      simp only [probe_Build.l1]
      have ez : ¬ rd t ((hsh (rdOf ByteArray.empty keys i) + (s : Int)) % (t.length : Int)) = 0 := h1 s (by omega)
      rw [if_pos b.1, if_pos b.2, if_neg ez, nxt t j hj ht]
  have st : Ev (fun n => (probe_first.f n (t.length : Int) (rdOf ByteArray.empty keys (i : Int))).bind fun a => probe_Build.l1 n t (i : Int) a keys (keys.length : Int) (i : Int)) T := by
    rw [ht]
    refine Ev.bind (ev_first _ hz j hj) ?_
    have := inner q 0 (by omega)
    rw [ht] at this
    simpa using this
  refine Ev.step (fun n => ?_) st
  simp only [probe_Build.l0]
  rw [if_pos (by omega), if_pos (by omega), if_pos (by omega)]
theorem build_loop (keys : List ByteArray) (j : Nat) (hj : j ≤ 41) (hl : Least (keys.length : Int) j) (hlen : (keys.length : Int) ≤ 9223372036854775807) (hz : ∀ i : Nat, i < keys.length → (rdOf ByteArray.empty keys (i : Int)).size ≤ 140737488351232) :
    ∀ d i t, i + d = keys.length → (t.length : Int) = 2 * 2 ^ j → Inv keys i t → ∃ T, Ev (fun n => probe_Build.l0 n t keys (keys.length : Int) (i : Int)) T ∧ (T.length : Int) = 2 * 2 ^ j ∧ Inv keys keys.length T := by
  have p := pow_pos' j
  have h1 := hl.1
  intro d
  induction d with
  | zero =>
    intro i t hi ht I
    obtain rfl : i = keys.length := by omega
    refine ⟨t, Ev.step (f := fun _ => some t) (fun n => ?_) (Ev.now _), ht, I⟩
    simp only [probe_Build.l0]
    rw [if_neg (by omega)]
  | succ d ih =>
    intro i t hi ht I
    obtain ⟨q, hq, e0, e1⟩ := free_slot t (hsh (rdOf ByteArray.empty keys i)) (by rw [I.full]; omega)
    obtain ⟨T, hT, h2, h3⟩ := ih (i + 1) _ (by omega) (by rw [List.length_set]; exact ht) (inv_step keys i q t I hq e0 e1)
    exact ⟨T, build_step keys i q j t T hj ht (by omega) hlen (hz i (by omega)) hq e0 e1 hT, h2, h3⟩
theorem ev_build (keys : List ByteArray) (j : Nat) (hj : j ≤ 41) (hl : Least (keys.length : Int) j) (hlen : (keys.length : Int) ≤ 9223372036854775807) (hz : ∀ i : Nat, i < keys.length → (rdOf ByteArray.empty keys (i : Int)).size ≤ 140737488351232) :
    ∃ T, Ev (fun n => probe_Build.f n keys) T ∧ (T.length : Int) = 2 * 2 ^ j ∧ Inv keys keys.length T := by
  have p := pow_pos' j
  have p41 := pow_mono' (i := j) (j := 41) hj
  have en : (((2 : Int) * 2 ^ j).toNat : Int) = 2 * 2 ^ j := by omega
  obtain ⟨T, hT, h2, h3⟩ := build_loop keys j hj hl hlen hz keys.length 0 (List.replicate ((2 : Int) * 2 ^ j).toNat 0) (by omega) (by rw [List.length_replicate]; exact en) (inv_nil keys _)
  refine ⟨T, ?_, h2, h3⟩
  unfold probe_Build.f
  refine Ev.bind (psize _ j hj hl) ?_
  have c1 : (0 : Int) ≤ 2 * 2 ^ j := by omega
  have c2 : ((2 : Int) * 2 ^ j).toNat ≤ 35184372088832 := by
    have e : (2 : Int) ^ 41 = 2199023255552 := by decide
    omega
  simp only [if_pos c1, if_pos c2]
  exact hT
/-! what a look tells -/
theorem look_hit (t : List Int) (keys : List ByteArray) (k : ByteArray) (q : Nat) (h0 : slot t (hsh k) q ≠ 0) (h1 : hits keys k (slot t (hsh k) q)) (h2 : ∀ p, p < q → slot t (hsh k) p ≠ 0 ∧ ¬ hits keys k (slot t (hsh k) p)) :
    ∀ d i, i ≤ q → q < i + d → look t keys k d i = (slot t (hsh k) q - 1, (q : Int) + 1)
  | 0, i, hi, hd => by omega
  | d + 1, i, hi, hd => by
    unfold look
    by_cases c : i = q
    · subst c
      rw [if_neg h0, if_pos h1]
    · have := h2 i (by omega)
      rw [if_neg this.1, if_neg this.2, look_hit t keys k q h0 h1 h2 d (i + 1) (by omega) (by omega)]
theorem look_miss (t : List Int) (keys : List ByteArray) (k : ByteArray) (q : Nat) (h0 : slot t (hsh k) q = 0) (h2 : ∀ p, p < q → slot t (hsh k) p ≠ 0 ∧ ¬ hits keys k (slot t (hsh k) p)) :
    ∀ d i, i ≤ q → q < i + d → look t keys k d i = (-1, (q : Int) + 1)
  | 0, i, hi, hd => by omega
  | d + 1, i, hi, hd => by
    unfold look
    by_cases c : i = q
    · subst c
      rw [if_pos h0]
    · have := h2 i (by omega)
      rw [if_neg this.1, if_neg this.2, look_miss t keys k q h0 h2 d (i + 1) (by omega) (by omega)]
theorem toList_inj {a b : ByteArray} (h : a.toList = b.toList) : a = b := by
  rw [Lib.toList_data, Lib.toList_data] at h
  have h2 : a.data = b.data := Array.toList_inj.1 h
  cases a
  cases b
  simp only at h2
  rw [h2]
/-- the answer that is right -/
def Found (keys : List ByteArray) (k : ByteArray) (at_ : Int) : Prop :=
  (∃ m : Nat, m < keys.length ∧ at_ = (m : Int) ∧ (rdOf ByteArray.empty keys (m : Int)).toList = k.toList ∧ ∀ i : Nat, i < m → (rdOf ByteArray.empty keys (i : Int)).toList ≠ k.toList) ∨
  (at_ = -1 ∧ ∀ i : Nat, i < keys.length → (rdOf ByteArray.empty keys (i : Int)).toList ≠ k.toList)
theorem look_right (keys : List ByteArray) (k : ByteArray) (T : List Int) (I : Inv keys keys.length T) (hl : keys.length < T.length) :
    ∃ (at_ : Int) (q : Nat), look T keys k T.length 0 = (at_, (q : Int) + 1) ∧ q < T.length ∧ Found keys k at_ ∧ ∀ p, p < q → slot T (hsh k) p ≠ 0 := by
  by_cases c : ∃ m : Nat, m < keys.length ∧ (rdOf ByteArray.empty keys (m : Int)).toList = k.toList
  · obtain ⟨m', hm'⟩ := c
    obtain ⟨m, hmm, hm, hmin⟩ := least_of (fun m : Nat => m < keys.length ∧ (rdOf ByteArray.empty keys (m : Int)).toList = k.toList) m' hm'
    obtain ⟨q, hq, e1, e2⟩ := I.has m hm.1
    have ek : rdOf ByteArray.empty keys (m : Int) = k := toList_inj hm.2
    rw [ek] at e1 e2
    have hh : hits keys k (slot T (hsh k) q) := by
      rw [e1]
      refine ⟨by omega, by omega, ?_⟩
      have e3 : (m : Int) + 1 - 1 = (m : Int) := by omega
      rw [e3]
      exact hm.2
    have hb : ∀ p, p < q → slot T (hsh k) p ≠ 0 ∧ ¬ hits keys k (slot T (hsh k) p) := by
      intro p hp
      have b := e2 p hp
      refine ⟨by omega, fun ⟨h1, h2, h3⟩ => ?_⟩
      obtain ⟨r, hr⟩ := Int.eq_ofNat_of_zero_le (a := slot T (hsh k) p - 1) (by omega)
      rw [hr] at h3
      exact hmin r (by omega) ⟨by omega, h3⟩
    refine ⟨(m : Int), q, ?_, hq, Or.inl ⟨m, hm.1, rfl, hm.2, fun i hi e => hmin i hi ⟨by omega, e⟩⟩, fun p hp => (hb p hp).1⟩
    rw [look_hit T keys k q (by omega) hh hb T.length 0 (by omega) (by omega), e1]
    congr 1
    omega
  · obtain ⟨q, hq, e0, e1⟩ := free_slot T (hsh k) (by rw [I.full]; exact hl)
    have hb : ∀ p, p < q → slot T (hsh k) p ≠ 0 ∧ ¬ hits keys k (slot T (hsh k) p) := by
      intro p hp
      refine ⟨e1 p hp, fun ⟨h1, h2, h3⟩ => ?_⟩
      obtain ⟨r, hr⟩ := Int.eq_ofNat_of_zero_le (a := slot T (hsh k) p - 1) (by omega)
      rw [hr] at h3
      exact c ⟨r, by omega, h3⟩
    refine ⟨-1, q, look_miss T keys k q e0 hb T.length 0 (by omega) (by omega), hq, Or.inr ⟨rfl, fun i hi e => c ⟨i, hi, e⟩⟩, e1⟩
/-! the order of texts: a rank for finitely many of them -/
theorem bl_cons (a b : UInt8) (x y : List UInt8) : Op.bytesLess (a :: x) (b :: y) = (decide (a < b) || (a == b && Op.bytesLess x y)) := by
  simp [Op.bytesLess]
theorem bl_irrefl : ∀ x : List UInt8, Op.bytesLess x x = false
  | [] => rfl
  | a :: x => by
    rw [bl_cons, bl_irrefl x]
    simp
theorem bl_asymm : ∀ x y : List UInt8, Op.bytesLess x y = true → Op.bytesLess y x = false
  | [], [] => fun _ => rfl
  | _ :: _, [] => fun h => by simp [Op.bytesLess] at h
  | [], _ :: _ => fun _ => rfl
  | a :: x, b :: y => by
    rw [bl_cons, bl_cons]
    intro h
    rw [Bool.or_eq_true, Bool.and_eq_true, decide_eq_true_eq, beq_iff_eq] at h
    rw [Bool.or_eq_false_iff, Bool.and_eq_false_iff, decide_eq_false_iff_not, beq_eq_false_iff_ne]
    rcases h with h | ⟨h, k⟩
    · exact ⟨fun e => UInt8.lt_asymm h e, Or.inl (fun e => by subst e; exact UInt8.lt_irrefl _ h)⟩
    · subst h
      exact ⟨UInt8.lt_irrefl _, Or.inr (bl_asymm x y k)⟩
theorem bl_total : ∀ x y : List UInt8, Op.bytesLess x y = false → Op.bytesLess y x = false → x = y
  | [], [] => fun _ _ => rfl
  | _ :: _, [] => fun _ h => by simp [Op.bytesLess] at h
  | [], _ :: _ => fun h _ => by simp [Op.bytesLess] at h
  | a :: x, b :: y => by
    rw [bl_cons, bl_cons]
    intro h k
    rw [Bool.or_eq_false_iff, Bool.and_eq_false_iff, decide_eq_false_iff_not, beq_eq_false_iff_ne] at h k
    have e : a = b := by
      have h1 := h.1
      have k1 := k.1
      rw [UInt8.lt_iff_toNat_lt] at h1 k1
      exact UInt8.toNat_inj.1 (by omega)
    subst e
    rw [bl_total x y (h.2.resolve_left (fun n => n rfl)) (k.2.resolve_left (fun n => n rfl))]
theorem bl_trans : ∀ x y z : List UInt8, Op.bytesLess x y = true → Op.bytesLess y z = true → Op.bytesLess x z = true
  | x, [], z => fun h _ => by cases x <;> simp [Op.bytesLess] at h
  | x, _ :: _, [] => fun _ h => by simp [Op.bytesLess] at h
  | [], _ :: _, _ :: _ => fun _ _ => rfl
  | a :: x, b :: y, c :: z => by
    rw [bl_cons, bl_cons, bl_cons]
    intro h k
    rw [Bool.or_eq_true, Bool.and_eq_true, decide_eq_true_eq, beq_iff_eq] at h k ⊢
    rcases h with h | ⟨h, h2⟩
    · rcases k with k | ⟨k, k2⟩
      · exact Or.inl (UInt8.lt_trans h k)
      · subst k; exact Or.inl h
    · subst h
      rcases k with k | ⟨k, k2⟩
      · exact Or.inl k
      · exact Or.inr ⟨k, bl_trans x y z h2 k2⟩
abbrev bl (a b : ByteArray) : Bool := Op.bytesLess a.toList b.toList
theorem nil_list : (⟨#[]⟩ : ByteArray).toList = [] := by rw [Lib.toList_data]
def hasB (lo hi : ByteArray) (al : Bool) (k : ByteArray) : Bool := !(bl k lo) && (al || bl k hi)
theorem has_eq (lo hi : ByteArray) (al : Bool) (k : ByteArray) : key_Has.f lo hi al k = some (hasB lo hi al k) := by
  unfold key_Has.f hasB
  by_cases c : bl k lo = true
  · rw [if_pos c]; simp [c]
  · rw [if_neg c]
    have c' : bl k lo = false := by simpa using c
    cases al <;> simp [c']
theorem rd114 (l : List S114) (i : Nat) : rd_T114 l (i : Int) = l.getD i z114 := by simp [rd_T114]
theorem w_up (i : Nat) (h : i ≤ 100000) : wrap64 ((i : Int) + 1) = ((i + 1 : Nat) : Int) := by unfold wrap64; omega
theorem w_dn (i : Nat) (h : i ≤ 100000) : wrap64 (((i + 1 : Nat) : Int) - 1) = (i : Int) := by unfold wrap64; omega
/-! entries that may be -/
def OkE (lo hi : ByteArray) (al : Bool) (l : List S114) (i : Nat) : Prop :=
  hasB lo hi al (l.getD i z114).f0 = true ∧ ((l.getD i z114).f2 = true → (l.getD i z114).f1.toList = []) ∧ (0 < i → bl (l.getD (i - 1) z114).f0 (l.getD i z114).f0 = true)
def May (lo hi : ByteArray) (al : Bool) (l : List S114) : Prop := ∀ i, i < l.length → OkE lo hi al l i
theorem rises_loop (lo hi : ByteArray) (al : Bool) (l : List S114) (hl : l.length ≤ 1000) : ∀ d i, i + d = l.length → ∃ b, Ev (fun n => rev_rises.l0 n l l (l.length : Int) (i : Int) lo hi al) b ∧ (b = true ↔ ∀ m, i ≤ m → m < l.length → OkE lo hi al l m) := by
  intro d
  induction d with
  | zero =>
    intro i hid
    refine ⟨true, Ev.step (f := fun _ => some true) (fun n => ?_) (Ev.now _), ⟨fun _ m h1 h2 => by omega, fun _ => rfl⟩⟩
    simp only [rev_rises.l0]
    rw [if_neg (by omega)]
  | succ d ih =>
    intro i hid
    obtain ⟨b, hb, hiff⟩ := ih (i + 1) (by omega)
    have c1 : (i : Int) < (l.length : Int) := by omega
    have c2 : (0 : Int) ≤ (i : Int) := by omega
    have ew := w_up i (by omega)
    have no : (¬ OkE lo hi al l i) → ((false : Bool) = true ↔ ∀ m, i ≤ m → m < l.length → OkE lo hi al l m) := fun h => ⟨(fun e => by cases e), (fun e => absurd (e i (Nat.le_refl _) (by omega)) h)⟩
    have yes : OkE lo hi al l i → (b = true ↔ ∀ m, i ≤ m → m < l.length → OkE lo hi al l m) := fun h => by
      refine ⟨fun e m h1 h2 => ?_, fun e => hiff.2 fun m h1 h2 => e m (by omega) h2⟩
      by_cases hm : m = i
      · rw [hm]; exact h
      · exact hiff.1 e m (by omega) h2
    by_cases h1 : hasB lo hi al (l.getD i z114).f0 = true
    rotate_left
    · refine ⟨false, Ev.step (f := fun _ => some false) (fun n => ?_) (Ev.now _), no (fun h => h1 h.1)⟩
      simp only [rev_rises.l0, rd114, has_eq, Option.bind_some]
      rw [if_pos c1, if_pos c2, if_pos c1, if_neg h1]
    by_cases h2 : (l.getD i z114).f2 = true ∧ (l.getD i z114).f1.toList ≠ []
    · refine ⟨false, Ev.step (f := fun _ => some false) (fun n => ?_) (Ev.now _), no (fun h => h2.2 (h.2.1 h2.1))⟩
      simp only [rev_rises.l0, rd114, has_eq, Option.bind_some]
      rw [if_pos c1, if_pos c2, if_pos c1, if_pos h1, if_pos h2.1, if_neg h2.2]
    have h2' : (l.getD i z114).f2 = true → (l.getD i z114).f1.toList = [] := fun e => Classical.byContradiction fun h => h2 ⟨e, h⟩
    cases i with
    | zero =>
      refine ⟨b, Ev.step (fun n => ?_) hb, yes ⟨h1, h2', fun h => by omega⟩⟩
      simp only [rev_rises.l0, rd114, has_eq, Option.bind_some]
      rw [if_pos c1, if_pos c2, if_pos c1, if_pos h1]
      by_cases h3 : (l.getD 0 z114).f2 = true
      · rw [if_pos h3, if_pos (h2' h3), if_neg (by omega), ew]
      · rw [if_neg h3, if_neg (by omega), ew]
    | succ i =>
      have c3 : ((i + 1 : Nat) : Int) > 0 := by omega
      have ed := w_dn i (by omega)
      have c4 : (0 : Int) ≤ (i : Int) := by omega
      have c5 : (i : Int) < (l.length : Int) := by omega
      by_cases h4 : bl (l.getD i z114).f0 (l.getD (i + 1) z114).f0 = true
      · refine ⟨b, Ev.step (fun n => ?_) hb, yes ⟨h1, h2', fun _ => h4⟩⟩
        simp only [rev_rises.l0, has_eq, Option.bind_some, ed, rd114]
        rw [if_pos c1, if_pos c2, if_pos c1, if_pos h1]
        by_cases h3 : (l.getD (i + 1) z114).f2 = true
        · rw [if_pos h3, if_pos (h2' h3), if_pos c3, if_pos c4, if_pos c5, if_pos h4, ew]
        · rw [if_neg h3, if_pos c3, if_pos c4, if_pos c5, if_pos h4, ew]
      · refine ⟨false, Ev.step (f := fun _ => some false) (fun n => ?_) (Ev.now _), no (fun h => h4 (h.2.2 (by omega)))⟩
        simp only [rev_rises.l0, has_eq, Option.bind_some, ed, rd114]
        rw [if_pos c1, if_pos c2, if_pos c1, if_pos h1]
        by_cases h3 : (l.getD (i + 1) z114).f2 = true
        · rw [if_pos h3, if_pos (h2' h3), if_pos c3, if_pos c4, if_pos c5, if_neg h4]
        · rw [if_neg h3, if_pos c3, if_pos c4, if_pos c5, if_neg h4]
theorem ev_rises (lo hi : ByteArray) (al : Bool) (l : List S114) (hl : l.length ≤ 1000) : ∃ b, Ev (fun n => rev_rises.f n lo hi al l) b ∧ (b = true ↔ May lo hi al l) := by
  obtain ⟨b, h1, h2⟩ := rises_loop lo hi al l hl l.length 0 (by omega)
  exact ⟨b, h1, h2.trans ⟨fun h i hi => h i (by omega) hi, fun h m _ hm => h m hm⟩⟩
/-! a revision of entries -/
def keysOf (l : List S114) : List ByteArray := l.map (·.f0)
def valsOf (l : List S114) : List ByteArray := l.map (·.f1)
def goneOf (l : List S114) : List Bool := l.map (·.f2)
theorem keysOf_len (l : List S114) : (keysOf l).length = l.length := by simp [keysOf]
theorem valsOf_len (l : List S114) : (valsOf l).length = l.length := by simp [valsOf]
theorem goneOf_len (l : List S114) : (goneOf l).length = l.length := by simp [goneOf]
theorem keys_at (l : List S114) (i : Nat) (h : i < l.length) : rdOf ByteArray.empty (keysOf l) (i : Int) = (l.getD i z114).f0 := by
  unfold rdOf keysOf
  simp [List.getD_eq_getElem?_getD, List.getElem?_eq_getElem h]
theorem vals_at (l : List S114) (i : Nat) (h : i < l.length) : rdOf ByteArray.empty (valsOf l) (i : Int) = (l.getD i z114).f1 := by
  unfold rdOf valsOf
  simp [List.getD_eq_getElem?_getD, List.getElem?_eq_getElem h]
theorem gone_at (l : List S114) (i : Nat) (h : i < l.length) : rdOf false (goneOf l) (i : Int) = (l.getD i z114).f2 := by
  unfold rdOf goneOf
  simp [List.getD_eq_getElem?_getD, List.getElem?_eq_getElem h]
theorem take_one (l : List S114) (i : Nat) (h : i < l.length) : l.take (i + 1) = l.take i ++ [l.getD i z114] := by
  rw [List.take_succ_eq_append_getElem h, List.getD_eq_getElem?_getD, List.getElem?_eq_getElem h]
  rfl
theorem drop_one (l : List S114) (i : Nat) (h : i < l.length) : l.drop i = l.getD i z114 :: l.drop (i + 1) := by
  rw [List.drop_eq_getElem_cons h, List.getD_eq_getElem?_getD, List.getElem?_eq_getElem h]
  rfl
theorem laid_loop (l : List S114) (hl : l.length ≤ 1000) (v r : Int) (lo hi : ByteArray) (al de : Bool) (T : List Int) (hT : Ev (fun n => probe_Build.f n (keysOf l)) T) : ∀ d i, i + d = l.length → Ev (fun n => rev_laid.l0 n l (l.length : Int) (i : Int) v r lo hi al de (keysOf (l.take i)) (valsOf (l.take i)) (goneOf (l.take i))) (v, r, lo, hi, al, de, keysOf l, valsOf l, goneOf l, T) := by
  intro d
  induction d with
  | zero =>
    intro i hid
    obtain rfl : i = l.length := by omega
    have e : l.take l.length = l := List.take_length
    refine Ev.step (f := fun n => (probe_Build.f n (keysOf l)).bind fun t129 => (some (v, r, lo, hi, al, de, keysOf l, valsOf l, goneOf l, t129))) (fun n => ?_) (Ev.bind hT (Ev.now _))
    simp only [rev_laid.l0]
    rw [if_neg (by omega), e]
  | succ d ih =>
    intro i hid
    have c1 : (i : Int) < (l.length : Int) := by omega
    refine Ev.step (fun n => ?_) (ih (i + 1) (by omega))
    simp only [rev_laid.l0, rd114, w_up i (by omega)]
    rw [if_pos c1, if_pos (by omega), if_pos c1, if_pos (by rw [keysOf_len, List.length_take]; omega), if_pos (by rw [valsOf_len, List.length_take]; omega), if_pos (by rw [goneOf_len, List.length_take]; omega), take_one l i (by omega)]
    simp [keysOf, valsOf, goneOf]
theorem ev_laid (l : List S114) (hl : l.length ≤ 1000) (v r : Int) (lo hi : ByteArray) (al : Bool) (T : List Int) (hT : Ev (fun n => probe_Build.f n (keysOf l)) T) : Ev (fun n => rev_laid.f n v r lo hi al l) (v, r, lo, hi, al, false, keysOf l, valsOf l, goneOf l, T) := by
  have := laid_loop l hl v r lo hi al false T hT l.length 0 (by omega)
  exact this
/-- A table of keys. -/
def Tab (ks : List ByteArray) (T : List Int) : Prop := ∃ j, j ≤ 41 ∧ Least (ks.length : Int) j ∧ (T.length : Int) = 2 * 2 ^ j ∧ Inv ks ks.length T ∧ Ev (fun n => probe_Build.f n ks) T
def Small (l : List S114) : Prop := ∀ e ∈ l, e.f0.size ≤ 40
theorem tab_ex (l : List S114) (hl : l.length ≤ 1000) (hs : Small l) : ∃ T, Tab (keysOf l) T := by
  have e41 : (2 : Int) ^ 41 = 2199023255552 := by decide
  obtain ⟨j, hj, hle⟩ := least_some ((keysOf l).length : Int) 41 (by rw [keysOf_len, e41]; omega)
  obtain ⟨T, h1, h2, h3⟩ := ev_build (keysOf l) j hj hle (by rw [keysOf_len]; omega) (fun i hi => by
    rw [keysOf_len] at hi
    rw [keys_at l i hi]
    have := hs (l.getD i z114) (by rw [List.getD_eq_getElem?_getD, List.getElem?_eq_getElem hi]; exact List.getElem_mem hi)
    omega)
  exact ⟨T, j, hj, hle, h2, h3, h1⟩
/-! what a revision tells -/
def is (k : ByteArray) (e : S114) : Bool := decide (e.f0.toList = k.toList)
def tell (o : Option S114) : ByteArray × Bool := match o with
  | none => ((⟨#[]⟩ : ByteArray), false)
  | some e => if e.f2 = true then ((⟨#[]⟩ : ByteArray), false) else (e.f1, true)
theorem found_is (l : List S114) (k : ByteArray) (a : Int) (h : Found (keysOf l) k a) : (∃ m : Nat, m < l.length ∧ a = (m : Int) ∧ l.find? (is k) = some (l.getD m z114)) ∨ (a = -1 ∧ l.find? (is k) = none) := by
  rcases h with ⟨m, h1, rfl, h2, h3⟩ | ⟨rfl, h1⟩
  · rw [keysOf_len] at h1
    refine Or.inl ⟨m, h1, rfl, ?_⟩
    rw [keys_at l m h1] at h2
    rw [List.find?_eq_some_iff_getElem]
    refine ⟨decide_eq_true h2, m, h1, by rw [List.getD_eq_getElem?_getD, List.getElem?_eq_getElem h1]; rfl, fun j hj => ?_⟩
    have := h3 j hj
    rw [keys_at l j (by omega), List.getD_eq_getElem?_getD, List.getElem?_eq_getElem (by omega)] at this
    simpa [is] using this
  · refine Or.inr ⟨rfl, List.find?_eq_none.2 fun e he => ?_⟩
    obtain ⟨j, hj, ej⟩ := List.getElem_of_mem he
    have := h1 j (by rw [keysOf_len]; exact hj)
    rw [keys_at l j hj, List.getD_eq_getElem?_getD, List.getElem?_eq_getElem hj, Option.getD_some, ej] at this
    simpa [is] using this
theorem ev_pfind (l : List S114) (hl : l.length ≤ 1000) (T : List Int) (hT : Tab (keysOf l) T) (k : ByteArray) (hk : k.size ≤ 140737488351232) : ∃ (a : Int) (q : Int), Ev (fun n => probe_Find.f n T (keysOf l) k) (a, q) ∧ ((∃ m : Nat, m < l.length ∧ a = (m : Int) ∧ l.find? (is k) = some (l.getD m z114)) ∨ (a = -1 ∧ l.find? (is k) = none)) := by
  obtain ⟨j, hj, hle, hlen, hI, _⟩ := hT
  have p := ev_find T (keysOf l) k j hj hle hk (by rw [keysOf_len]; omega)
  have h1 := hle.1
  have pp := pow_pos' j
  obtain ⟨a, q, e3, _, F, _⟩ := look_right (keysOf l) k T hI (by omega)
  rw [if_pos hlen, e3] at p
  exact ⟨a, _, p, found_is l k a F⟩
theorem ev_get (l : List S114) (hl : l.length ≤ 1000) (T : List Int) (hT : Tab (keysOf l) T) (k : ByteArray) (hk : k.size ≤ 140737488351232) (v r : Int) (lo hi : ByteArray) (al de : Bool) : Ev (fun n => rev_Get.f n v r lo hi al de (keysOf l) (valsOf l) (goneOf l) T k) (tell (l.find? (is k))) := by
  obtain ⟨a, q, h, hc⟩ := ev_pfind l hl T hT k hk
  unfold rev_Get.f
  refine Ev.bind h ?_
  rcases hc with ⟨m, hm, rfl, e⟩ | ⟨rfl, e⟩
  · rw [e]
    have c1 : (m : Int) ≥ 0 := by omega
    have c2 : (m : Int) < ((goneOf l).length : Int) := by rw [goneOf_len]; omega
    have c3 : (m : Int) < ((valsOf l).length : Int) := by rw [valsOf_len]; omega
    simp only [if_pos c1, if_pos c2, if_pos c3, gone_at l m hm, vals_at l m hm]
    unfold tell
    by_cases c : (l.getD m z114).f2 = true
    · simp only [if_pos c, c1, if_true]
      exact Ev.now _
    · simp only [if_neg c, c1, if_true]
      exact Ev.now _
  · rw [e]
    have c1 : ¬ ((-1 : Int) ≥ 0) := by omega
    simp only [if_neg c1]
    exact Ev.now _
theorem live_loop (l : List S114) (hl : l.length ≤ 1000) : ∀ d i c, i + d = l.length → c ≤ i → Ev (fun n => rev_Live.l0 n (c : Int) (goneOf l) (l.length : Int) (i : Int)) ((c + ((l.drop i).filter fun e => !e.f2).length : Nat) : Int) := by
  intro d
  induction d with
  | zero =>
    intro i c hid hc
    refine Ev.step (f := fun _ => some (c : Int)) (fun n => ?_) ?_
    · simp only [rev_Live.l0]
      rw [if_neg (by omega)]
    · rw [List.drop_of_length_le (by omega)]
      exact Ev.now _
  | succ d ih =>
    intro i c hid hc
    have c1 : (i : Int) < (l.length : Int) := by omega
    have c2 : (i : Int) < ((goneOf l).length : Int) := by rw [goneOf_len]; omega
    rw [drop_one l i (by omega)]
    by_cases h : (l.getD i z114).f2 = true
    · rw [List.filter_cons_of_neg (by show ¬ (!(l.getD i z114).f2) = true; rw [h]; decide)]
      refine Ev.step (fun n => ?_) (ih (i + 1) c (by omega) (by omega))
      simp only [rev_Live.l0, gone_at l i (by omega), w_up i (by omega)]
      rw [if_pos c1, if_pos (by omega), if_pos c2, if_pos h]
    · rw [List.filter_cons_of_pos (by show (!(l.getD i z114).f2) = true; rw [Bool.eq_false_iff.2 h]; rfl), List.length_cons, show c + (((l.drop (i + 1)).filter fun e => !e.f2).length + 1) = c + 1 + ((l.drop (i + 1)).filter fun e => !e.f2).length by omega]
      refine Ev.step (fun n => ?_) (ih (i + 1) (c + 1) (by omega) (by omega))
      simp only [rev_Live.l0, gone_at l i (by omega), w_up i (by omega)]
      rw [if_pos c1, if_pos (by omega), if_pos c2, if_neg h, w_up c (by omega)]
def liveN (l : List S114) : Nat := (l.filter fun e => !e.f2).length
theorem ev_live (l : List S114) (hl : l.length ≤ 1000) (T : List Int) (v r : Int) (lo hi : ByteArray) (al de : Bool) : Ev (fun n => rev_Live.f n v r lo hi al de (keysOf l) (valsOf l) (goneOf l) T) (liveN l : Int) := by
  have := live_loop l hl l.length 0 0 (by omega) (by omega)
  unfold rev_Live.f
  rw [goneOf_len]
  rw [Nat.zero_add, List.drop_zero] at this
  exact this
theorem entries_loop (l : List S114) (hl : l.length ≤ 1000) (T : List Int) (v r : Int) (lo hi : ByteArray) (al de : Bool) : ∀ d i, i + d = l.length → Ev (fun n => rev_Entries.l0 n (l.take i) (keysOf l) (l.length : Int) (i : Int) v r lo hi al de (keysOf l) (valsOf l) (goneOf l) T) l := by
  intro d
  induction d with
  | zero =>
    intro i hid
    refine Ev.step (f := fun _ => some l) (fun n => ?_) (Ev.now _)
    simp only [rev_Entries.l0]
    rw [if_neg (by omega), List.take_of_length_le (by omega)]
  | succ d ih =>
    intro i hid
    have c1 : (i : Int) < (l.length : Int) := by omega
    refine Ev.step (fun n => ?_) (ih (i + 1) (by omega))
    simp only [rev_Entries.l0, gone_at l i (by omega), vals_at l i (by omega), keys_at l i (by omega), w_up i (by omega)]
    rw [if_pos c1, if_pos (by omega), if_pos (by rw [keysOf_len]; exact c1), if_pos (by rw [valsOf_len]; exact c1), if_pos (by rw [goneOf_len]; exact c1), if_pos (by rw [List.length_take]; omega), take_one l i (by omega)]
theorem ev_entries (l : List S114) (hl : l.length ≤ 1000) (T : List Int) (v r : Int) (lo hi : ByteArray) (al de : Bool) : Ev (fun n => rev_Entries.f n v r lo hi al de (keysOf l) (valsOf l) (goneOf l) T) l := by
  have := entries_loop l hl T v r lo hi al de l.length 0 (by omega)
  unfold rev_Entries.f
  rw [keysOf_len]
  exact this
/-! two lists as one -/
def mergeL : List S114 → List S114 → List S114
  | [], b => b
  | a :: a2, [] => a :: a2
  | x :: a, y :: b => if bl x.f0 y.f0 = true then x :: mergeL a (y :: b) else if bl y.f0 x.f0 = true then y :: mergeL (x :: a) b else mergeL a (y :: b)
termination_by a b => a.length + b.length
theorem cmp_eq (a b : ByteArray) : cmp_Compare_string.f a b = some (if bl a b = true then -1 else if bl b a = true then 1 else 0) := by
  have e : ∀ x : ByteArray, (x.toList != x.toList) = false := fun x => by simp
  unfold cmp_Compare_string.f cmp_isNaN_string.f
  simp only [Option.bind_some, e, Bool.false_eq_true, if_false]
  unfold bl
  split
  · rfl
  · split <;> rfl
theorem merged_loop : ∀ n (a b acc : List S114), a.length + b.length = n → acc.length + n ≤ 1000 → Ev (fun k => rev_merged.l0 k a b acc) (acc ++ mergeL a b) := by
  intro n
  induction n with
  | zero =>
    intro a b acc hn hl
    obtain rfl : a = [] := List.eq_nil_of_length_eq_zero (by omega)
    obtain rfl : b = [] := List.eq_nil_of_length_eq_zero (by omega)
    refine Ev.step (f := fun k => rev_merged.j1 k [] [] acc false) (fun k => by simp only [rev_merged.l0]; rw [if_neg (by simp)]) ?_
    refine Ev.step (f := fun _ => some (acc ++ mergeL [] [])) (fun k => ?_) (Ev.now _)
    simp only [rev_merged.j1, Bool.false_eq_true, if_false, mergeL]
    rw [if_pos (by simp; omega)]
    simp only [Option.bind_some]
    rw [if_pos (by simp; omega)]
    simp
  | succ n ih =>
    intro a b acc hn hl
    have fin : (mergeL a b = a ++ b) → Ev (fun k => rev_merged.j1 k a b acc false) (acc ++ mergeL a b) := fun e => by
      refine Ev.step (f := fun _ => some (acc ++ mergeL a b)) (fun k => ?_) (Ev.now _)
      simp only [rev_merged.j1, Bool.false_eq_true, if_false]
      rw [if_pos (by omega)]
      simp only [Option.bind_some]
      rw [if_pos (by rw [List.length_append]; omega), e, List.append_assoc]
    match a, b with
    | [], b =>
      refine Ev.step (f := fun k => rev_merged.j1 k [] b acc false) (fun k => by simp only [rev_merged.l0]; rw [if_neg (by simp)]) (fin (by simp [mergeL]))
    | x :: a, [] =>
      refine Ev.step (f := fun k => rev_merged.j1 k (x :: a) [] acc false) (fun k => by simp only [rev_merged.l0]; rw [if_pos (by simp <;> omega), decide_eq_false (by simp)]) (fin (by simp [mergeL]))
    | x :: a, y :: b =>
      simp only [List.length_cons] at hn hl
      have ex : rd_T114 (x :: a) 0 = x := rfl
      have ey : rd_T114 (y :: b) 0 = y := rfl
      have px : (⟨x.f0, x.f1, x.f2⟩ : S114) = x := rfl
      have py : (⟨y.f0, y.f1, y.f2⟩ : S114) = y := rfl
      have l1 : (0 : Int) < ((x :: a).length : Int) := by simp <;> omega
      have l2 : (0 : Int) < ((y :: b).length : Int) := by simp <;> omega
      have l3 : (1 : Int) ≤ ((x :: a).length : Int) := by omega
      have l4 : (1 : Int) ≤ ((y :: b).length : Int) := by omega
      refine Ev.step (f := fun k => rev_merged.j1 k (x :: a) (y :: b) acc true) (fun k => by simp only [rev_merged.l0]; rw [if_pos l1, decide_eq_true l2]) ?_
      unfold mergeL
      by_cases c : bl x.f0 y.f0 = true
      · rw [if_pos c]
        have := ih a (y :: b) (acc ++ [x]) (by simp; omega) (by simp; omega)
        rw [List.append_assoc] at this
        refine Ev.step (fun k => ?_) this
        simp only [rev_merged.j1, if_true, ex, ey, cmp_eq, Option.bind_some, if_pos c]
        rw [if_pos l1, if_pos l2, if_pos (by omega), if_pos (by omega), if_pos l3]
        rfl
      · rw [if_neg c]
        by_cases c2 : bl y.f0 x.f0 = true
        · rw [if_pos c2]
          have := ih (x :: a) b (acc ++ [y]) (by simp; omega) (by simp; omega)
          rw [List.append_assoc] at this
          refine Ev.step (fun k => ?_) this
          simp only [rev_merged.j1, if_true, ex, ey, cmp_eq, Option.bind_some, if_neg c, if_pos c2]
          rw [if_pos l1, if_pos l2, if_neg (by omega), if_pos (by omega), if_pos (by omega), if_pos l4]
          rfl
        · rw [if_neg c2]
          have := ih a (y :: b) acc (by simp; omega) (by omega)
          refine Ev.step (fun k => ?_) this
          simp only [rev_merged.j1, if_true, ex, ey, cmp_eq, Option.bind_some, if_neg c, if_neg c2]
          rw [if_pos l1, if_pos l2, if_neg (by omega), if_neg (by omega), if_pos l3]
          rfl
theorem ev_merged (a b : List S114) (h : a.length + b.length ≤ 1000) : Ev (fun k => rev_merged.f k a b) (mergeL a b) := by
  have := merged_loop _ a b [] rfl (by simpa using h)
  exact this
theorem mergeL_len : ∀ n (a b : List S114), a.length + b.length = n → (mergeL a b).length ≤ n ∧ ∀ e ∈ mergeL a b, e ∈ a ∨ e ∈ b := by
  intro n
  induction n with
  | zero =>
    intro a b hn
    obtain rfl : a = [] := List.eq_nil_of_length_eq_zero (by omega)
    obtain rfl : b = [] := List.eq_nil_of_length_eq_zero (by omega)
    simp [mergeL]
  | succ n ih =>
    intro a b hn
    match a, b with
    | [], b => simp only [mergeL]; exact ⟨by simpa using Nat.le_of_eq hn, fun e he => Or.inr he⟩
    | x :: a, [] => simp only [mergeL]; exact ⟨by simpa using Nat.le_of_eq hn, fun e he => Or.inl he⟩
    | x :: a, y :: b =>
      simp only [List.length_cons] at hn
      unfold mergeL
      by_cases c : bl x.f0 y.f0 = true
      · rw [if_pos c]
        obtain ⟨h1, h2⟩ := ih a (y :: b) (by simp; omega)
        refine ⟨by simp; omega, fun e he => ?_⟩
        rcases List.mem_cons.1 he with rfl | he
        · simp
        · rcases h2 e he with h | h
          · exact Or.inl (List.mem_cons_of_mem _ h)
          · exact Or.inr h
      · rw [if_neg c]
        by_cases c2 : bl y.f0 x.f0 = true
        · rw [if_pos c2]
          obtain ⟨h1, h2⟩ := ih (x :: a) b (by simp; omega)
          refine ⟨by simp; omega, fun e he => ?_⟩
          rcases List.mem_cons.1 he with rfl | he
          · simp
          · rcases h2 e he with h | h
            · exact Or.inl h
            · exact Or.inr (List.mem_cons_of_mem _ h)
        · rw [if_neg c2]
          obtain ⟨h1, h2⟩ := ih a (y :: b) (by simp; omega)
          refine ⟨by omega, fun e he => ?_⟩
          rcases h2 e he with h | h
          · exact Or.inl (List.mem_cons_of_mem _ h)
          · exact Or.inr h
/-! rising lists -/
def Rise (l : List S114) : Prop := l.Pairwise fun x y => bl x.f0 y.f0 = true
theorem may_rise {lo hi : ByteArray} {al : Bool} {l : List S114} (h : May lo hi al l) : Rise l := by
  have hd : ∀ d i, i + d + 1 < l.length → bl (l.getD i z114).f0 (l.getD (i + d + 1) z114).f0 = true := by
    intro d
    induction d with
    | zero => intro i hi; exact (h (i + 1) (by omega)).2.2 (by omega)
    | succ d ih => intro i hi; exact bl_trans _ _ _ (ih i (by omega)) ((h (i + (d + 1) + 1) (by omega)).2.2 (by omega))
  refine List.pairwise_iff_getElem.2 fun i j hi hj hij => ?_
  have := hd (j - i - 1) i (by omega)
  rw [show i + (j - i - 1) + 1 = j by omega, List.getD_eq_getElem?_getD, List.getD_eq_getElem?_getD, List.getElem?_eq_getElem hi, List.getElem?_eq_getElem hj] at this
  exact this
theorem find_none_of {l : List S114} {k : ByteArray} (h : ∀ e ∈ l, bl k e.f0 = true) : l.find? (is k) = none := List.find?_eq_none.2 fun e he => by
  have := h e he
  intro h2
  have h3 : e.f0.toList = k.toList := by simpa [is] using h2
  unfold bl at this
  rw [h3, bl_irrefl] at this
  cases this
theorem ev_new (l : List S114) (hl : l.length ≤ 1000) (hs : Small l) (v r : Int) (lo hi : ByteArray) (al : Bool) : (May lo hi al l ∧ ∃ T, Tab (keysOf l) T ∧ Ev (fun n => rev_New.f n v r lo hi al l) (v, r, lo, hi, al, false, keysOf l, valsOf l, goneOf l, T, 0)) ∨
    (¬ May lo hi al l ∧ Ev (fun n => rev_New.f n v r lo hi al l) (0, 0, (⟨#[]⟩ : ByteArray), (⟨#[]⟩ : ByteArray), false, false, ([] : List ByteArray), ([] : List ByteArray), ([] : List Bool), ([] : List Int), 1)) := by
  obtain ⟨b, hb, hiff⟩ := ev_rises lo hi al l hl
  by_cases h : May lo hi al l
  · have hb' := hiff.2 h
    subst hb'
    obtain ⟨T, hT⟩ := tab_ex l hl hs
    obtain ⟨j, h1, h2, h3, h4, h5⟩ := hT
    refine Or.inl ⟨h, T, ⟨j, h1, h2, h3, h4, h5⟩, ?_⟩
    unfold rev_New.f
    refine Ev.bind hb ?_
    simp only [if_true]
    exact Ev.bind (ev_laid l hl v r lo hi al T h5) (Ev.now _)
  · have hb' : b = false := Bool.eq_false_iff.2 fun e => h (hiff.1 e)
    subst hb'
    refine Or.inr ⟨h, ?_⟩
    unfold rev_New.f
    refine Ev.bind hb ?_
    simp only [Bool.false_eq_true, if_false]
    exact Ev.now _
def rateF (r : Int) (n : Int) : Int := wrap64 (mn (mx r 0) 4080 + wrap64 (Int.tdiv (wrap64 (wrap64 (16 * mn (mx n 0) 255) - mn (mx r 0) 4080)) 4))
theorem rate_eq (r n : Int) : pace_Rate.f r n = some (rateF r n) := rfl
theorem ev_apply (l m : List S114) (hl : l.length + m.length ≤ 1000) (hs : Small l) (hm : Small m) (T : List Int) (v r next : Int) (lo hi : ByteArray) (al : Bool) : (May lo hi al m ∧ ∃ T', Tab (keysOf (mergeL l m)) T' ∧ Ev (fun n => rev_Apply.f n v r lo hi al false (keysOf l) (valsOf l) (goneOf l) T next m) (next, rateF r m.length, lo, hi, al, false, keysOf (mergeL l m), valsOf (mergeL l m), goneOf (mergeL l m), T', 0)) ∨
    (¬ May lo hi al m ∧ Ev (fun n => rev_Apply.f n v r lo hi al false (keysOf l) (valsOf l) (goneOf l) T next m) (0, 0, (⟨#[]⟩ : ByteArray), (⟨#[]⟩ : ByteArray), false, false, ([] : List ByteArray), ([] : List ByteArray), ([] : List Bool), ([] : List Int), 1)) := by
  obtain ⟨b, hb, hiff⟩ := ev_rises lo hi al m (by omega)
  obtain ⟨hML, hMm⟩ := mergeL_len _ l m rfl
  by_cases h : May lo hi al m
  · have hb' := hiff.2 h
    subst hb'
    obtain ⟨T', hT⟩ := tab_ex (mergeL l m) (by omega) (fun e he => by
      rcases hMm e he with h | h
      · exact hs e h
      · exact hm e h)
    obtain ⟨j, h1, h2, h3, h4, h5⟩ := hT
    refine Or.inl ⟨h, T', ⟨j, h1, h2, h3, h4, h5⟩, ?_⟩
    unfold rev_Apply.f
    simp only [Bool.false_eq_true, if_false]
    refine Ev.bind hb ?_
    refine Ev.step (fun n => (by simp only [rev_Apply.j0, Bool.not_true, Bool.false_eq_true, if_false, rate_eq, Option.bind_some]; rfl)) ?_
    refine Ev.bind (ev_entries l (by omega) T v r lo hi al false) ?_
    refine Ev.bind (ev_merged l m hl) ?_
    exact Ev.bind (ev_laid (mergeL l m) (by omega) next (rateF r m.length) lo hi al T' h5) (Ev.now _)
  · have hb' : b = false := Bool.eq_false_iff.2 fun e => h (hiff.1 e)
    subst hb'
    refine Or.inr ⟨h, ?_⟩
    unfold rev_Apply.f
    simp only [Bool.false_eq_true, if_false]
    refine Ev.bind hb ?_
    refine Ev.step (fun n => (by simp only [rev_Apply.j0, Bool.not_false, if_true]; rfl)) ?_
    exact Ev.now _
theorem awake_facts : ∃ (M1 M2 : List S114) (T T2 : List Int) (v2 r2 : Int), Ev (fun n => rev_New.f n 1 0 ⟨#[]⟩ ⟨#[]⟩ true M1) (1, 0, ⟨#[]⟩, ⟨#[]⟩, true, false, keysOf M1, valsOf M1, goneOf M1, T, 0) ∧ Ev (fun n => rev_Apply.f n 1 0 ⟨#[]⟩ ⟨#[]⟩ true false (keysOf M1) (valsOf M1) (goneOf M1) T 2 M2) (v2, r2, ⟨#[]⟩, ⟨#[]⟩, true, false, keysOf M2, valsOf M2, goneOf M2, T2, 0) ∧ Ev (fun n => rev_Get.f n v2 r2 ⟨#[]⟩ ⟨#[]⟩ true false (keysOf M2) (valsOf M2) (goneOf M2) T2 ⟨#[97]⟩) (⟨#[49]⟩, true) ∧ Ev (fun n => rev_Get.f n v2 r2 ⟨#[]⟩ ⟨#[]⟩ true false (keysOf M2) (valsOf M2) (goneOf M2) T2 ⟨#[98]⟩) (⟨#[]⟩, false) ∧ Ev (fun n => rev_Live.f n v2 r2 ⟨#[]⟩ ⟨#[]⟩ true false (keysOf M2) (valsOf M2) (goneOf M2) T2) 1 ∧ True ∧ True ∧ M1 = [⟨⟨#[98]⟩, ⟨#[50]⟩, false⟩] ∧ M2 = [⟨⟨#[97]⟩, ⟨#[49]⟩, false⟩, ⟨⟨#[98]⟩, ⟨#[]⟩, true⟩] := by
  have s1 : Small [(⟨⟨#[98]⟩, ⟨#[50]⟩, false⟩ : S114)] := by intro e he; simp at he; subst he; decide
  have s2 : Small [(⟨⟨#[97]⟩, ⟨#[49]⟩, false⟩ : S114), ⟨⟨#[98]⟩, ⟨#[]⟩, true⟩] := by
    intro e he
    simp at he
    rcases he with rfl | rfl <;> decide
  have m1 : May ⟨#[]⟩ ⟨#[]⟩ true [(⟨⟨#[98]⟩, ⟨#[50]⟩, false⟩ : S114)] := by
    intro i hi
    obtain rfl : i = 0 := by simpa using hi
    refine ⟨?_, (fun h => by cases h), (fun h => by omega)⟩
    simp [hasB, bl, Lib.toList_data, Op.bytesLess]
  have m2 : May ⟨#[]⟩ ⟨#[]⟩ true [(⟨⟨#[97]⟩, ⟨#[49]⟩, false⟩ : S114), ⟨⟨#[98]⟩, ⟨#[]⟩, true⟩] := by
    intro i hi
    have hi' : i < 2 := hi
    rcases (show i = 0 ∨ i = 1 by omega) with rfl | rfl
    · refine ⟨?_, (fun h => by cases h), (fun h => by omega)⟩
      simp [hasB, bl, Lib.toList_data, Op.bytesLess]
    · refine ⟨?_, fun _ => by simp [Lib.toList_data], fun _ => ?_⟩
      · simp [hasB, bl, Lib.toList_data, Op.bytesLess]
      · simp [bl, Lib.toList_data, Op.bytesLess]
  have hM : mergeL [(⟨⟨#[98]⟩, ⟨#[50]⟩, false⟩ : S114)] [(⟨⟨#[97]⟩, ⟨#[49]⟩, false⟩ : S114), ⟨⟨#[98]⟩, ⟨#[]⟩, true⟩] = [(⟨⟨#[97]⟩, ⟨#[49]⟩, false⟩ : S114), ⟨⟨#[98]⟩, ⟨#[]⟩, true⟩] := by
    simp [mergeL, bl, Lib.toList_data, Op.bytesLess]
  rcases ev_new _ (by simp) s1 1 0 ⟨#[]⟩ ⟨#[]⟩ true with ⟨_, T, hT, h1⟩ | ⟨hn, _⟩
  rotate_left
  · exact absurd m1 hn
  rcases ev_apply [(⟨⟨#[98]⟩, ⟨#[50]⟩, false⟩ : S114)] _ (by simp) s1 s2 T 1 0 2 ⟨#[]⟩ ⟨#[]⟩ true with ⟨_, T', hT', h2⟩ | ⟨hn, _⟩
  rotate_left
  · exact absurd m2 hn
  rw [hM] at hT' h2
  have g1 := ev_get _ (by simp) T' hT' (⟨#[97]⟩ : ByteArray) (by decide) 2 (rateF 0 2) ⟨#[]⟩ ⟨#[]⟩ true false
  have g2 := ev_get _ (by simp) T' hT' (⟨#[98]⟩ : ByteArray) (by decide) 2 (rateF 0 2) ⟨#[]⟩ ⟨#[]⟩ true false
  have g3 := ev_live [(⟨⟨#[97]⟩, ⟨#[49]⟩, false⟩ : S114), ⟨⟨#[98]⟩, ⟨#[]⟩, true⟩] (by simp) T' 2 (rateF 0 2) ⟨#[]⟩ ⟨#[]⟩ true false
  have t1 : tell ([(⟨⟨#[97]⟩, ⟨#[49]⟩, false⟩ : S114), ⟨⟨#[98]⟩, ⟨#[]⟩, true⟩].find? (is ⟨#[97]⟩)) = (⟨#[49]⟩, true) := by simp [is, tell]
  have t2 : tell ([(⟨⟨#[97]⟩, ⟨#[49]⟩, false⟩ : S114), ⟨⟨#[98]⟩, ⟨#[]⟩, true⟩].find? (is ⟨#[98]⟩)) = (⟨#[]⟩, false) := by simp [is, tell, Lib.toList_data]
  rw [t1] at g1
  rw [t2] at g2
  have e1 : ((liveN [(⟨⟨#[97]⟩, ⟨#[49]⟩, false⟩ : S114), ⟨⟨#[98]⟩, ⟨#[]⟩, true⟩] : Nat) : Int) = 1 := by simp [liveN]
  rw [e1] at g3
  exact ⟨_, _, T, T', 2, rateF 0 2, h1, h2, g1, g2, g3, trivial, trivial, rfl, rfl⟩
/-! the law's entries -/
def cv (e : S62) : S114 := ⟨e.f0, e.f1, e.f2⟩
theorem rd62 (l : List S62) (i : Nat) (h : i < l.length) : cv (rd_T62 l (i : Int)) = (l.map cv).getD i z114 := by
  simp [rd_T62, List.getD_eq_getElem?_getD, List.getElem?_eq_getElem h]
theorem of_loop (l : List S62) (hl : l.length ≤ 1000) : ∀ d i, i + d = l.length → Ev (fun n => rundlelaw08_Of.l0 n l ((l.map cv).take i) (i : Int)) (l.map cv) := by
  intro d
  induction d with
  | zero =>
    intro i hid
    refine Ev.step (f := fun _ => some (l.map cv)) (fun n => ?_) (Ev.now _)
    simp only [rundlelaw08_Of.l0]
    rw [if_neg (by omega), List.take_of_length_le (by rw [List.length_map]; omega)]
  | succ d ih =>
    intro i hid
    refine Ev.step (fun n => ?_) (ih (i + 1) (by omega))
    simp only [rundlelaw08_Of.l0, w_up i (by omega)]
    rw [if_pos (by omega), if_pos (by omega), if_pos (by rw [List.length_take]; omega), take_one (l.map cv) i (by rw [List.length_map]; omega), ← rd62 l i (by omega)]
    rfl
theorem ev_of8 (l : List S62) (hl : l.length ≤ 1000) : Ev (fun n => rundlelaw08_Of.f n l) (l.map cv) := by
  have := of_loop l hl l.length 0 (by omega)
  exact this
theorem few8_loop (l : List S62) (hl : l.length ≤ 1000) : ∀ d i, i + d = l.length → (Ev (fun n => rundlelaw08_Few.l0 n l (i : Int)) 1 ∧ ∀ m : Nat, i ≤ m → m < l.length → ((l.map cv).getD m z114).f0.size ≤ 40 ∧ ((l.map cv).getD m z114).f1.size ≤ 40) ∨ Ev (fun n => rundlelaw08_Few.l0 n l (i : Int)) 0 := by
  intro d
  induction d with
  | zero =>
    intro i hid
    refine Or.inl ⟨Ev.step (f := fun _ => some 1) (fun n => ?_) (Ev.now _), fun m h1 h2 => by omega⟩
    simp only [rundlelaw08_Few.l0]
    rw [if_neg (by omega)]
  | succ d ih =>
    intro i hid
    have er := rd62 l i (by omega)
    have e0 : (rd_T62 l (i : Int)).f0 = ((l.map cv).getD i z114).f0 := by rw [← er]; rfl
    have e1 : (rd_T62 l (i : Int)).f1 = ((l.map cv).getD i z114).f1 := by rw [← er]; rfl
    by_cases c : (((l.map cv).getD i z114).f0.size : Int) > 40
    · refine Or.inr (Ev.step (f := fun _ => some 0) (fun n => ?_) (Ev.now _))
      simp only [rundlelaw08_Few.l0, e0, e1]
      rw [if_pos (by omega), if_pos (by omega), if_pos c]
    · by_cases c2 : (((l.map cv).getD i z114).f1.size : Int) > 40
      · refine Or.inr (Ev.step (f := fun _ => some 0) (fun n => ?_) (Ev.now _))
        simp only [rundlelaw08_Few.l0, e0, e1]
        rw [if_pos (by omega), if_pos (by omega), if_neg c, if_pos c2]
      · have st : ∀ r : Int, Ev (fun n => rundlelaw08_Few.l0 n l ((i + 1 : Nat) : Int)) r → Ev (fun n => rundlelaw08_Few.l0 n l (i : Int)) r := by
          intro r hr
          refine Ev.step (fun n => ?_) hr
          simp only [rundlelaw08_Few.l0, e0, e1, w_up i (by omega)]
          rw [if_pos (by omega), if_pos (by omega), if_neg c, if_neg c2]
        rcases ih (i + 1) (by omega) with ⟨h1, h2⟩ | h1
        · refine Or.inl ⟨st _ h1, fun m h3 h4 => ?_⟩
          by_cases e : m = i
          · subst e; exact ⟨by omega, by omega⟩
          · exact h2 m (by omega) h4
        · exact Or.inr (st _ h1)
theorem few8 (l : List S62) : (Ev (fun n => rundlelaw08_Few.f n l) 1 ∧ l.length ≤ 70 ∧ Small (l.map cv) ∧ ∀ e ∈ l.map cv, e.f1.size ≤ 40) ∨ Ev (fun n => rundlelaw08_Few.f n l) 0 := by
  unfold rundlelaw08_Few.f
  by_cases c : (l.length : Int) > 70
  · refine Or.inr ?_
    simp only [if_pos c]
    exact Ev.now _
  · simp only [if_neg c]
    rcases few8_loop l (by omega) l.length 0 (by omega) with ⟨h1, h2⟩ | h1
    · have hm : ∀ e ∈ l.map cv, e.f0.size ≤ 40 ∧ e.f1.size ≤ 40 := fun e he => by
        obtain ⟨j, hj, ej⟩ := List.getElem_of_mem he
        have := h2 j (by omega) (by simpa using hj)
        rw [List.getD_eq_getElem?_getD, List.getElem?_eq_getElem hj, Option.getD_some, ej] at this
        exact this
      exact Or.inl ⟨h1, by omega, fun e he => (hm e he).1, fun e he => (hm e he).2⟩
    · exact Or.inr h1
/-! what is split and joined again -/
def liv (l : List S114) : List S114 := l.filter fun e => !e.f2
theorem liv_len (l : List S114) : (liv l).length ≤ l.length := List.length_filter_le _ _
theorem ev_lv (l : List S114) (hl : l.length ≤ 1000) (T : List Int) (v r : Int) (lo hi : ByteArray) (al de : Bool) : Ev (fun n => rev_live.f n v r lo hi al de (keysOf l) (valsOf l) (goneOf l) T) (liv l) := by
  unfold rev_live.f
  refine Ev.bind (ev_entries l hl T v r lo hi al de) ?_
  simp only [if_pos (show l.length < 1000000 by omega)]
  exact Ev.now _
theorem bl_nil (a : ByteArray) : bl a (⟨#[]⟩ : ByteArray) = false := by
  unfold bl
  rw [nil_list]
  cases a.toList <;> rfl
theorem mxs_nil (a : ByteArray) : mxs a (⟨#[]⟩ : ByteArray) = a := by
  unfold mxs
  rw [if_neg (by have := bl_nil a; unfold bl at this; rw [this]; decide)]
theorem mxs_up (a k : ByteArray) (h : bl k a = false) : (mxs a k).toList = k.toList := by
  unfold mxs
  by_cases c : Op.bytesLess a.toList k.toList = true
  · rw [if_pos c]
  · rw [if_neg c]
    exact bl_total _ _ (Bool.eq_false_iff.2 c) h
theorem has_parts {lo hi : ByteArray} {al : Bool} {k : ByteArray} (h : hasB lo hi al k = true) : bl k lo = false ∧ (al = true ∨ bl k hi = true) := by
  unfold hasB at h
  simp only [Bool.and_eq_true, Bool.or_eq_true, Bool.not_eq_true'] at h
  exact h
theorem cut_in {lo hi : ByteArray} {al : Bool} {k : ByteArray} (h : hasB lo hi al k = true) : key_Cut.f lo hi al k = some (lo, k, false, mxs lo k, if al = true then (⟨#[]⟩ : ByteArray) else hi, al) := by
  obtain ⟨h1, h2⟩ := has_parts h
  unfold key_Cut.f key_Meet.f key_upper.f
  rcases h2 with rfl | h2
  · simp [mxs_nil]
  · cases al
    · simp only [Bool.false_eq_true, if_false, if_pos h2, Option.bind_some, mxs_nil, if_true]
    · simp [mxs_nil]
theorem meet_whole (lo hi : ByteArray) (al : Bool) : key_Meet.f lo hi al ⟨#[]⟩ ⟨#[]⟩ true = some (lo, if al = true then (⟨#[]⟩ : ByteArray) else hi, al) := by
  unfold key_Meet.f key_upper.f
  cases al <;> simp [mxs_nil]
theorem joins_in {lo hi : ByteArray} {al : Bool} {k : ByteArray} (h : hasB lo hi al k = true) (lo' hi' : ByteArray) (al' : Bool) : key_Joins.f lo' k false (mxs lo k) hi' al' = some true := by
  unfold key_Joins.f
  rw [if_neg (by decide), mxs_up lo k (has_parts h).1]
  simp
theorem good_a {lo hi : ByteArray} {al : Bool} {k : ByteArray} (h : hasB lo hi al k = true) : key_Good.f lo k false = some true := by
  unfold key_Good.f
  rw [if_neg (by decide)]
  have := (has_parts h).1
  unfold bl at this
  rw [this]
  rfl
theorem good_b {lo hi : ByteArray} {al : Bool} {k : ByteArray} (h : hasB lo hi al k = true) : key_Good.f (mxs lo k) (if al = true then (⟨#[]⟩ : ByteArray) else hi) al = some true := by
  unfold key_Good.f
  cases al
  · obtain ⟨h1, h2⟩ := has_parts h
    rcases h2 with h2 | h2
    · cases h2
    rw [if_neg (by decide), if_neg (by decide), mxs_up lo k h1, bl_asymm _ _ h2]
    rfl
  · rfl
theorem mx_same (r : Int) : mx r r = r := by simp [mx]
theorem find_liv (k : ByteArray) : ∀ (l : List S114), Rise l → tell ((liv l).find? (is k)) = tell (l.find? (is k))
  | [], _ => rfl
  | e :: l, h => by
    have h' := List.pairwise_cons.1 h
    have ih := find_liv k l h'.2
    by_cases g : e.f2 = true
    · have e1 : liv (e :: l) = liv l := List.filter_cons_of_neg (by simp [g])
      rw [e1]
      by_cases c : e.f0.toList = k.toList
      · rw [List.find?_cons_of_pos (by simp [is, c])]
        have e2 : (liv l).find? (is k) = none := find_none_of fun x hx => by
          have := h'.1 x (List.mem_filter.1 hx).1
          unfold bl at this ⊢
          rw [← c]
          exact this
        rw [e2]
        simp [tell, g]
      · rw [List.find?_cons_of_neg (by simp [is, c])]
        exact ih
    · have e1 : liv (e :: l) = e :: liv l := List.filter_cons_of_pos (by simp [g])
      rw [e1]
      by_cases c : e.f0.toList = k.toList
      · rw [List.find?_cons_of_pos (by simp [is, c]), List.find?_cons_of_pos (by simp [is, c])]
      · rw [List.find?_cons_of_neg (by simp [is, c]), List.find?_cons_of_neg (by simp [is, c])]
        exact ih
theorem liv_same {l : List S114} (h : ∀ e ∈ l, e.f2 = false) : liv l = l := List.filter_eq_self.2 fun e he => by simp [h e he]
theorem liv_gone {l : List S114} : ∀ e ∈ liv l, e.f2 = false := fun e he => by simpa using (List.mem_filter.1 he).2
theorem has_mem {lo hi : ByteArray} {al : Bool} {l : List S114} (h : May lo hi al l) {e : S114} (he : e ∈ l) : hasB lo hi al e.f0 = true := by
  obtain ⟨i, hi, rfl⟩ := List.getElem_of_mem he
  have := (h i hi).1
  rwa [List.getD_eq_getElem?_getD, List.getElem?_eq_getElem hi] at this
theorem small_sub {l m : List S114} (h : Small l) (hm : ∀ e ∈ m, e ∈ l) : Small m := fun e he => h e (hm e he)
/-- What Split, and Join, make of a revision. -/
theorem back_facts (M : List S114) (hl : M.length ≤ 1000) (hs : Small M) (v r : Int) (lo hi : ByteArray) (al : Bool) (hM : May lo hi al M) (T : List Int) :
    ((liv M).length ≤ 1 ∧ Ev (fun n => rev_Split.f n v r lo hi al false (keysOf M) (valsOf M) (goneOf M) T) (0, 0, (⟨#[]⟩ : ByteArray), (⟨#[]⟩ : ByteArray), false, false, ([] : List ByteArray), ([] : List ByteArray), ([] : List Bool), ([] : List Int), 0, 0, (⟨#[]⟩ : ByteArray), (⟨#[]⟩ : ByteArray), false, false, ([] : List ByteArray), ([] : List ByteArray), ([] : List Bool), ([] : List Int), false)) ∨
    ∃ (La Lb : List S114) (k k' : ByteArray) (Ta Tb Tj : List Int), La.length ≤ 1000 ∧ Lb.length ≤ 1000 ∧ liv La = La ∧ liv Lb = Lb ∧ La ++ Lb = liv M ∧ (((La.length : Int) - (Lb.length : Int)) = 0 ∨ ((La.length : Int) - (Lb.length : Int)) = 1) ∧ Tab (keysOf (La ++ Lb)) Tj ∧
      Ev (fun n => rev_Split.f n v r lo hi al false (keysOf M) (valsOf M) (goneOf M) T) (v, r, lo, k, false, false, keysOf La, valsOf La, goneOf La, Ta, v, r, k', (if al = true then (⟨#[]⟩ : ByteArray) else hi), al, false, keysOf Lb, valsOf Lb, goneOf Lb, Tb, true) ∧
      Ev (fun n => rev_Join.f n v r lo k false false (keysOf La) (valsOf La) (goneOf La) Ta v r k' (if al = true then (⟨#[]⟩ : ByteArray) else hi) al false (keysOf Lb) (valsOf Lb) (goneOf Lb) Tb) (v, r, lo, (if al = true then (⟨#[]⟩ : ByteArray) else hi), al, false, keysOf (La ++ Lb), valsOf (La ++ Lb), goneOf (La ++ Lb), Tj, true) ∧
      key_Joins.f lo k false k' (if al = true then (⟨#[]⟩ : ByteArray) else hi) al = some true := by
  have hn := liv_len M
  by_cases h1 : (liv M).length ≤ 1
  · refine Or.inl ⟨h1, ?_⟩
    unfold rev_Split.f
    refine Ev.bind (ev_lv M hl T v r lo hi al false) ?_
    simp only [if_pos (show ((liv M).length : Int) ≤ 1 by omega)]
    exact Ev.now _
  obtain ⟨h, hh⟩ : ∃ h : Nat, h = (liv M).length - (liv M).length / 2 := ⟨_, rfl⟩
  have hlt : h < (liv M).length := by omega
  have hw : wrap64 (((liv M).length : Int) - wrap64 (((liv M).length : Int) / 2)) = (h : Int) := by
    unfold wrap64
    omega
  obtain ⟨e, hge⟩ : ∃ e, (liv M).getD h z114 = e := ⟨_, rfl⟩
  have hem : e ∈ liv M := by
    rw [← hge, List.getD_eq_getElem?_getD, List.getElem?_eq_getElem hlt]
    exact List.getElem_mem hlt
  have hk := has_mem hM ((List.mem_filter.1 hem).1)
  have ma : ∀ x ∈ (liv M).take h, x ∈ liv M := fun x hx => List.mem_of_mem_take hx
  have mb : ∀ x ∈ (liv M).drop h, x ∈ liv M := fun x hx => List.mem_of_mem_drop hx
  have sl : Small (liv M) := small_sub hs fun x hx => (List.mem_filter.1 hx).1
  have la : ((liv M).take h).length ≤ 1000 := by rw [List.length_take]; omega
  have lb : ((liv M).drop h).length ≤ 1000 := by rw [List.length_drop]; omega
  obtain ⟨Ta, hTa⟩ := tab_ex ((liv M).take h) la (small_sub sl ma)
  obtain ⟨Tb, hTb⟩ := tab_ex ((liv M).drop h) lb (small_sub sl mb)
  have hab : (liv M).take h ++ (liv M).drop h = liv M := List.take_append_drop _ _
  obtain ⟨Tj, hTj⟩ := tab_ex (liv M) (by omega) sl
  have ga : liv ((liv M).take h) = (liv M).take h := liv_same fun x hx => liv_gone x (ma x hx)
  have gb : liv ((liv M).drop h) = (liv M).drop h := liv_same fun x hx => liv_gone x (mb x hx)
  refine Or.inr ⟨(liv M).take h, (liv M).drop h, e.f0, mxs lo e.f0, Ta, Tb, Tj, la, lb, ga, gb, hab, ?_, ?_, ?_, ?_, joins_in hk _ _ _⟩
  · rw [List.length_take, List.length_drop]
    omega
  · rw [hab]
    exact hTj
  · obtain ⟨j, q1, q2, q3, q4, q5⟩ := hTa
    obtain ⟨i, p1, p2, p3, p4, p5⟩ := hTb
    unfold rev_Split.f
    refine Ev.bind (ev_lv M hl T v r lo hi al false) ?_
    rw [hw, rd114, hge, cut_in hk]
    simp only [if_neg (show ¬ ((liv M).length : Int) ≤ 1 by omega), if_pos (show (0 : Int) ≤ (h : Int) by omega), if_pos (show (h : Int) < ((liv M).length : Int) by omega), if_pos (show (h : Int) ≤ ((liv M).length : Int) by omega), Option.bind_some, Int.toNat_natCast]
    refine Ev.bind (ev_laid _ la v r lo e.f0 false Ta q5) ?_
    exact Ev.bind (ev_laid _ lb v r (mxs lo e.f0) _ al Tb p5) (Ev.now _)
  · obtain ⟨j, q1, q2, q3, q4, q5⟩ := hTj
    have lj : (liv M).length ≤ 1000 := by omega
    have ev1 := ev_lv _ la Ta v r lo e.f0 false false
    have ev2 := ev_lv _ lb Tb v r (mxs lo e.f0) (if al = true then (⟨#[]⟩ : ByteArray) else hi) al false
    rw [ga] at ev1
    rw [gb] at ev2
    unfold rev_Join.f
    simp only [joins_in hk, good_a hk, good_b hk, Bool.false_eq_true, if_false, Option.bind_some, if_true, Bool.not_true]
    refine Ev.step (fun n => (by simp only [rev_Join.j0, Bool.false_eq_true, if_false]; rfl)) ?_
    refine Ev.bind ev1 ?_
    refine Ev.bind ev2 ?_
    unfold api_Entry_82.f
    have fl : ([(liv M).take h, (liv M).drop h] : List (List S114)).flatten = liv M := by simp
    rw [fl, mx_same, mx_same, hab]
    simp only [if_pos (show ([(liv M).take h, (liv M).drop h] : List (List S114)).length < 1000 by simp), if_pos (show (liv M).length < 1000000 by omega), Option.bind_some]
    exact Ev.bind (ev_laid _ lj v r lo _ al Tj q5) (Ev.now _)
/-- All that the law asks of a revision, of its halves, and of what they are together. -/
theorem back_all (M : List S114) (hl : M.length ≤ 1000) (hs : Small M) (v r : Int) (lo hi : ByteArray) (al : Bool) (hM : May lo hi al M) (T : List Int) (hT : Tab (keysOf M) T) (k : ByteArray) (hk : k.size ≤ 140737488351232) :
    (∃ N : Int, N < 2 ∧ Ev (fun n => rev_Live.f n v r lo hi al false (keysOf M) (valsOf M) (goneOf M) T) N ∧ Ev (fun n => rev_Split.f n v r lo hi al false (keysOf M) (valsOf M) (goneOf M) T) (0, 0, (⟨#[]⟩ : ByteArray), (⟨#[]⟩ : ByteArray), false, false, ([] : List ByteArray), ([] : List ByteArray), ([] : List Bool), ([] : List Int), 0, 0, (⟨#[]⟩ : ByteArray), (⟨#[]⟩ : ByteArray), false, false, ([] : List ByteArray), ([] : List ByteArray), ([] : List Bool), ([] : List Int), false)) ∨
    ∃ (La Lb Lj : List S114) (k2 k3 hi2 : ByteArray) (Ta Tb Tj : List Int) (na nb N d : Int) (p : ByteArray × Bool), (d = 0 ∨ d = 1) ∧ wrap64 (na - nb) = d ∧ key_Meet.f lo hi al ⟨#[]⟩ ⟨#[]⟩ true = some (lo, hi2, al) ∧
      Ev (fun n => rev_Split.f n v r lo hi al false (keysOf M) (valsOf M) (goneOf M) T) (v, r, lo, k2, false, false, keysOf La, valsOf La, goneOf La, Ta, v, r, k3, hi2, al, false, keysOf Lb, valsOf Lb, goneOf Lb, Tb, true) ∧
      Ev (fun n => rev_Join.f n v r lo k2 false false (keysOf La) (valsOf La) (goneOf La) Ta v r k3 hi2 al false (keysOf Lb) (valsOf Lb) (goneOf Lb) Tb) (v, r, lo, hi2, al, false, keysOf Lj, valsOf Lj, goneOf Lj, Tj, true) ∧
      key_Joins.f lo k2 false k3 hi2 al = some true ∧
      Ev (fun n => rev_Live.f n v r lo k2 false false (keysOf La) (valsOf La) (goneOf La) Ta) na ∧ Ev (fun n => rev_Live.f n v r k3 hi2 al false (keysOf Lb) (valsOf Lb) (goneOf Lb) Tb) nb ∧
      Ev (fun n => rev_Live.f n v r lo hi2 al false (keysOf Lj) (valsOf Lj) (goneOf Lj) Tj) N ∧ Ev (fun n => rev_Live.f n v r lo hi al false (keysOf M) (valsOf M) (goneOf M) T) N ∧
      Ev (fun n => rev_Get.f n v r lo hi al false (keysOf M) (valsOf M) (goneOf M) T k) p ∧ Ev (fun n => rev_Get.f n v r lo hi2 al false (keysOf Lj) (valsOf Lj) (goneOf Lj) Tj k) p := by
  rcases back_facts M hl hs v r lo hi al hM T with ⟨h1, h2⟩ | ⟨La, Lb, k2, k3, Ta, Tb, Tj, hla, hlb, hva, hvb, hab, hd, hTj, hS, hJ, hK⟩
  · refine Or.inl ⟨(liveN M : Int), ?_, ev_live M hl T v r lo hi al false, h2⟩
    have : liveN M = (liv M).length := rfl
    omega
  · have hn := liv_len M
    have e1 : liveN La = La.length := by show (liv La).length = _; rw [hva]
    have e2 : liveN Lb = Lb.length := by show (liv Lb).length = _; rw [hvb]
    have e3 : liveN (La ++ Lb) = liveN M := by
      show (liv (La ++ Lb)).length = (liv M).length
      rw [hab, liv_same (liv_gone (l := M))]
    have hj : (La ++ Lb).length ≤ 1000 := by rw [hab]; omega
    refine Or.inr ⟨La, Lb, La ++ Lb, k2, k3, _, Ta, Tb, Tj, (liveN La : Int), (liveN Lb : Int), (liveN M : Int), (La.length : Int) - (Lb.length : Int), tell (M.find? (is k)), hd, ?_, meet_whole lo hi al, hS, hJ, hK, ev_live La hla Ta v r _ _ _ _, ev_live Lb hlb Tb v r _ _ _ _, ?_, ev_live M hl T v r _ _ _ _, ev_get M hl T hT k hk v r _ _ _ _, ?_⟩
    · rw [e1, e2]
      unfold wrap64
      omega
    · rw [← e3]
      exact ev_live (La ++ Lb) hj Tj v r _ _ _ _
    · have := ev_get (La ++ Lb) hj Tj hTj k hk v r lo (if al = true then (⟨#[]⟩ : ByteArray) else hi) al false
      rw [hab, find_liv k M (may_rise hM)] at this
      rw [hab]
      exact this
end Go.Proofs.Ytoaacdjcjicemaa.Pure
