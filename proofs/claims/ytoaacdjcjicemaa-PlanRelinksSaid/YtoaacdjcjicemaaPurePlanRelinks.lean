/- What has to be changed, and nothing else, is told; for all nodes and versions. -/
import Derived.Test.YtoaacdjcjicemaaPPlanRelinksx14
import Derived.Lib.Strings
import Derived.Laws.BitsLemmas
import Derived.Lib.Strings
import Derived.Laws.BitsAllLaws
import Derived.Laws.BitsLemmas
import Derived.Laws.BitsAllLaws
namespace Go.Proofs.Ytoaacdjcjicemaa.Pure
open Go.RowKit Go.Proofs.Ytoaacdjcjicemaa.PPlanRelinks Go.Proofs.YtoaacdjcjicemaaW.PrintWords Go.Proofs.YtoaacdjcjicemaaW.PrintLast
set_option linter.unusedVariables false
set_option linter.unusedSimpArgs false

/-- one byte more -/
def y32 (x b : Int) : Int := (x + b) % 4294967296
def m10 (y : Int) : Int := (y * 1025) % 4294967296
def xs (t s : Nat) : Nat := t ^^^ (t / s)
def hs (x b : Int) : Int := ((xs (m10 (y32 x b)).toNat 64 : Nat) : Int)
def bytes (s : ByteArray) : List Int := s.data.toList.map fun c => (c.toNat : Int)
def hadd (h : Int) (l : List Int) : Int := l.foldl hs h
theorem xor32 (t : Int) (s : Nat) (h0 : 0 ≤ t) (h1 : t < 4294967296) : Go.bits .xor .u32 t (t / (s : Int)) = ((xs t.toNat s : Nat) : Int) := by
  obtain ⟨n, rfl⟩ := Int.eq_ofNat_of_zero_le h0
  have e : ((n : Int) / (s : Int)) = ((n / s : Nat) : Int) := by simp
  have hn : n < 4294967296 := by omega
  have hd : n / s ≤ n := Nat.div_le_self n s
  rw [e, u32_xor_nat n (n / s) hn (by omega)]
  rfl
theorem bt_eq (s : ByteArray) (i : Nat) (h : i < s.size) : bt s (i : Int) = (bytes s).getD i 0 := by
  have h2 : i < s.data.toList.length := by simpa using h
  unfold bt bytes
  rw [dif_pos (by simpa using h), List.getD_eq_getElem?_getD, List.getElem?_map, List.getElem?_eq_getElem h2]
  simp [ByteArray.getElem_eq_getElem_data]
theorem bytes_len (s : ByteArray) : (bytes s).length = s.size := by simp [bytes]
theorem bytes_bd (s : ByteArray) : ∀ b ∈ bytes s, 0 ≤ b ∧ b < 256 := by
  intro b hb
  unfold bytes at hb
  obtain ⟨c, _, rfl⟩ := List.mem_map.1 hb
  have := c.toNat_lt
  omega
theorem step_eq (x b : Int) (hb : 0 ≤ b ∧ b < 256) :
    Go.bits .xor .u32 ((((x + (b % 4294967296)) % 4294967296) + ((((x + (b % 4294967296)) % 4294967296) * 1024) % 4294967296)) % 4294967296) (((((x + (b % 4294967296)) % 4294967296) + ((((x + (b % 4294967296)) % 4294967296) * 1024) % 4294967296)) % 4294967296) / 64) = hs x b := by
  have e0 : b % 4294967296 = b := by omega
  rw [e0]
  have e : (((x + b) % 4294967296) + ((((x + b) % 4294967296) * 1024) % 4294967296)) % 4294967296 = m10 (y32 x b) := by
    unfold m10 y32; omega
  rw [e]
  exact xor32 _ 64 (by unfold m10; omega) (by unfold m10; omega)
theorem add_loop (s : ByteArray) (hz : s.size ≤ 140737488351232) : ∀ (d k : Nat) (x : Int) (i : Nat), i + d = s.size → d < k →
    hash_Add.l0 k x s (s.size : Int) (i : Int) = some (hadd x ((bytes s).drop i)) := by
  intro d
  induction d with
  | zero =>
    intro k x i hi hk
    obtain ⟨k, rfl⟩ : ∃ m, k = m + 1 := ⟨k - 1, by omega⟩
    simp only [hash_Add.l0]
    rw [if_neg (by omega), List.drop_of_length_le (by rw [bytes_len]; omega)]
    rfl
  | succ d ih =>
    intro k x i hi hk
    obtain ⟨k, rfl⟩ : ∃ m, k = m + 1 := ⟨k - 1, by omega⟩
    have hlt : i < s.size := by omega
    have hl : i < (bytes s).length := by rw [bytes_len]; exact hlt
    simp only [hash_Add.l0]
    rw [if_pos (by omega), if_pos (by omega), if_pos (by omega), bt_eq s i hlt]
    have hg : (bytes s).getD i 0 = (bytes s)[i] := by rw [List.getD_eq_getElem?_getD, List.getElem?_eq_getElem hl]; rfl
    have hb := bytes_bd s (bytes s)[i] (List.getElem_mem hl)
    rw [hg, step_eq x _ hb]
    have ew : wrap64 ((i : Int) + 1) = ((i + 1 : Nat) : Int) := by unfold wrap64; omega
    rw [ew, ih k _ (i + 1) (by omega) (by omega), List.drop_eq_getElem_cons hl]
    rfl
theorem add_eq (s : ByteArray) (hz : s.size ≤ 140737488351232) (k : Nat) (h : Int) (hk : s.size < k) : hash_Add.f k h s = some (hadd h (bytes s)) := by
  unfold hash_Add.f
  have := add_loop s hz s.size k h 0 (by omega) hk
  simpa using this
def m3 (h : Int) : Int := (h * 9) % 4294967296
def m15 (h : Int) : Int := (h * 32769) % 4294967296
def he (h : Int) : Int := m15 ((xs (m3 h).toNat 2048 : Nat) : Int)
theorem end_eq (h : Int) : hash_End.f h = some (he h) := by
  unfold hash_End.f
  have e : (h + ((h * 8) % 4294967296)) % 4294967296 = m3 h := by unfold m3; omega
  rw [e]
  have x := xor32 (m3 h) 2048 (by unfold m3; omega) (by unfold m3; omega)
  have x' : Go.bits .xor .u32 (m3 h) (m3 h / 2048) = ((xs (m3 h).toNat 2048 : Nat) : Int) := x
  rw [x']
  congr 1
  unfold he m15
  generalize ((xs (m3 h).toNat 2048 : Nat) : Int) = z
  omega
theorem of_eq (s : ByteArray) (hz : s.size ≤ 140737488351232) (k : Nat) (hk : s.size < k) : hash_Of.f k s = some (he (hadd 0 (bytes s))) := by
  unfold hash_Of.f
  rw [add_eq s hz k 0 hk]
  simp only [Option.bind_some, end_eq]
/-! sizes of tables -/
theorem pow_s (j : Nat) : (2 : Int) ^ (j + 1) = 2 * 2 ^ j := by rw [Int.pow_succ]; omega
theorem pow_pos' (j : Nat) : (1 : Int) ≤ 2 ^ j := by
  induction j with
  | zero => decide
  | succ j ih => rw [pow_s]; omega
theorem pow_mono' {i j : Nat} (h : i ≤ j) : (2 : Int) ^ i ≤ 2 ^ j := by
  induction h with
  | refl => exact Int.le_refl _
  | step _ ih => rw [pow_s]; have := pow_pos' i; omega
/-- 2^j is the least that is enough for n. -/
def Least (n : Int) (j : Nat) : Prop := n ≤ 2 ^ j ∧ (j = 0 ∨ 2 ^ (j - 1) < n)
theorem least_some (n : Int) : ∀ d, n ≤ 2 ^ d → ∃ j, j ≤ d ∧ Least n j
  | 0, h => ⟨0, Nat.le_refl _, h, Or.inl rfl⟩
  | d + 1, h => by
    by_cases c : n ≤ 2 ^ d
    · obtain ⟨j, hj, hl⟩ := least_some n d c
      exact ⟨j, by omega, hl⟩
    · exact ⟨d + 1, Nat.le_refl _, h, Or.inr (by rw [Nat.add_sub_cancel]; omega)⟩
theorem psize_loop (n : Int) (j : Nat) (hj : j ≤ 41) (hl : Least n j) : ∀ d i, i + d = j → Ev (fun k => probe_Size.l0 k n (2 * 2 ^ i)) (2 * 2 ^ j) := by
  intro d
  induction d with
  | zero =>
    intro i hi
    obtain rfl : i = j := by omega
    refine Ev.step (f := fun _ => some (2 * 2 ^ i)) (fun k => ?_) (Ev.now _)
    simp only [probe_Size.l0]
    have h1 := hl.1
    have p := pow_pos' i
    have q := pow_mono' (i := i) (j := 41) hj
    have e : wrap64 (Int.tdiv (2 * 2 ^ i) 2) = 2 ^ i := by
      rw [Int.tdiv_eq_ediv_of_nonneg (by omega)]
      unfold wrap64
      omega
    rw [e, if_neg (by omega)]
  | succ d ih =>
    intro i hi
    refine Ev.step (f := fun k => probe_Size.l0 k n (2 * 2 ^ (i + 1))) (fun k => ?_) (ih (i + 1) (by omega))
    simp only [probe_Size.l0]
    have p := pow_pos' i
    have q := pow_mono' (i := i) (j := 40) (by omega)
    have e : wrap64 (Int.tdiv (2 * 2 ^ i) 2) = 2 ^ i := by
      rw [Int.tdiv_eq_ediv_of_nonneg (by omega)]
      unfold wrap64
      omega
    have h2 : (2 : Int) ^ i < n := by
      rcases hl.2 with e | e
      · omega
      · have := pow_mono' (i := i) (j := j - 1) (by omega); omega
    have e2 : wrap64 (2 * 2 ^ i * 2) = 2 * 2 ^ (i + 1) := by
      rw [pow_s]
      unfold wrap64
      omega
    rw [e, if_pos h2, e2]
theorem psize (n : Int) (j : Nat) (hj : j ≤ 41) (hl : Least n j) : Ev (fun k => probe_Size.f k n) (2 * 2 ^ j) := by
  have := psize_loop n j hj hl j 0 (by omega)
  exact this
/-- masks by a table's size -/
theorem wraps_i64 (n : Int) (h₀ : 0 ≤ n) (h₁ : n < 2 ^ 63) : IntKind.i64.wrap n = n := by rw [IntKind.wrap_i64]; omega
theorem mask (x : Int) (j : Nat) (hj : j ≤ 41) (h0 : 0 ≤ x) (h1 : x < 9223372036854775808) : Go.bits .and .i64 x (wrap64 (2 * 2 ^ j - 1)) = x % (2 * 2 ^ j) := by
  have p := pow_pos' j
  have q := pow_mono' (i := j) (j := 41) hj
  have e : wrap64 (2 * 2 ^ j - 1) = 2 ^ (j + 1) - 1 := by
    rw [pow_s]
    unfold wrap64
    omega
  rw [e, ← pow_s]
  exact bits_mask .i64 63 (by decide) wraps_i64 (j + 1) (by omega) x h0 (by omega)
def hsh (k : ByteArray) : Int := he (hadd 0 (bytes k))
theorem hsh_bd (k : ByteArray) : 0 ≤ hsh k ∧ hsh k < 4294967296 := by unfold hsh he m15; omega
theorem ev_of (k : ByteArray) (hz : k.size ≤ 140737488351232) : Ev (fun n => hash_Of.f n k) (hsh k) := ⟨k.size + 1, fun n hn => of_eq k hz n (by omega)⟩
theorem ev_first (k : ByteArray) (hz : k.size ≤ 140737488351232) (j : Nat) (hj : j ≤ 41) : Ev (fun n => probe_first.f n (2 * 2 ^ j) k) (hsh k % (2 * 2 ^ j)) := by
  unfold probe_first.f
  refine Ev.bind (ev_of k hz) ?_
  have b := hsh_bd k
  have e : wrap64 (hsh k) = hsh k := by unfold wrap64; omega
  rw [e, mask _ j hj b.1 (by omega)]
  exact Ev.now _
/-- the place of the i-th look -/
theorem next_at (N a : Int) (hN : 0 < N) : (a % N + 1) % N = (a + 1) % N := by
  rw [Int.add_emod, Int.emod_emod_of_dvd _ (Int.dvd_refl N), ← Int.add_emod]
theorem emod_bd (N a : Int) (hN : 0 < N) : 0 ≤ a % N ∧ a % N < N := ⟨Int.emod_nonneg _ (by omega), Int.emod_lt_of_pos _ hN⟩
/-! looking for a key -/
def slot (t : List Int) (h : Int) (i : Nat) : Int := rd t ((h + i) % (t.length : Int))
def hits (keys : List ByteArray) (k : ByteArray) (v : Int) : Prop := v > 0 ∧ v ≤ (keys.length : Int) ∧ (rdOf ByteArray.empty keys (v - 1)).toList = k.toList
instance (keys : List ByteArray) (k : ByteArray) (v : Int) : Decidable (hits keys k v) := inferInstanceAs (Decidable (_ ∧ _ ∧ _))
def look (t : List Int) (keys : List ByteArray) (k : ByteArray) : Nat → Nat → Int × Int
  | 0, _ => (-1, (t.length : Int))
  | d + 1, i => if slot t (hsh k) i = 0 then (-1, (i : Int) + 1) else if hits keys k (slot t (hsh k) i) then (slot t (hsh k) i - 1, (i : Int) + 1) else look t keys k d (i + 1)
theorem len_bd (t : List Int) (j : Nat) (hj : j ≤ 41) (ht : (t.length : Int) = 2 * 2 ^ j) : 0 < (t.length : Int) ∧ (t.length : Int) ≤ 4398046511104 := by
  have p := pow_pos' j
  have q := pow_mono' (i := j) (j := 41) hj
  have e : (2 : Int) ^ 41 = 2199023255552 := by decide
  omega
theorem inc_at (a N : Int) (h0 : 0 ≤ a) (h1 : a < N) (h2 : N ≤ 4398046511104) : wrap64 (a + 1) = a + 1 ∧ 0 ≤ a + 1 ∧ a + 1 < 9223372036854775808 := by
  unfold wrap64
  omega
theorem nxt (t : List Int) (j : Nat) (hj : j ≤ 41) (ht : (t.length : Int) = 2 * 2 ^ j) (h : Int) (i : Nat) :
    Go.bits .and .i64 (wrap64 ((h + (i : Int)) % (t.length : Int) + 1)) (wrap64 ((t.length : Int) - 1)) = (h + ((i + 1 : Nat) : Int)) % (t.length : Int) := by
  have hN := len_bd t j hj ht
  have b := emod_bd (t.length : Int) (h + i) hN.1
  obtain ⟨e1, e2, e3⟩ := inc_at _ _ b.1 b.2 hN.2
  have e9 : h + (i : Int) + 1 = h + ((i + 1 : Nat) : Int) := by omega
  rw [e1, ht, mask _ j hj (by rw [← ht]; exact e2) (by rw [← ht]; exact e3), ← ht, next_at _ _ hN.1, e9]
/-! making a table -/
def nz (t : List Int) : Nat := t.countP (· ≠ 0)
theorem rd_nat (t : List Int) (i : Nat) : rd t (i : Int) = t.getD i 0 := by simp [rd]
theorem rd_of (t : List Int) (a : Int) (h0 : 0 ≤ a) (h1 : a < (t.length : Int)) : ∃ h : a.toNat < t.length, rd t a = t[a.toNat] := by
  have h : a.toNat < t.length := by omega
  refine ⟨h, ?_⟩
  unfold rd
  rw [List.getD_eq_getElem?_getD, List.getElem?_eq_getElem h]
  rfl
theorem rd_set (t : List Int) (a b v : Int) (h0 : 0 ≤ a) (h1 : a < (t.length : Int)) (h2 : 0 ≤ b) : rd (t.set a.toNat v) b = if a = b then v else rd t b := by
  unfold rd
  rw [List.getD_eq_getElem?_getD, List.getD_eq_getElem?_getD, List.getElem?_set]
  by_cases c : a = b
  · subst c
    rw [if_pos rfl, if_pos (by omega), if_pos rfl]
    rfl
  · rw [if_neg (by omega), if_neg c]
theorem nz_set (t : List Int) (a v : Int) (h0 : 0 ≤ a) (h1 : a < (t.length : Int)) (hz : rd t a = 0) (hv : v ≠ 0) : nz (t.set a.toNat v) = nz t + 1 := by
  obtain ⟨h, e⟩ := rd_of t a h0 h1
  rw [e] at hz
  unfold nz
  rw [List.countP_set h, hz]
  simp [hv]
theorem all_full (t : List Int) (h : ∀ a : Int, 0 ≤ a → a < (t.length : Int) → rd t a ≠ 0) : nz t = t.length := by
  unfold nz
  rw [List.countP_eq_length]
  intro x hx
  obtain ⟨i, hi, rfl⟩ := List.mem_iff_getElem.1 hx
  have := h (i : Int) (by omega) (by omega)
  rw [rd_nat, List.getD_eq_getElem?_getD, List.getElem?_eq_getElem hi] at this
  simpa using this
theorem least_of (p : Nat → Prop) (n : Nat) : p n → ∃ m, m ≤ n ∧ p m ∧ ∀ i, i < m → ¬ p i := by
  induction n using Nat.strongRecOn with
  | ind n ih =>
    intro h
    by_cases c : ∃ i, i < n ∧ p i
    · obtain ⟨i, hi, hp⟩ := c
      obtain ⟨m, hm, h1, h2⟩ := ih i hi hp
      exact ⟨m, by omega, h1, h2⟩
    · exact ⟨n, Nat.le_refl _, h, fun i hi hp => c ⟨i, hi, hp⟩⟩
theorem slot_at (t : List Int) (h a : Int) (h0 : 0 ≤ a) (h1 : a < (t.length : Int)) : ∃ i : Nat, i < t.length ∧ (h + (i : Int)) % (t.length : Int) = a := by
  have b := emod_bd (t.length : Int) (a - h) (by omega)
  refine ⟨((a - h) % (t.length : Int)).toNat, by omega, ?_⟩
  have e : ((((a - h) % (t.length : Int)).toNat : Nat) : Int) = (a - h) % (t.length : Int) := by omega
  rw [e, Int.add_emod, Int.emod_emod_of_dvd _ (Int.dvd_refl _), ← Int.add_emod]
  have e2 : h + (a - h) = a := by omega
  rw [e2]
  exact Int.emod_eq_of_lt h0 h1
theorem free_slot (t : List Int) (h : Int) (hz : nz t < t.length) : ∃ q, q < t.length ∧ slot t h q = 0 ∧ ∀ p, p < q → slot t h p ≠ 0 := by
  have c : ∃ a : Int, 0 ≤ a ∧ a < (t.length : Int) ∧ rd t a = 0 := by
    apply Classical.byContradiction
    intro n
    have := all_full t (fun a h0 h1 e => n ⟨a, h0, h1, e⟩)
    omega
  obtain ⟨a, h0, h1, e⟩ := c
  obtain ⟨i, hi, ei⟩ := slot_at t h a h0 h1
  obtain ⟨m, hm, h2, h3⟩ := least_of (fun i => slot t h i = 0) i (by unfold slot; rw [ei]; exact e)
  exact ⟨m, by omega, h2, h3⟩
/-- what a table is when so many keys are in it -/
structure Inv (keys : List ByteArray) (i : Nat) (t : List Int) : Prop where
  full : nz t = i
  low : ∀ a : Int, 0 ≤ a → a < (t.length : Int) → 0 ≤ rd t a ∧ rd t a ≤ (i : Int)
  has : ∀ m : Nat, m < i → ∃ q, q < t.length ∧ slot t (hsh (rdOf ByteArray.empty keys m)) q = (m : Int) + 1 ∧ ∀ p, p < q → 1 ≤ slot t (hsh (rdOf ByteArray.empty keys m)) p ∧ slot t (hsh (rdOf ByteArray.empty keys m)) p ≤ (m : Int)
theorem rd_rep (n : Nat) (a : Int) : rd (List.replicate n 0) a = 0 := by
  unfold rd
  rw [List.getD_eq_getElem?_getD, List.getElem?_replicate]
  split <;> rfl
theorem inv_nil (keys : List ByteArray) (n : Nat) : Inv keys 0 (List.replicate n 0) := by
  refine ⟨?_, fun a _ _ => ?_, fun m hm => by omega⟩
  · unfold nz
    rw [List.countP_replicate]
    simp
  · rw [rd_rep]; omega
theorem inv_step (keys : List ByteArray) (i q : Nat) (t : List Int) (I : Inv keys i t) (hq : q < t.length) (h0 : slot t (hsh (rdOf ByteArray.empty keys i)) q = 0) (h1 : ∀ p, p < q → slot t (hsh (rdOf ByteArray.empty keys i)) p ≠ 0) :
    Inv keys (i + 1) (t.set ((hsh (rdOf ByteArray.empty keys i) + (q : Int)) % (t.length : Int)).toNat ((i : Int) + 1)) := by
  have hN : 0 < (t.length : Int) := by omega
  have b := emod_bd (t.length : Int) (hsh (rdOf ByteArray.empty keys i) + (q : Int)) hN
  have za : rd t ((hsh (rdOf ByteArray.empty keys i) + (q : Int)) % (t.length : Int)) = 0 := h0
  have same : ∀ (g : Int) (p : Nat), slot t g p ≠ 0 → slot (t.set ((hsh (rdOf ByteArray.empty keys i) + (q : Int)) % (t.length : Int)).toNat ((i : Int) + 1)) g p = slot t g p := by
    intro g p hp
    unfold slot
    rw [List.length_set, rd_set t _ _ _ b.1 b.2 (emod_bd _ _ hN).1]
    rw [if_neg]
    intro e
    apply hp
    unfold slot
    rw [← e]
    exact za
  refine ⟨?_, ?_, ?_⟩
  · rw [nz_set t _ _ b.1 b.2 za (by omega), I.full]
  · intro a ha0 ha1
    rw [List.length_set] at ha1
    rw [rd_set t _ _ _ b.1 b.2 ha0]
    have := I.low a ha0 ha1
    split <;> omega
  · intro m hm
    rw [List.length_set]
    by_cases c : m = i
    · subst c
      refine ⟨q, hq, ?_, ?_⟩
      · unfold slot
        rw [List.length_set, rd_set t _ _ _ b.1 b.2 b.1, if_pos rfl]
      · intro p hp
        have hz := h1 p hp
        rw [same _ p hz]
        have := I.low ((hsh (rdOf ByteArray.empty keys m) + (p : Int)) % (t.length : Int)) (emod_bd _ _ hN).1 (emod_bd _ _ hN).2
        unfold slot at hz ⊢
        omega
    · obtain ⟨q', hq', e1, e2⟩ := I.has m (by omega)
      refine ⟨q', hq', ?_, ?_⟩
      · rw [same _ q' (by omega)]; exact e1
      · intro p hp
        have := e2 p hp
        rw [same _ p (by omega)]
        exact this
theorem build_step (keys : List ByteArray) (i q j : Nat) (t T : List Int) (hj : j ≤ 41) (ht : (t.length : Int) = 2 * 2 ^ j) (hi : i < keys.length) (hlen : (keys.length : Int) ≤ 9223372036854775807) (hz : (rdOf ByteArray.empty keys (i : Int)).size ≤ 140737488351232)
    (hq : q < t.length) (h0 : slot t (hsh (rdOf ByteArray.empty keys i)) q = 0) (h1 : ∀ p, p < q → slot t (hsh (rdOf ByteArray.empty keys i)) p ≠ 0)
    (K : Ev (fun n => probe_Build.l0 n (t.set ((hsh (rdOf ByteArray.empty keys i) + (q : Int)) % (t.length : Int)).toNat ((i : Int) + 1)) keys (keys.length : Int) ((i : Int) + 1)) T) :
    Ev (fun n => probe_Build.l0 n t keys (keys.length : Int) (i : Int)) T := by
  have p := pow_pos' j
  have p41 := pow_mono' (i := j) (j := 41) hj
  have hN : 0 < (t.length : Int) := by omega
  have inner : ∀ d s, s + d = q → Ev (fun n => probe_Build.l1 n t (i : Int) ((hsh (rdOf ByteArray.empty keys i) + (s : Int)) % (t.length : Int)) keys (keys.length : Int) (i : Int)) T := by
    intro d
    induction d with
    | zero =>
      intro s hs
      obtain rfl : s = q := by omega
      have b := emod_bd (t.length : Int) (hsh (rdOf ByteArray.empty keys i) + (s : Int)) hN
      refine Ev.step (fun n => ?_) K
      simp only [probe_Build.l1]
      have e1 : wrap64 ((i : Int) + 1) = (i : Int) + 1 := by unfold wrap64; omega
      have ez : rd t ((hsh (rdOf ByteArray.empty keys i) + (s : Int)) % (t.length : Int)) = 0 := h0
      rw [if_pos b.1, if_pos b.2, if_pos ez, e1]
    | succ d ih =>
      intro s hs
      have b := emod_bd (t.length : Int) (hsh (rdOf ByteArray.empty keys i) + (s : Int)) hN
      refine Ev.step (fun n => ?_) (ih (s + 1) (by omega))
      simp only [probe_Build.l1]
      have ez : ¬ rd t ((hsh (rdOf ByteArray.empty keys i) + (s : Int)) % (t.length : Int)) = 0 := h1 s (by omega)
      rw [if_pos b.1, if_pos b.2, if_neg ez, nxt t j hj ht]
  have st : Ev (fun n => (probe_first.f n (t.length : Int) (rdOf ByteArray.empty keys (i : Int))).bind fun a => probe_Build.l1 n t (i : Int) a keys (keys.length : Int) (i : Int)) T := by
    rw [ht]
    refine Ev.bind (ev_first _ hz j hj) ?_
    have := inner q 0 (by omega)
    rw [ht] at this
    simpa using this
  refine Ev.step (fun n => ?_) st
  simp only [probe_Build.l0]
  rw [if_pos (by omega), if_pos (by omega), if_pos (by omega)]
theorem build_loop (keys : List ByteArray) (j : Nat) (hj : j ≤ 41) (hl : Least (keys.length : Int) j) (hlen : (keys.length : Int) ≤ 9223372036854775807) (hz : ∀ i : Nat, i < keys.length → (rdOf ByteArray.empty keys (i : Int)).size ≤ 140737488351232) :
    ∀ d i t, i + d = keys.length → (t.length : Int) = 2 * 2 ^ j → Inv keys i t → ∃ T, Ev (fun n => probe_Build.l0 n t keys (keys.length : Int) (i : Int)) T ∧ (T.length : Int) = 2 * 2 ^ j ∧ Inv keys keys.length T := by
  have p := pow_pos' j
  have h1 := hl.1
  intro d
  induction d with
  | zero =>
    intro i t hi ht I
    obtain rfl : i = keys.length := by omega
    refine ⟨t, Ev.step (f := fun _ => some t) (fun n => ?_) (Ev.now _), ht, I⟩
    simp only [probe_Build.l0]
    rw [if_neg (by omega)]
  | succ d ih =>
    intro i t hi ht I
    obtain ⟨q, hq, e0, e1⟩ := free_slot t (hsh (rdOf ByteArray.empty keys i)) (by rw [I.full]; omega)
    obtain ⟨T, hT, h2, h3⟩ := ih (i + 1) _ (by omega) (by rw [List.length_set]; exact ht) (inv_step keys i q t I hq e0 e1)
    exact ⟨T, build_step keys i q j t T hj ht (by omega) hlen (hz i (by omega)) hq e0 e1 hT, h2, h3⟩
theorem ev_build (keys : List ByteArray) (j : Nat) (hj : j ≤ 41) (hl : Least (keys.length : Int) j) (hlen : (keys.length : Int) ≤ 9223372036854775807) (hz : ∀ i : Nat, i < keys.length → (rdOf ByteArray.empty keys (i : Int)).size ≤ 140737488351232) :
    ∃ T, Ev (fun n => probe_Build.f n keys) T ∧ (T.length : Int) = 2 * 2 ^ j ∧ Inv keys keys.length T := by
  have p := pow_pos' j
  have p41 := pow_mono' (i := j) (j := 41) hj
  have en : (((2 : Int) * 2 ^ j).toNat : Int) = 2 * 2 ^ j := by omega
  obtain ⟨T, hT, h2, h3⟩ := build_loop keys j hj hl hlen hz keys.length 0 (List.replicate ((2 : Int) * 2 ^ j).toNat 0) (by omega) (by rw [List.length_replicate]; exact en) (inv_nil keys _)
  refine ⟨T, ?_, h2, h3⟩
  unfold probe_Build.f
  refine Ev.bind (psize _ j hj hl) ?_
  have c1 : (0 : Int) ≤ 2 * 2 ^ j := by omega
  have c2 : ((2 : Int) * 2 ^ j).toNat ≤ 35184372088832 := by
    have e : (2 : Int) ^ 41 = 2199023255552 := by decide
    omega
  simp only [if_pos c1, if_pos c2]
  exact hT
/-! the order of texts: a rank for finitely many of them -/
theorem bl_cons (a b : UInt8) (x y : List UInt8) : Op.bytesLess (a :: x) (b :: y) = (decide (a < b) || (a == b && Op.bytesLess x y)) := by
  simp [Op.bytesLess]
theorem bl_asymm : ∀ x y : List UInt8, Op.bytesLess x y = true → Op.bytesLess y x = false
  | [], [] => fun _ => rfl
  | _ :: _, [] => fun h => by simp [Op.bytesLess] at h
  | [], _ :: _ => fun _ => rfl
  | a :: x, b :: y => by
    rw [bl_cons, bl_cons]
    intro h
    rw [Bool.or_eq_true, Bool.and_eq_true, decide_eq_true_eq, beq_iff_eq] at h
    rw [Bool.or_eq_false_iff, Bool.and_eq_false_iff, decide_eq_false_iff_not, beq_eq_false_iff_ne]
    rcases h with h | ⟨h, k⟩
    · exact ⟨fun e => UInt8.lt_asymm h e, Or.inl (fun e => by subst e; exact UInt8.lt_irrefl _ h)⟩
    · subst h
      exact ⟨UInt8.lt_irrefl _, Or.inr (bl_asymm x y k)⟩
abbrev bl (a b : ByteArray) : Bool := Op.bytesLess a.toList b.toList
theorem nil_list : (⟨#[]⟩ : ByteArray).toList = [] := by rw [Lib.toList_data]
def hasB (lo hi : ByteArray) (al : Bool) (k : ByteArray) : Bool := !(bl k lo) && (al || bl k hi)
theorem has_eq (lo hi : ByteArray) (al : Bool) (k : ByteArray) : key_Has.f lo hi al k = some (hasB lo hi al k) := by
  unfold key_Has.f hasB
  by_cases c : bl k lo = true
  · rw [if_pos c]; simp [c]
  · rw [if_neg c]
    have c' : bl k lo = false := by simpa using c
    cases al <;> simp [c']
theorem rd114 (l : List S114) (i : Nat) : rd_T114 l (i : Int) = l.getD i z114 := by simp [rd_T114]
theorem w_up (i : Nat) (h : i ≤ 100000) : wrap64 ((i : Int) + 1) = ((i + 1 : Nat) : Int) := by unfold wrap64; omega
theorem w_dn (i : Nat) (h : i ≤ 100000) : wrap64 (((i + 1 : Nat) : Int) - 1) = (i : Int) := by unfold wrap64; omega
/-! entries that may be -/
def OkE (lo hi : ByteArray) (al : Bool) (l : List S114) (i : Nat) : Prop :=
  hasB lo hi al (l.getD i z114).f0 = true ∧ ((l.getD i z114).f2 = true → (l.getD i z114).f1.toList = []) ∧ (0 < i → bl (l.getD (i - 1) z114).f0 (l.getD i z114).f0 = true)
def May (lo hi : ByteArray) (al : Bool) (l : List S114) : Prop := ∀ i, i < l.length → OkE lo hi al l i
theorem rises_loop (lo hi : ByteArray) (al : Bool) (l : List S114) (hl : l.length ≤ 1000) : ∀ d i, i + d = l.length → ∃ b, Ev (fun n => rev_rises.l0 n l l (l.length : Int) (i : Int) lo hi al) b ∧ (b = true ↔ ∀ m, i ≤ m → m < l.length → OkE lo hi al l m) := by
  intro d
  induction d with
  | zero =>
    intro i hid
    refine ⟨true, Ev.step (f := fun _ => some true) (fun n => ?_) (Ev.now _), ⟨fun _ m h1 h2 => by omega, fun _ => rfl⟩⟩
    simp only [rev_rises.l0]
    rw [if_neg (by omega)]
  | succ d ih =>
    intro i hid
    obtain ⟨b, hb, hiff⟩ := ih (i + 1) (by omega)
    have c1 : (i : Int) < (l.length : Int) := by omega
    have c2 : (0 : Int) ≤ (i : Int) := by omega
    have ew := w_up i (by omega)
    have no : (¬ OkE lo hi al l i) → ((false : Bool) = true ↔ ∀ m, i ≤ m → m < l.length → OkE lo hi al l m) := fun h => ⟨(fun e => by cases e), (fun e => absurd (e i (Nat.le_refl _) (by omega)) h)⟩
    have yes : OkE lo hi al l i → (b = true ↔ ∀ m, i ≤ m → m < l.length → OkE lo hi al l m) := fun h => by
      refine ⟨fun e m h1 h2 => ?_, fun e => hiff.2 fun m h1 h2 => e m (by omega) h2⟩
      by_cases hm : m = i
      · rw [hm]; exact h
      · exact hiff.1 e m (by omega) h2
    by_cases h1 : hasB lo hi al (l.getD i z114).f0 = true
    rotate_left
    · refine ⟨false, Ev.step (f := fun _ => some false) (fun n => ?_) (Ev.now _), no (fun h => h1 h.1)⟩
      simp only [rev_rises.l0, rd114, has_eq, Option.bind_some]
      rw [if_pos c1, if_pos c2, if_pos c1, if_neg h1]
    by_cases h2 : (l.getD i z114).f2 = true ∧ (l.getD i z114).f1.toList ≠ []
    · refine ⟨false, Ev.step (f := fun _ => some false) (fun n => ?_) (Ev.now _), no (fun h => h2.2 (h.2.1 h2.1))⟩
      simp only [rev_rises.l0, rd114, has_eq, Option.bind_some]
      rw [if_pos c1, if_pos c2, if_pos c1, if_pos h1, if_pos h2.1, if_neg h2.2]
    have h2' : (l.getD i z114).f2 = true → (l.getD i z114).f1.toList = [] := fun e => Classical.byContradiction fun h => h2 ⟨e, h⟩
    cases i with
    | zero =>
      refine ⟨b, Ev.step (fun n => ?_) hb, yes ⟨h1, h2', fun h => by omega⟩⟩
      simp only [rev_rises.l0, rd114, has_eq, Option.bind_some]
      rw [if_pos c1, if_pos c2, if_pos c1, if_pos h1]
      by_cases h3 : (l.getD 0 z114).f2 = true
      · rw [if_pos h3, if_pos (h2' h3), if_neg (by omega), ew]
      · rw [if_neg h3, if_neg (by omega), ew]
    | succ i =>
      have c3 : ((i + 1 : Nat) : Int) > 0 := by omega
      have ed := w_dn i (by omega)
      have c4 : (0 : Int) ≤ (i : Int) := by omega
      have c5 : (i : Int) < (l.length : Int) := by omega
      by_cases h4 : bl (l.getD i z114).f0 (l.getD (i + 1) z114).f0 = true
      · refine ⟨b, Ev.step (fun n => ?_) hb, yes ⟨h1, h2', fun _ => h4⟩⟩
        simp only [rev_rises.l0, has_eq, Option.bind_some, ed, rd114]
        rw [if_pos c1, if_pos c2, if_pos c1, if_pos h1]
        by_cases h3 : (l.getD (i + 1) z114).f2 = true
        · rw [if_pos h3, if_pos (h2' h3), if_pos c3, if_pos c4, if_pos c5, if_pos h4, ew]
        · rw [if_neg h3, if_pos c3, if_pos c4, if_pos c5, if_pos h4, ew]
      · refine ⟨false, Ev.step (f := fun _ => some false) (fun n => ?_) (Ev.now _), no (fun h => h4 (h.2.2 (by omega)))⟩
        simp only [rev_rises.l0, has_eq, Option.bind_some, ed, rd114]
        rw [if_pos c1, if_pos c2, if_pos c1, if_pos h1]
        by_cases h3 : (l.getD (i + 1) z114).f2 = true
        · rw [if_pos h3, if_pos (h2' h3), if_pos c3, if_pos c4, if_pos c5, if_neg h4]
        · rw [if_neg h3, if_pos c3, if_pos c4, if_pos c5, if_neg h4]
theorem ev_rises (lo hi : ByteArray) (al : Bool) (l : List S114) (hl : l.length ≤ 1000) : ∃ b, Ev (fun n => rev_rises.f n lo hi al l) b ∧ (b = true ↔ May lo hi al l) := by
  obtain ⟨b, h1, h2⟩ := rises_loop lo hi al l hl l.length 0 (by omega)
  exact ⟨b, h1, h2.trans ⟨fun h i hi => h i (by omega) hi, fun h m _ hm => h m hm⟩⟩
/-! a revision of entries -/
def keysOf (l : List S114) : List ByteArray := l.map (·.f0)
def valsOf (l : List S114) : List ByteArray := l.map (·.f1)
def goneOf (l : List S114) : List Bool := l.map (·.f2)
theorem keysOf_len (l : List S114) : (keysOf l).length = l.length := by simp [keysOf]
theorem valsOf_len (l : List S114) : (valsOf l).length = l.length := by simp [valsOf]
theorem goneOf_len (l : List S114) : (goneOf l).length = l.length := by simp [goneOf]
theorem keys_at (l : List S114) (i : Nat) (h : i < l.length) : rdOf ByteArray.empty (keysOf l) (i : Int) = (l.getD i z114).f0 := by
  unfold rdOf keysOf
  simp [List.getD_eq_getElem?_getD, List.getElem?_eq_getElem h]
theorem take_one (l : List S114) (i : Nat) (h : i < l.length) : l.take (i + 1) = l.take i ++ [l.getD i z114] := by
  rw [List.take_succ_eq_append_getElem h, List.getD_eq_getElem?_getD, List.getElem?_eq_getElem h]
  rfl
theorem laid_loop (l : List S114) (hl : l.length ≤ 1000) (v r : Int) (lo hi : ByteArray) (al de : Bool) (T : List Int) (hT : Ev (fun n => probe_Build.f n (keysOf l)) T) : ∀ d i, i + d = l.length → Ev (fun n => rev_laid.l0 n l (l.length : Int) (i : Int) v r lo hi al de (keysOf (l.take i)) (valsOf (l.take i)) (goneOf (l.take i))) (v, r, lo, hi, al, de, keysOf l, valsOf l, goneOf l, T) := by
  intro d
  induction d with
  | zero =>
    intro i hid
    obtain rfl : i = l.length := by omega
    have e : l.take l.length = l := List.take_length
    refine Ev.step (f := fun n => (probe_Build.f n (keysOf l)).bind fun t129 => (some (v, r, lo, hi, al, de, keysOf l, valsOf l, goneOf l, t129))) (fun n => ?_) (Ev.bind hT (Ev.now _))
    simp only [rev_laid.l0]
    rw [if_neg (by omega), e]
  | succ d ih =>
    intro i hid
    have c1 : (i : Int) < (l.length : Int) := by omega
    refine Ev.step (fun n => ?_) (ih (i + 1) (by omega))
    simp only [rev_laid.l0, rd114, w_up i (by omega)]
    rw [if_pos c1, if_pos (by omega), if_pos c1, if_pos (by rw [keysOf_len, List.length_take]; omega), if_pos (by rw [valsOf_len, List.length_take]; omega), if_pos (by rw [goneOf_len, List.length_take]; omega), take_one l i (by omega)]
    simp [keysOf, valsOf, goneOf]
theorem ev_laid (l : List S114) (hl : l.length ≤ 1000) (v r : Int) (lo hi : ByteArray) (al : Bool) (T : List Int) (hT : Ev (fun n => probe_Build.f n (keysOf l)) T) : Ev (fun n => rev_laid.f n v r lo hi al l) (v, r, lo, hi, al, false, keysOf l, valsOf l, goneOf l, T) := by
  have := laid_loop l hl v r lo hi al false T hT l.length 0 (by omega)
  exact this
/-- A table of keys. -/
def Tab (ks : List ByteArray) (T : List Int) : Prop := ∃ j, j ≤ 41 ∧ Least (ks.length : Int) j ∧ (T.length : Int) = 2 * 2 ^ j ∧ Inv ks ks.length T ∧ Ev (fun n => probe_Build.f n ks) T
def Small (l : List S114) : Prop := ∀ e ∈ l, e.f0.size ≤ 40
theorem tab_ex (l : List S114) (hl : l.length ≤ 1000) (hs : Small l) : ∃ T, Tab (keysOf l) T := by
  have e41 : (2 : Int) ^ 41 = 2199023255552 := by decide
  obtain ⟨j, hj, hle⟩ := least_some ((keysOf l).length : Int) 41 (by rw [keysOf_len, e41]; omega)
  obtain ⟨T, h1, h2, h3⟩ := ev_build (keysOf l) j hj hle (by rw [keysOf_len]; omega) (fun i hi => by
    rw [keysOf_len] at hi
    rw [keys_at l i hi]
    have := hs (l.getD i z114) (by rw [List.getD_eq_getElem?_getD, List.getElem?_eq_getElem hi]; exact List.getElem_mem hi)
    omega)
  exact ⟨T, j, hj, hle, h2, h3, h1⟩
/-! what a revision tells -/

theorem and16 (a : Int) : Go.bits .and .i64 a 65535 = a % 65536 := by
  have e : (BitVec.ofInt 64 a &&& BitVec.ofInt 64 65535).toNat = (a % 65536).toNat := by
    rw [BitVec.toNat_and, BitVec.toNat_ofInt, BitVec.toNat_ofInt]
    have h : ((65535 : Int) % ((2 ^ 64 : Nat) : Int)).toNat = 2 ^ 16 - 1 := by decide
    rw [h, Nat.and_two_pow_sub_one_eq_mod]
    omega
  have e2 : Go.bits .and .i64 a 65535 = IntKind.i64.wrap ((BitVec.ofInt 64 a &&& BitVec.ofInt 64 65535).toNat : Int) := rfl
  rw [e2, e, wraps_i64 _ (by omega) (by omega)]
  omega
theorem and31 (a : Int) : Go.bits .and .i64 a 2147483647 = a % 2147483648 := by
  have e : (BitVec.ofInt 64 a &&& BitVec.ofInt 64 2147483647).toNat = (a % 2147483648).toNat := by
    rw [BitVec.toNat_and, BitVec.toNat_ofInt, BitVec.toNat_ofInt]
    have h : ((2147483647 : Int) % ((2 ^ 64 : Nat) : Int)).toNat = 2 ^ 31 - 1 := by decide
    rw [h, Nat.and_two_pow_sub_one_eq_mod]
    omega
  have e2 : Go.bits .and .i64 a 2147483647 = IntKind.i64.wrap ((BitVec.ofInt 64 a &&& BitVec.ofInt 64 2147483647).toNat : Int) := rfl
  rw [e2, e, wraps_i64 _ (by omega) (by omega)]
  omega
theorem or31 (v h : Int) (h0 : 0 ≤ v) (h1 : v ≤ 1073741824) (h2 : 0 ≤ h) (h3 : h < 2147483648) : Go.bits .or .i64 (wrap64 (v * 2147483648)) h = v * 2147483648 + h := by
  have e : wrap64 (v * 2147483648) = v * 2147483648 := by unfold wrap64; omega
  rw [e]
  exact bits_join .i64 63 (by decide) wraps_i64 31 _ _ (by omega) (by omega) (by omega) h2 (by omega) (by omega)
theorem or16 (g p : Int) (h0 : 0 ≤ g) (h1 : g ≤ 16383) (h2 : 0 ≤ p) (h3 : p ≤ 65534) : Go.bits .or .i64 (wrap64 (g * 65536)) (wrap64 (p + 1)) = g * 65536 + p + 1 := by
  have e : wrap64 (g * 65536) = g * 65536 := by unfold wrap64; omega
  have e2 : wrap64 (p + 1) = p + 1 := by unfold wrap64; omega
  rw [e, e2, bits_join .i64 63 (by decide) wraps_i64 16 _ _ (by omega) (by omega) (by omega) (by omega) (by omega) (by omega)]
  omega
theorem within_eq (a b : Int) : tag_within.f a b = some (decide (0 ≤ a ∧ a ≤ b)) := by
  unfold tag_within.f
  by_cases h : a ≥ 0
  · rw [if_pos h]; congr 1; simp; omega
  · rw [if_neg h]; congr 1; simp; omega
/-- is a number a handle? -/
def hr (h : Int) : Bool := decide (0 < h ∧ h < 1073741824 ∧ h % 65536 ≠ 0)
theorem hr_iff (h : Int) : hr h = true ↔ (0 < h ∧ h < 1073741824 ∧ h % 65536 ≠ 0) := by simp [hr]
theorem right_eq (h : Int) : tag_Right.f h = some (hr h) := by
  unfold tag_Right.f hr
  rw [within_eq]
  simp only [Option.bind_some, and16]
  by_cases c : 0 ≤ h / 65536 ∧ h / 65536 ≤ 16383
  · rw [if_pos (by simpa using c)]
    congr 1
    by_cases c2 : h % 65536 = 0
    · simp [c2]
    · have e : (h % 65536 != 0) = true := by simpa using c2
      rw [e]; symm; simp only [decide_eq_true_eq]; omega
  · rw [if_neg (by simpa using c)]
    congr 1; symm; simp only [decide_eq_false_iff_not]; omega
theorem word_eq (h v : Int) : tag_Word.f h v = some (if (h = 0 ∨ hr h = true) ∧ 0 ≤ v ∧ v ≤ 1073741824 then v * 2147483648 + h else -1) := by
  unfold tag_Word.f
  by_cases h0 : h = 0
  · rw [if_pos h0, within_eq]
    simp only [Option.bind_some]
    by_cases hv : 0 ≤ v ∧ v ≤ 1073741824
    · rw [if_pos (by simpa using hv), if_pos ⟨Or.inl h0, hv⟩, or31 v h hv.1 hv.2 (by omega) (by omega)]
    · rw [if_neg (by simpa using hv), if_neg (fun c => hv c.2)]
  · rw [if_neg h0, right_eq]
    simp only [Option.bind_some]
    by_cases hh : hr h = true
    · have hh' := (hr_iff h).1 hh
      rw [if_pos hh, within_eq]
      simp only [Option.bind_some]
      by_cases hv : 0 ≤ v ∧ v ≤ 1073741824
      · rw [if_pos (by simpa using hv), if_pos ⟨Or.inr hh, hv⟩, or31 v h hv.1 hv.2 (by omega) (by omega)]
      · rw [if_neg (by simpa using hv), if_neg (fun c => hv c.2)]
    · rw [if_neg hh, if_neg (fun c => c.1.elim h0 hh)]
theorem handle_eq (p g : Int) : tag_Handle.f p g = some (if (0 ≤ p ∧ p ≤ 65534) ∧ 0 ≤ g ∧ g ≤ 16383 then g * 65536 + p + 1 else 0) := by
  unfold tag_Handle.f
  rw [within_eq]
  simp only [Option.bind_some]
  by_cases hp : 0 ≤ p ∧ p ≤ 65534
  · rw [if_pos (by simpa using hp), within_eq]
    simp only [Option.bind_some]
    by_cases hg : 0 ≤ g ∧ g ≤ 16383
    · rw [if_pos (by simpa using hg), if_pos ⟨hp, hg⟩, or16 g p hg.1 hg.2 hp.1 hp.2]
    · rw [if_neg (by simpa using hg), if_neg (fun c => hg c.2)]
  · rw [if_neg (by simpa using hp), if_neg (fun c => hp c.1)]
theorem to_eq (w : Int) : tag_To.f w = some (if 0 ≤ w ∧ hr (w % 2147483648) = true then w % 2147483648 else 0) := by
  unfold tag_To.f
  by_cases c : w < 0
  · rw [if_pos c, if_neg (fun d => by omega)]
  · rw [if_neg c]
    simp only [and31, right_eq, Option.bind_some]
    by_cases c3 : hr (w % 2147483648) = true
    · rw [if_pos c3, if_pos ⟨by omega, c3⟩]
    · rw [if_neg c3, if_neg (fun d => c3 d.2)]
/-! rows of nodes: what the functions of chapter 18 compute -/
def sp (l : List S108) (i : Nat) : S108 := l.getD i z108
theorem rd108 (l : List S108) (i : Nat) : rd_T108 l (i : Int) = sp l i := by simp [rd_T108, sp]
def U8 (n : Int) : Prop := 0 ≤ n ∧ n ≤ 255
def Good (x : S108) : Prop := U8 x.f0 ∧ U8 x.f1 ∧ U8 x.f2 ∧ U8 x.f3
theorem good_at {l : List S108} (h : ∀ x ∈ l, Good x) (i : Nat) : Good (sp l i) := by
  unfold sp
  rw [List.getD_eq_getElem?_getD]
  cases e : l[i]? with
  | none => exact ⟨⟨by decide, by decide⟩, ⟨by decide, by decide⟩, ⟨by decide, by decide⟩, ⟨by decide, by decide⟩⟩
  | some x => exact h x (List.mem_of_getElem? e)
/-- how many links a node has -/
def hO (x : S108) : Int := 1 + x.f0 % 6
theorem hO_eq {x : S108} (h : Good x) : wrap64 (1 + (Int.tmod (wrap64 x.f0) 6)) = hO x := by
  obtain ⟨⟨a, b⟩, _⟩ := h
  unfold hO
  rw [show wrap64 x.f0 = x.f0 by unfold wrap64; omega, Int.tmod_eq_emod_of_nonneg a]
  unfold wrap64
  omega
theorem hO_in (x : S108) : 1 ≤ hO x ∧ hO x ≤ 6 := by
  unfold hO
  omega
def hmost (l : List S108) : Int := l.foldl (fun m x => mx m (hO x)) 1
def hsOf (l : List S108) : List Int := (l.map hO).set 0 (hmost l)
theorem take_sp (l : List S108) (i : Nat) (h : i < l.length) : l.take (i + 1) = l.take i ++ [sp l i] := by
  rw [List.take_succ_eq_append_getElem h, sp, List.getD_eq_getElem?_getD, List.getElem?_eq_getElem h]
  rfl
theorem heights_loop (l : List S108) (hl : l.length ≤ 20) (hg : ∀ x ∈ l, Good x) : ∀ d i, i + d = l.length → Ev (fun n => rundlelaw18_heights.l0 n l ((l.take i).map hO) (hmost (l.take i)) (i : Int)) (hsOf l) := by
  intro d
  induction d with
  | zero =>
    intro i hid
    obtain rfl : i = l.length := by omega
    rw [List.take_length]
    by_cases c : 0 < l.length
    · refine Ev.step (f := fun _ => some (hsOf l)) (fun n => ?_) (Ev.now _)
      simp only [rundlelaw18_heights.l0]
      rw [if_neg (by omega), if_pos (by rw [List.length_map]; omega), if_pos (by rw [List.length_map]; omega)]
      rfl
    · refine Ev.step (f := fun _ => some (hsOf l)) (fun n => ?_) (Ev.now _)
      simp only [rundlelaw18_heights.l0]
      rw [if_neg (by omega), if_neg (by rw [List.length_map]; omega)]
      obtain rfl : l = [] := List.length_eq_zero_iff.1 (by omega)
      rfl
  | succ d ih =>
    intro i hid
    refine Ev.step (fun n => ?_) (ih (i + 1) (by omega))
    simp only [rundlelaw18_heights.l0, rd108, w_up i (by omega), hO_eq (good_at hg i)]
    rw [if_pos (by omega), if_pos (by omega), if_pos (by rw [List.length_map, List.length_take]; omega), take_sp l i (by omega)]
    simp [hmost]
theorem ev_heights (l : List S108) (hl : l.length ≤ 20) (hg : ∀ x ∈ l, Good x) : Ev (fun n => rundlelaw18_heights.f n l) (hsOf l) := heights_loop l hl hg l.length 0 (by omega)
theorem mx_ge (a b : Int) : a ≤ mx a b ∧ b ≤ mx a b := by
  unfold mx
  split <;> omega
theorem hmost_in : ∀ (l : List S108) (m : Int), 1 ≤ m → m ≤ 6 → (m ≤ l.foldl (fun m x => mx m (hO x)) m ∧ l.foldl (fun m x => mx m (hO x)) m ≤ 6) ∧ ∀ x ∈ l, hO x ≤ l.foldl (fun m x => mx m (hO x)) m
  | [], m, h, h6 => ⟨⟨Int.le_refl _, h6⟩, fun x hx => nomatch hx⟩
  | x :: l, m, h, h6 => by
    have hm := mx_ge m (hO x)
    have h1 := hO_in x
    have h2 : mx m (hO x) ≤ 6 := by
      unfold mx
      split <;> omega
    obtain ⟨⟨a1, a2⟩, b⟩ := hmost_in l (mx m (hO x)) (by omega) h2
    refine ⟨⟨by simp only [List.foldl_cons]; omega, by simpa using a2⟩, fun y hy => ?_⟩
    rcases List.mem_cons.1 hy with rfl | hy
    · simp only [List.foldl_cons]
      omega
    · exact b y hy
theorem hsOf_len (l : List S108) : (hsOf l).length = l.length := by simp [hsOf]
theorem hs_at (l : List S108) (i : Nat) (h : i < l.length) : (hsOf l).getD i 0 = if i = 0 then hmost l else hO (sp l i) := by
  unfold hsOf sp
  rw [List.getD_eq_getElem?_getD, List.getD_eq_getElem?_getD, List.getElem?_set]
  by_cases c : i = 0
  · subst c
    simp [h]
  · rw [if_neg (by omega), if_neg c]
    simp [List.getElem?_eq_getElem h]
theorem hs_in (l : List S108) (i : Nat) (h : i < l.length) : 1 ≤ (hsOf l).getD i 0 ∧ (hsOf l).getD i 0 ≤ 6 ∧ (hsOf l).getD i 0 ≤ (hsOf l).getD 0 0 := by
  obtain ⟨⟨a1, a2⟩, b⟩ := hmost_in l 1 (by omega) (by omega)
  have h0 : (hsOf l).getD 0 0 = hmost l := by rw [hs_at l 0 (by omega), if_pos rfl]
  rw [h0, hs_at l i h]
  split
  · exact ⟨a1, a2, Int.le_refl _⟩
  · have := hO_in (sp l i)
    refine ⟨this.1, this.2, b _ ?_⟩
    unfold sp
    rw [List.getD_eq_getElem?_getD, List.getElem?_eq_getElem h]
    exact List.getElem_mem h
/-! names and keys -/
def nameB (i : Nat) : ByteArray := if i = 0 then ⟨#[]⟩ else strOfNums [((96 + i : Nat) : Int)]
def headB (i : Nat) : ByteArray := if i = 0 then ⟨#[48]⟩ else nameB i
def digB (k : Nat) : ByteArray := strOfNums [((48 + k / 10 : Nat) : Int), ((48 + k % 10 : Nat) : Int)]
def keyB (i k : Nat) : ByteArray := headB i ++ digB k
def liveE (i m : Nat) : List S114 := (List.range m).map fun k => ⟨keyB i k, ⟨#[118]⟩, false⟩
def tombE (i : Nat) : S114 := ⟨headB i ++ ⟨#[120]⟩, ⟨#[]⟩, true⟩
def nLive (x : S108) : Nat := (x.f3 % 70).toNat
def entriesOf (i : Nat) (x : S108) : List S114 := liveE i (nLive x) ++ (if x.f4 = true then [tombE i] else [])
theorem nLive_le (x : S108) : nLive x ≤ 69 := by
  unfold nLive
  omega
theorem name_eq (i : Nat) (h : i ≤ 21) : rundlelaw18_name.f (i : Int) = some (nameB i) := by
  unfold rundlelaw18_name.f nameB
  by_cases c : i = 0
  · subst c
    rfl
  · rw [if_neg (by omega), if_neg c, show wrap64 (wrap64 (97 + (i : Int)) - 1) % 256 = ((96 + i : Nat) : Int) by unfold wrap64; omega]
theorem headB_size (i : Nat) : (headB i).size ≤ 1 := by
  unfold headB nameB
  split
  · decide
  · rw [strOfNums_size]
    simp
theorem digB_size (k : Nat) : (digB k).size = 2 := by
  unfold digB
  rw [strOfNums_size]
  rfl
theorem liveE_succ (i m : Nat) : liveE i (m + 1) = liveE i m ++ [⟨keyB i m, ⟨#[118]⟩, false⟩] := by simp [liveE, List.range_succ]
theorem liveE_len (i m : Nat) : (liveE i m).length = m := by simp [liveE]
theorem entries_loop18 (i : Nat) (x : S108) (hx : Good x) : ∀ d k, k + d = nLive x → Ev (fun n => rundlelaw18_entries.l0 n (liveE i k) (headB i) (k : Int) x.f0 x.f1 x.f2 x.f3 x.f4 x.f5) (entriesOf i x) := by
  have e3 : Int.tmod (wrap64 x.f3) 70 = (nLive x : Int) := by
    obtain ⟨_, _, _, a, b⟩ := hx
    rw [show wrap64 x.f3 = x.f3 by unfold wrap64; omega, Int.tmod_eq_emod_of_nonneg a]
    unfold nLive
    omega
  have hm := nLive_le x
  intro d
  induction d with
  | zero =>
    intro k hk
    obtain rfl : k = nLive x := by omega
    refine Ev.step (f := fun _ => some (entriesOf i x)) (fun n => ?_) (Ev.now _)
    simp only [rundlelaw18_entries.l0, e3]
    rw [if_neg (by omega)]
    unfold entriesOf
    by_cases c : x.f4 = true
    · rw [if_pos c, if_pos c, if_pos (by have := headB_size i; omega), if_pos (by rw [liveE_len]; omega)]
      rfl
    · rw [if_neg c, if_neg c, List.append_nil]
  | succ d ih =>
    intro k hk
    refine Ev.step (fun n => ?_) (ih (k + 1) (by omega))
    simp only [rundlelaw18_entries.l0, e3, Option.bind_some]
    have e1 : (wrap64 (48 + (wrap64 (Int.tdiv (k : Int) 10)))) % 256 = ((48 + k / 10 : Nat) : Int) := by
      rw [Int.tdiv_eq_ediv_of_nonneg (by omega)]
      unfold wrap64
      omega
    have e2 : (wrap64 (48 + (Int.tmod (k : Int) 10))) % 256 = ((48 + k % 10 : Nat) : Int) := by
      rw [Int.tmod_eq_emod_of_nonneg (by omega)]
      unfold wrap64
      omega
    rw [e1, e2, if_pos (by omega), w_up k (by omega)]
    have hs : (strOfNums [((48 + k / 10 : Nat) : Int), ((48 + k % 10 : Nat) : Int)]).size = 2 := digB_size k
    rw [if_pos (by have := headB_size i; omega), if_pos (by rw [liveE_len]; omega), liveE_succ]
    rfl
theorem ev_entries18 (i : Nat) (h : i ≤ 20) (x : S108) (hx : Good x) : Ev (fun n => rundlelaw18_entries.f n (i : Int) x.f0 x.f1 x.f2 x.f3 x.f4 x.f5) (entriesOf i x) := by
  unfold rundlelaw18_entries.f
  rw [name_eq i (by omega)]
  simp only [Option.bind_some]
  have hl := entries_loop18 i x hx (nLive x) 0 (by omega)
  have hj : ∀ b, b = headB i → Ev (fun n => rundlelaw18_entries.j0 n ([] : List S114) b x.f0 x.f1 x.f2 x.f3 x.f4 x.f5) (entriesOf i x) := by
    rintro b rfl
    refine Ev.step (fun n => ?_) hl
    simp only [rundlelaw18_entries.j0]
    rfl
  by_cases c : i = 0
  · subst c
    rw [show (fun n => if ((0 : Nat) : Int) = 0 then rundlelaw18_entries.j0 n ([] : List S114) (⟨#[48]⟩ : ByteArray) x.f0 x.f1 x.f2 x.f3 x.f4 x.f5 else rundlelaw18_entries.j0 n ([] : List S114) (nameB 0) x.f0 x.f1 x.f2 x.f3 x.f4 x.f5) = fun n => rundlelaw18_entries.j0 n ([] : List S114) (⟨#[48]⟩ : ByteArray) x.f0 x.f1 x.f2 x.f3 x.f4 x.f5 from funext fun n => if_pos rfl]
    exact hj _ rfl
  · have c' : ¬ ((i : Int) = 0) := by omega
    simp only [c', if_false]
    exact hj _ (by unfold headB; rw [if_neg c])
/-! their order -/
def nameL (i : Nat) : List UInt8 := if i = 0 then [] else [UInt8.ofNat (96 + i)]
def headL (i : Nat) : UInt8 := if i = 0 then 48 else UInt8.ofNat (96 + i)
def digL (k : Nat) : List UInt8 := [UInt8.ofNat (48 + k / 10), UInt8.ofNat (48 + k % 10)]
theorem list_app (a b : ByteArray) : (a ++ b).toList = a.toList ++ b.toList := by
  rw [Lib.toList_data, Lib.toList_data, Lib.toList_data]
  simp
theorem nameB_list (i : Nat) : (nameB i).toList = nameL i := by
  unfold nameB nameL
  split
  · exact nil_list
  · rw [Lib.toList_data, strOfNums_data]
    simp only [List.map_cons, List.map_nil, Int.toNat_natCast]
theorem headB_list (i : Nat) : (headB i).toList = [headL i] := by
  unfold headB headL
  by_cases c : i = 0
  · rw [if_pos c, if_pos c, Lib.toList_data]
  · rw [if_neg c, if_neg c, nameB_list, nameL, if_neg c]
theorem keyB_list (i k : Nat) : (keyB i k).toList = headL i :: digL k := by
  unfold keyB digB
  rw [list_app, headB_list, Lib.toList_data (strOfNums _), strOfNums_data]
  simp only [List.map_cons, List.map_nil, Int.toNat_natCast]
  rfl
theorem tombB_list (i : Nat) : (tombE i).f0.toList = headL i :: [120] := by
  show (headB i ++ (⟨#[120]⟩ : ByteArray)).toList = _
  rw [list_app, headB_list, Lib.toList_data]
  rfl
theorem dig_up : ∀ k : Fin 69, Op.bytesLess (digL k.val) (digL (k.val + 1)) = true := by decide
theorem dig_tomb : ∀ k : Fin 70, Op.bytesLess (digL k.val) [120] = true := by decide
theorem head_next : ∀ i : Fin 21, headL i.val < UInt8.ofNat (96 + (i.val + 1)) := by decide
theorem name_up (i : Nat) (h : i ≤ 20) : bl (nameB i) (nameB (i + 1)) = true := by
  unfold bl
  rw [nameB_list, nameB_list]
  have h' := head_next ⟨i, by omega⟩
  unfold nameL
  rw [if_neg (by omega : ¬ i + 1 = 0)]
  by_cases c : i = 0
  · rw [if_pos c]
    rfl
  · rw [if_neg c, bl_cons]
    simp only [headL, if_neg c] at h'
    simp only [h', decide_true, Bool.true_or]
theorem cons_same (a : UInt8) (x y : List UInt8) : Op.bytesLess (a :: x) (a :: y) = Op.bytesLess x y := by
  rw [bl_cons]
  simp [UInt8.lt_irrefl]
theorem in_span (i : Nat) (h : i ≤ 20) (k : ByteArray) (r : List UInt8) (hk : k.toList = headL i :: r) (al : Bool) (hi : ByteArray) (hh : al = true ∨ hi = nameB (i + 1)) : hasB (nameB i) hi al k = true := by
  unfold hasB bl
  rw [nameB_list, hk]
  have h1 : Op.bytesLess (headL i :: r) (nameL i) = false := by
    unfold nameL headL
    by_cases c : i = 0
    · subst c
      rfl
    · rw [if_neg c, if_neg c, cons_same]
      cases r <;> rfl
  rw [h1]
  rcases hh with rfl | rfl
  · rfl
  · rw [nameB_list, nameL, if_neg (by omega : ¬ i + 1 = 0), bl_cons]
    have h' := head_next ⟨i, by omega⟩
    simp only at h'
    rw [decide_eq_true h']
    cases al <;> rfl
theorem liveE_at (i m k : Nat) (h : k < m) : (liveE i m)[k]? = some ⟨keyB i k, ⟨#[118]⟩, false⟩ := by simp [liveE, h]
theorem ent_at (i : Nat) (x : S108) (k : Nat) (h : k < (entriesOf i x).length) : (k < nLive x ∧ (entriesOf i x).getD k z114 = ⟨keyB i k, ⟨#[118]⟩, false⟩) ∨ (k = nLive x ∧ (entriesOf i x).getD k z114 = tombE i) := by
  unfold entriesOf at h ⊢
  rw [List.getD_eq_getElem?_getD]
  by_cases c : k < nLive x
  · left
    refine ⟨c, ?_⟩
    rw [List.getElem?_append_left (by rw [liveE_len]; exact c), liveE_at i _ k c]
    rfl
  · right
    rw [List.length_append, liveE_len] at h
    by_cases ct : x.f4 = true
    · rw [if_pos ct] at h ⊢
      have hk : k = nLive x := by
        simp only [List.length_cons, List.length_nil] at h
        omega
      refine ⟨hk, ?_⟩
      rw [List.getElem?_append_right (by rw [liveE_len]; omega), liveE_len, hk, Nat.sub_self]
      rfl
    · rw [if_neg ct] at h
      simp only [List.length_nil] at h
      omega
theorem ent_len (i : Nat) (x : S108) : (entriesOf i x).length ≤ 70 := by
  have := nLive_le x
  unfold entriesOf
  rw [List.length_append, liveE_len]
  split
  · simp only [List.length_cons, List.length_nil]
    omega
  · simp only [List.length_nil]
    omega
theorem ent_may (i : Nat) (h : i ≤ 20) (x : S108) (al : Bool) (hi : ByteArray) (hh : al = true ∨ hi = nameB (i + 1)) : May (nameB i) hi al (entriesOf i x) := by
  intro k hk
  have hm := nLive_le x
  rcases ent_at i x k hk with ⟨c, e⟩ | ⟨c, e⟩
  · unfold OkE
    rw [e]
    refine ⟨in_span i h _ _ (keyB_list i k) al hi hh, fun f => (nomatch f), fun h0 => ?_⟩
    rcases ent_at i x (k - 1) (by omega) with ⟨c', e'⟩ | ⟨c', e'⟩
    · rw [e']
      unfold bl
      rw [keyB_list, keyB_list, cons_same]
      have := dig_up ⟨k - 1, by omega⟩
      simp only [show k - 1 + 1 = k by omega] at this
      exact this
    · omega
  · unfold OkE
    rw [e]
    refine ⟨in_span i h _ _ (tombB_list i) al hi hh, fun _ => nil_list, fun h0 => ?_⟩
    rcases ent_at i x (k - 1) (by omega) with ⟨c', e'⟩ | ⟨c', e'⟩
    · rw [e']
      unfold bl
      rw [keyB_list, tombB_list, cons_same]
      exact dig_tomb ⟨k - 1, by omega⟩
    · omega
theorem ent_small (i : Nat) (x : S108) : Small (entriesOf i x) := by
  intro e he
  unfold entriesOf at he
  have hs := headB_size i
  rcases List.mem_append.1 he with h | h
  · obtain ⟨k, _, rfl⟩ := List.mem_map.1 h
    show (headB i ++ digB k).size ≤ 40
    have := digB_size k
    rw [ByteArray.size_append]
    omega
  · split at h
    · obtain rfl := List.mem_singleton.1 h
      show (headB i ++ (⟨#[120]⟩ : ByteArray)).size ≤ 40
      rw [ByteArray.size_append]
      have : (⟨#[120]⟩ : ByteArray).size = 1 := rfl
      omega
    · exact nomatch h
/-! the first place from one on -/
def seek (p : Nat → Bool) : Nat → Nat → Option Nat
  | _, 0 => none
  | i, d + 1 => if p i = true then some i else seek p (i + 1) d
theorem seek_some {p : Nat → Bool} : ∀ {d i j : Nat}, seek p i d = some j → i ≤ j ∧ j < i + d ∧ p j = true ∧ ∀ m, i ≤ m → m < j → p m = false
  | 0, i, j => fun h => by simp [seek] at h
  | d + 1, i, j => fun h => by
    unfold seek at h
    split at h
    · rename_i c
      obtain rfl := Option.some.inj h
      exact ⟨by omega, by omega, c, fun m h1 h2 => by omega⟩
    · rename_i c
      obtain ⟨a, b, e, f⟩ := seek_some h
      refine ⟨by omega, by omega, e, fun m h1 h2 => ?_⟩
      rcases Nat.eq_or_lt_of_le h1 with rfl | h1
      · exact Bool.eq_false_iff.2 c
      · exact f m h1 h2
theorem seek_cong {p q : Nat → Bool} : ∀ {d i : Nat}, (∀ m, i ≤ m → m < i + d → p m = q m) → seek p i d = seek q i d
  | 0, i => fun _ => rfl
  | d + 1, i => fun h => by
    unfold seek
    rw [h i (Nat.le_refl _) (by omega), seek_cong (d := d) (i := i + 1) (fun m h1 h2 => h m (by omega) (by omega))]
theorem seek_step (p : Nat → Bool) (i d : Nat) : seek p i (d + 1) = if p i = true then some i else seek p (i + 1) d := rfl
theorem seek_skip {p : Nat → Bool} : ∀ (a : Nat) {d i : Nat}, (∀ m, i ≤ m → m < i + a → p m = false) → seek p i (a + d) = seek p (i + a) d
  | 0, d, i => fun _ => by rw [Nat.zero_add, Nat.add_zero]
  | a + 1, d, i => fun h => by
    rw [show a + 1 + d = (a + d) + 1 by omega, seek_step, if_neg (by rw [h i (Nat.le_refl _) (by omega)]; decide), seek_skip a (fun m h1 h2 => h m (by omega) (by omega)), show i + 1 + a = i + (a + 1) by omega]
/-! the handles, cells and words of a row -/
def hdl (i : Nat) : Int := 458753 + (i : Int)
theorem hdl_eq (i : Nat) (h : i ≤ 1000) : rundlelaw18_handle.f (i : Int) = some (hdl i) := by
  unfold rundlelaw18_handle.f hdl
  rw [handle_eq, if_pos (by omega)]
  simp only [Option.bind_some]
  congr 1
  omega
theorem cell_eq (i k : Nat) (h : i ≤ 1000) (hk : k ≤ 1000) : rundlelaw18_cell.f (i : Int) (k : Int) = some (1000 + 10 * (i : Int) + (k : Int)) := by
  unfold rundlelaw18_cell.f
  congr 1
  unfold wrap64
  omega
def toH (o : Option Nat) : Int := match o with | some j => hdl j | none => 0
theorem hdl_hr (j : Nat) (h : j ≤ 1000) : hr (hdl j) = true := (hr_iff _).2 (by unfold hdl; omega)
theorem toH_ok {p : Nat → Bool} {i d : Nat} (h : i + d ≤ 1000) : (toH (seek p i d) = 0 ∨ hr (toH (seek p i d)) = true) ∧ 0 ≤ toH (seek p i d) ∧ toH (seek p i d) < 2147483648 := by
  cases e : seek p i d with
  | none => exact ⟨.inl rfl, by simp [toH], by simp [toH]⟩
  | some j =>
    obtain ⟨_, a, _, _⟩ := seek_some e
    refine ⟨.inr (hdl_hr j (by omega)), ?_, ?_⟩ <;> simp only [toH, hdl] <;> omega
theorem word_ok {h v : Int} (hh : h = 0 ∨ hr h = true) (h0 : 0 ≤ v) (h1 : v ≤ 1073741824) : tag_Word.f h v = some (v * 2147483648 + h) := by
  rw [word_eq, if_pos ⟨hh, h0, h1⟩]
theorem to_ok {h v : Int} (hh : h = 0 ∨ hr h = true) (h0 : 0 ≤ v) : tag_To.f (v * 2147483648 + h) = some h := by
  rw [to_eq]
  rcases hh with rfl | hh
  · rw [if_neg]
    intro c
    have := (hr_iff _).1 c.2
    omega
  · have hb := (hr_iff _).1 hh
    rw [show (v * 2147483648 + h) % 2147483648 = h by omega, if_pos ⟨by omega, hh⟩]
/-! whom a node leads to -/
def pTo (hs : List Int) (k : Nat) (j : Nat) : Bool := decide ((k : Int) < hs.getD j 0)
def toN (hs : List Int) (i k : Nat) : Option Nat := seek (pTo hs k) (i + 1) (hs.length - (i + 1))
theorem to_loop17 (hs : List Int) (hl : hs.length ≤ 1000) (k : Nat) : ∀ d i, i + d = hs.length → Ev (fun n => rundleref17_To.l0 n hs (k : Int) (i : Int)) (match seek (pTo hs k) i d with | some j => (j : Int) | none => -1) := by
  intro d
  induction d with
  | zero =>
    intro i hid
    refine Ev.step (f := fun _ => some (-1)) (fun n => ?_) (Ev.now _)
    simp only [rundleref17_To.l0]
    rw [if_neg (by omega)]
  | succ d ih =>
    intro i hid
    have er : rd hs (i : Int) = hs.getD i 0 := by simp [rd]
    unfold seek
    by_cases c : (k : Int) < hs.getD i 0
    · rw [if_pos (by simpa [pTo] using c)]
      refine Ev.step (f := fun _ => some (i : Int)) (fun n => ?_) (Ev.now _)
      simp only [rundleref17_To.l0, er]
      rw [if_pos (by omega), if_pos (by omega), if_pos (by omega)]
    · rw [if_neg (by simpa [pTo] using c)]
      refine Ev.step (fun n => ?_) (ih (i + 1) (by omega))
      simp only [rundleref17_To.l0, er, w_up i (by omega)]
      rw [if_pos (by omega), if_pos (by omega), if_neg (by omega)]
theorem ev_to17 (hs : List Int) (hl : hs.length ≤ 1000) (i k : Nat) (hi : i < hs.length) : Ev (fun n => rundleref17_To.f n hs (i : Int) (k : Int)) (match toN hs i k with | some j => (j : Int) | none => -1) := by
  unfold rundleref17_To.f
  rw [w_up i (by omega)]
  exact to_loop17 hs hl k _ (i + 1) (by omega)
def cellsN (i h : Nat) : List Int := (List.range h).map fun (k : Nat) => 1000 + 10 * (i : Int) + (k : Int)
def linksN (hs : List Int) (i h : Nat) : List Int := (List.range h).map fun (k : Nat) => (5 + (k : Int)) * 2147483648 + toH (toN hs i k)
theorem cellsN_len (i h : Nat) : (cellsN i h).length = h := by simp [cellsN]
theorem linksN_len (hs : List Int) (i h : Nat) : (linksN hs i h).length = h := by simp [linksN]
def htN (l : List S108) (i : Nat) : Nat := ((hsOf l).getD i 0).toNat
def hiN (l : List S108) (i : Nat) : ByteArray := if i + 1 < l.length then nameB (i + 1) else ⟨#[]⟩
def lastN (l : List S108) (i : Nat) : Bool := (i : Int) == wrap64 ((l.length : Int) - 1)
def entN (l : List S108) (i : Nat) : List S114 := entriesOf i (sp l i)
def viewOf (l : List S108) (T : Nat → List Int) (i : Nat) : S83 :=
  ⟨hdl i, ⟨nameB i, 900 + (i : Int), cellsN i (htN l i)⟩, linksN (hsOf l) i (htN l i), 800 + (i : Int), ⟨(sp l i).f1, 16 * (sp l i).f2, ⟨nameB i, hiN l i, lastN l i⟩, false, keysOf (entN l i), valsOf (entN l i), goneOf (entN l i), T i⟩⟩
def Tabs (l : List S108) (T : Nat → List Int) : Prop := ∀ i, Tab (keysOf (entN l i)) (T i)
theorem tabs_ex (l : List S108) : ∃ T, Tabs l T := ⟨fun i => (tab_ex (entN l i) (by have := ent_len i (sp l i); unfold entN; omega) (ent_small _ _)).choose, fun i => (tab_ex (entN l i) (by have := ent_len i (sp l i); unfold entN; omega) (ent_small _ _)).choose_spec⟩
def rowN (l : List S108) (T : Nat → List Int) (n : Nat) : List S83 := (List.range n).map (viewOf l T)
theorem rowN_len (l : List S108) (T : Nat → List Int) (n : Nat) : (rowN l T n).length = n := by simp [rowN]
theorem rowN_at (l : List S108) (T : Nat → List Int) (n i : Nat) (h : i < n) : rd_T83 (rowN l T n) (i : Int) = viewOf l T i := by
  unfold rd_T83 rowN
  simp [List.getD_eq_getElem?_getD, h]
theorem new_at (l : List S108) (hg : ∀ x ∈ l, Good x) (hl : l.length ≤ 20) (T : Nat → List Int) (hT : Tabs l T) (i : Nat) (h : i < l.length) : Ev (fun n => rev_New.f n (wrap64 (sp l i).f1) (wrap64 (16 * (wrap64 (sp l i).f2))) (nameB i) (hiN l i) (lastN l i) (entN l i)) ((sp l i).f1, 16 * (sp l i).f2, nameB i, hiN l i, lastN l i, false, keysOf (entN l i), valsOf (entN l i), goneOf (entN l i), T i, 0) := by
  obtain ⟨_, ⟨a, b⟩, ⟨c, d⟩, _⟩ := good_at hg i
  rw [show wrap64 (sp l i).f1 = (sp l i).f1 by unfold wrap64; omega, show wrap64 (16 * wrap64 (sp l i).f2) = 16 * (sp l i).f2 by unfold wrap64; omega]
  have hm : May (nameB i) (hiN l i) (lastN l i) (entN l i) := by
    refine ent_may i (by omega) _ _ _ ?_
    unfold lastN hiN
    by_cases c : i + 1 < l.length
    · rw [if_pos c]
      exact .inr rfl
    · left
      rw [show wrap64 ((l.length : Int) - 1) = (i : Int) by unfold wrap64; omega]
      simp
  have hlen : (entN l i).length ≤ 1000 := by have := ent_len i (sp l i); unfold entN; omega
  obtain ⟨j, h1, h2, h3, h4, h5⟩ := hT i
  obtain ⟨bb, hb, hiff⟩ := ev_rises (nameB i) (hiN l i) (lastN l i) (entN l i) hlen
  have hb' := hiff.2 hm
  subst hb'
  have hg : Ev (fun n => rev_New.g n (sp l i).f1 (16 * (sp l i).f2) (nameB i) (hiN l i) (lastN l i) (entN l i)) ((sp l i).f1, 16 * (sp l i).f2, nameB i, hiN l i, lastN l i, false, keysOf (entN l i), valsOf (entN l i), goneOf (entN l i), T i, 0) := by
    unfold rev_New.g
    refine Ev.bind hb ?_
    simp only [if_true]
    exact Ev.bind (ev_laid (entN l i) hlen _ _ _ _ _ (T i) h5) (Ev.now _)
  unfold rev_New.f
  refine Ev.bind hg ?_
  simp only [if_true]
  exact Ev.now _
/-! the row is right -/
theorem to_loopT (l : List S108) (hl : l.length ≤ 20) (T : Nat → List Int) (k a : Nat) : ∀ d i, a + i + d = l.length → Ev (fun n => tower_To.l0 n (k : Int) ((rowN l T l.length).drop a) (((rowN l T l.length).drop a).length : Int) (i : Int)) (toH (seek (pTo (hsOf l) k) (a + i) d)) := by
  have hdl' : ((rowN l T l.length).drop a).length = l.length - a := by rw [List.length_drop, rowN_len]
  intro d
  induction d with
  | zero =>
    intro i hid
    refine Ev.step (f := fun _ => some 0) (fun n => ?_) (Ev.now _)
    simp only [tower_To.l0]
    rw [if_neg (by omega)]
  | succ d ih =>
    intro i hid
    have er : rd_T83 ((rowN l T l.length).drop a) (i : Int) = viewOf l T (a + i) := by
      have := rowN_at l T l.length (a + i) (by omega)
      unfold rd_T83 at this ⊢
      rw [← this]
      simp [List.getD_eq_getElem?_getD]
      rfl
    have hlen : ((viewOf l T (a + i)).f2.length : Int) = (hsOf l).getD (a + i) 0 := by
      show ((linksN (hsOf l) (a + i) (htN l (a + i))).length : Int) = _
      have := hs_in l (a + i) (by omega)
      rw [linksN_len]
      unfold htN
      omega
    rw [seek_step]
    by_cases c : (k : Int) < (hsOf l).getD (a + i) 0
    · rw [if_pos (by simpa [pTo] using c)]
      refine Ev.step (f := fun _ => some (hdl (a + i))) (fun n => ?_) (Ev.now _)
      simp only [tower_To.l0, er, hlen]
      rw [if_pos (by omega), if_pos (by omega), if_pos (by omega), if_pos (by omega)]
      rfl
    · rw [if_neg (by simpa [pTo] using c)]
      have := ih (i + 1) (by omega)
      rw [show a + (i + 1) = a + i + 1 by omega] at this
      refine Ev.step (fun n => ?_) this
      simp only [tower_To.l0, er, hlen, w_up i (by omega)]
      rw [if_pos (by omega), if_pos (by omega), if_pos (by omega), if_neg (by omega)]
theorem ev_toT (l : List S108) (hl : l.length ≤ 20) (T : Nat → List Int) (i k : Nat) (hi : i < l.length) : Ev (fun n => tower_To.f n (rowN l T l.length) (i : Int) (k : Int)) (toH (toN (hsOf l) i k)) := by
  unfold tower_To.f
  have c0 : ¬ ((i : Int) < 0) := by omega
  have c1 : decide ((k : Int) < 0) = false := decide_eq_false (by omega)
  simp only [c0, if_false, c1]
  have hn := rowN_len l T l.length
  have h := to_loopT l hl T k (i + 1) (l.length - (i + 1)) 0 (by omega)
  have em : mn (i : Int) (wrap64 (((rowN l T l.length).length : Int) - 1)) = (i : Int) := by
    rw [hn]
    unfold mn wrap64
    split <;> omega
  refine Ev.step (fun n => ?_) (by rw [Nat.add_zero] at h; unfold toN; rw [hsOf_len]; exact h)
  simp only [tower_To.j0, em, w_up i (by omega), Bool.false_eq_true, if_false, Option.bind_some]
  rw [if_pos (by omega), if_pos (by omega), Int.toNat_natCast]
  rfl
theorem right_inner (l : List S108) (hl : l.length ≤ 20) (T : Nat → List Int) (i : Nat) (hi : i < l.length) (g : Nat → Option Bool) (r : Bool) (lo hi' : ByteArray) (al : Bool) (hg : Ev (fun n => tower_Right.l0 n (rowN l T l.length) hi' (rowN l T l.length) (l.length : Int) (wrap64 ((i : Int) + 1))) r) : ∀ d k, k + d = htN l i → Ev (fun n => tower_Right.l1 n (rowN l T l.length) (i : Int) (rowN l T l.length) (l.length : Int) (i : Int) (linksN (hsOf l) i (htN l i)) (((linksN (hsOf l) i (htN l i)).length : Nat) : Int) (k : Int) lo hi' al) r := by
  have hb := hs_in l i hi
  have hh : htN l i ≤ 6 := by unfold htN; omega
  intro d
  induction d with
  | zero =>
    intro k hk
    refine Ev.step (fun n => ?_) hg
    simp only [tower_Right.l1, linksN_len]
    rw [if_neg (by omega)]
  | succ d ih =>
    intro k hk
    have er : rd (linksN (hsOf l) i (htN l i)) (k : Int) = (5 + (k : Int)) * 2147483648 + toH (toN (hsOf l) i k) := by
      unfold rd linksN
      simp [List.getD_eq_getElem?_getD, show k < htN l i by omega]
    have hok : toH (toN (hsOf l) i k) = 0 ∨ hr (toH (toN (hsOf l) i k)) = true := (toH_ok (p := pTo (hsOf l) k) (i := i + 1) (d := (hsOf l).length - (i + 1)) (by rw [hsOf_len]; omega)).1
    refine Ev.step (f := fun n => (tag_To.f (rd (linksN (hsOf l) i (htN l i)) (k : Int))).bind fun t196 => ((tower_To.f n (rowN l T l.length) (i : Int) (k : Int)).bind fun t197 => (if t196 = t197 then (tower_Right.l1 n (rowN l T l.length) (i : Int) (rowN l T l.length) (l.length : Int) (i : Int) (linksN (hsOf l) i (htN l i)) (((linksN (hsOf l) i (htN l i)).length : Nat) : Int) (wrap64 ((k : Int) + 1)) lo hi' al) else (some false)))) (fun n => ?_) ?_
    · simp only [tower_Right.l1]
      rw [if_pos (by rw [linksN_len]; omega), if_pos (by omega), if_pos (by rw [linksN_len]; omega)]
    · rw [er, to_ok hok (by omega)]
      simp only [Option.bind_some]
      refine Ev.bind (ev_toT l hl T i k hi) ?_
      simp only [if_true, w_up k (by omega)]
      exact ih (k + 1) (by omega)
theorem right_loop (l : List S108) (hl : l.length ≤ 20) (h0 : 0 < l.length) (T : Nat → List Int) : ∀ d i, i + d = l.length → ∀ lo, (i < l.length → lo = nameB i) → Ev (fun n => tower_Right.l0 n (rowN l T l.length) lo (rowN l T l.length) (l.length : Int) (i : Int)) true := by
  have hn := rowN_len l T l.length
  intro d
  induction d with
  | zero =>
    intro i hid lo hlo
    refine Ev.step (f := fun _ => some true) (fun n => ?_) (Ev.now _)
    simp only [tower_Right.l0, hn]
    rw [if_neg (by omega)]
    congr 1
    exact decide_eq_true (by omega)
  | succ d ih =>
    intro i hid lo hlo
    obtain rfl := hlo (by omega)
    have hb := hs_in l i (by omega)
    have hb0 := hs_in l 0 h0
    have er := rowN_at l T l.length i (by omega)
    have er0 : rd_T83 (rowN l T l.length) 0 = viewOf l T 0 := rowN_at l T l.length 0 h0
    have hnext := ih (i + 1) (by omega) (hiN l i) (fun h => by unfold hiN; rw [if_pos h])
    rw [← w_up i (by omega)] at hnext
    have hin := right_inner l hl T i (by omega) (fun _ => none) true (nameB i) (hiN l i) (lastN l i) hnext (htN l i) 0 (by omega)
    have hla : lastN l i = decide (i + 1 = l.length) := by
      unfold lastN
      rw [show wrap64 ((l.length : Int) - 1) = (l.length : Int) - 1 by unfold wrap64; omega]
      by_cases c : i + 1 = l.length
      · rw [decide_eq_true c]
        simp
        omega
      · rw [decide_eq_false c]
        simp
        omega
    have e1 : key_Good.f (nameB i) (hiN l i) (lastN l i) = some true := by
      unfold key_Good.f
      rw [hla]
      by_cases c : i + 1 = l.length
      · rw [if_pos (decide_eq_true c)]
      · rw [if_neg (by rw [decide_eq_false c]; decide)]
        have := bl_asymm _ _ (name_up i (by omega))
        rw [show hiN l i = nameB (i + 1) by unfold hiN; rw [if_pos (by omega)]]
        rw [this]
        rfl
    have e2 : key_Empty.f (nameB i) (hiN l i) (lastN l i) = some false := by
      unfold key_Empty.f
      rw [hla]
      by_cases c : i + 1 = l.length
      · rw [if_pos (decide_eq_true c)]
      · rw [if_neg (by rw [decide_eq_false c]; decide)]
        have := name_up i (by omega)
        rw [show hiN l i = nameB (i + 1) by unfold hiN; rw [if_pos (by omega)]]
        unfold bl at this
        rw [this]
        rfl
    have h1 : ((viewOf l T i).f2.length : Int) = (hsOf l).getD i 0 := by
      show ((linksN (hsOf l) i (htN l i)).length : Int) = _
      rw [linksN_len]
      unfold htN
      omega
    have h2 : ((viewOf l T 0).f2.length : Int) = (hsOf l).getD 0 0 := by
      show ((linksN (hsOf l) 0 (htN l 0)).length : Int) = _
      rw [linksN_len]
      unfold htN
      omega
    refine Ev.step (f := fun n => tower_Right.j1 n (rowN l T l.length) (i : Int) (rowN l T l.length) (l.length : Int) (i : Int) false (hdl i) (nameB i) (900 + (i : Int)) (cellsN i (htN l i)) (linksN (hsOf l) i (htN l i)) (800 + (i : Int)) (sp l i).f1 (16 * (sp l i).f2) (nameB i) (hiN l i) (lastN l i) false (keysOf (entN l i)) (valsOf (entN l i)) (goneOf (entN l i)) (T i) (nameB i) (hiN l i) (lastN l i)) (fun n => ?_) (Ev.step (fun n => ?_) hin)
    · simp only [tower_Right.l0, er, er0, hn]
      rw [if_pos (by omega), if_pos (by omega), if_pos (by omega), if_pos (show (viewOf l T i).f1.f0.toList = (nameB i).toList from rfl), if_neg (show ¬ ((viewOf l T i).f4.f3 = true) from Bool.false_ne_true), if_pos (show (viewOf l T i).f4.f2.f0.toList = (nameB i).toList from rfl), if_neg (show ¬ (((viewOf l T i).f4.f2.f2 != ((i : Int) == wrap64 ((l.length : Int) - 1))) = true) from (by show ¬ ((lastN l i != lastN l i) = true); simp))]
      rw [show key_Good.f (viewOf l T i).f4.f2.f0 (viewOf l T i).f4.f2.f1 (viewOf l T i).f4.f2.f2 = some true from e1, show key_Empty.f (viewOf l T i).f4.f2.f0 (viewOf l T i).f4.f2.f1 (viewOf l T i).f4.f2.f2 = some false from e2]
      simp only [Option.bind_some, if_true, Bool.false_eq_true, if_false]
      rw [h1, h2, if_neg (by omega), if_pos (by omega), decide_eq_false (by omega)]
      rfl
    · simp only [tower_Right.j1, Bool.false_eq_true, if_false]
      rfl
theorem ev_right (l : List S108) (hl : l.length ≤ 20) (h0 : 0 < l.length) (T : Nat → List Int) : Ev (fun n => tower_Right.f n (rowN l T l.length)) true := by
  have := right_loop l hl h0 T l.length 0 (by omega) (⟨#[]⟩ : ByteArray) (fun _ => rfl)
  unfold tower_Right.f
  rw [rowN_len]
  exact this
/-! the row -/
theorem ev_eqv {α : Type} {f g : Nat → Option α} {a : α} (h : ∀ n, f n = g n) (hg : Ev g a) : Ev f a := by
  rw [show f = g from funext h]
  exact hg
theorem row_inner (l : List S108) (hl : l.length ≤ 20) (i : Nat) (hi : i < l.length) (out : List S83) (h v9 : Int) (lo : ByteArray) (v8 v1 v2 : Int) (b1 b2 : ByteArray) (c1 c2 : Bool) (ks vs : List ByteArray) (gs : List Bool) (T : List Int) (r : List S83 × Bool) (hg : Ev (fun n => rundlelaw18_row.l0 n l (hsOf l) (out ++ [(⟨h, (⟨lo, v9, cellsN i (htN l i)⟩ : S81), linksN (hsOf l) i (htN l i), v8, (⟨v1, v2, (⟨b1, b2, c1⟩ : S32), c2, ks, vs, gs, T⟩ : S37)⟩ : S83)]) (wrap64 ((i : Int) + 1))) r) (ho : out.length ≤ 20) : ∀ d k, k + d = htN l i → Ev (fun n => rundlelaw18_row.l1 n l (hsOf l) out (i : Int) (k : Int) h lo v9 (cellsN i k) (linksN (hsOf l) i k) v8 v1 v2 b1 b2 c1 c2 ks vs gs T) r := by
  have hb := hs_in l i hi
  have hh : htN l i ≤ 6 := by unfold htN; omega
  have hlen := hsOf_len l
  have erd : rd (hsOf l) (i : Int) = (htN l i : Int) := by
    unfold rd htN
    rw [Int.toNat_natCast]
    omega
  intro d
  induction d with
  | zero =>
    intro k hk
    obtain rfl : k = htN l i := by omega
    have ho' : out.length < 567489872400 := by omega
    refine Ev.step (fun n => ?_) hg
    simp only [rundlelaw18_row.l1, erd]
    rw [if_pos (show (0 : Int) ≤ (i : Int) by omega), if_pos (show (i : Int) < ((hsOf l).length : Int) by omega), if_neg (show ¬ ((htN l i : Int) < (htN l i : Int)) from Int.lt_irrefl _), if_pos ho']
  | succ d ih =>
    intro k hk
    have q1 : (0 : Int) ≤ 5 + (k : Int) := by omega
    have q2 : 5 + (k : Int) ≤ 1073741824 := by omega
    have q3 : (k : Int) < (htN l i : Int) := by omega
    have q4 : (0 : Int) ≤ (i : Int) := by omega
    have q5 : (i : Int) < ((hsOf l).length : Int) := by omega
    have b1' : (cellsN i k).length < 17592186044416 := by rw [cellsN_len]; omega
    have b2' : (linksN (hsOf l) i k).length < 17592186044416 := by rw [linksN_len]; omega
    have hc := cell_eq i k (by omega) (by omega)
    have hnext := ih (k + 1) (by omega)
    have ht := ev_to17 (hsOf l) (by omega) i k (by omega)
    have ewk := w_up k (by omega)
    have e5 : wrap64 (5 + (k : Int)) = 5 + (k : Int) := by clear erd hb hh; unfold wrap64; omega
    have ec : cellsN i (k + 1) = cellsN i k ++ [1000 + 10 * (i : Int) + (k : Int)] := by simp [cellsN, List.range_succ]
    have el : linksN (hsOf l) i (k + 1) = linksN (hsOf l) i k ++ [(5 + (k : Int)) * 2147483648 + toH (toN (hsOf l) i k)] := by simp [linksN, List.range_succ]
    rw [ec, el, ← ewk] at hnext
    have hok : toH (toN (hsOf l) i k) = 0 ∨ hr (toH (toN (hsOf l) i k)) = true := (toH_ok (p := pTo (hsOf l) k) (i := i + 1) (d := (hsOf l).length - (i + 1)) (by rw [hsOf_len]; omega)).1
    have hw : tag_Word.f (toH (toN (hsOf l) i k)) (wrap64 (5 + (k : Int))) = some ((5 + (k : Int)) * 2147483648 + toH (toN (hsOf l) i k)) := by
      rw [e5]
      exact word_ok hok q1 q2
    refine Ev.step (f := fun n => (rundleref17_To.f n (hsOf l) (i : Int) (k : Int)).bind fun t => if t ≥ 0 then ((rundlelaw18_handle.f t).bind fun t236 => ((rundlelaw18_cell.f (i : Int) (k : Int)).bind fun t237 => (if (cellsN i k).length < 17592186044416 then ((tag_Word.f t236 (wrap64 (5 + (k : Int)))).bind fun t241 => (if (linksN (hsOf l) i k).length < 17592186044416 then (rundlelaw18_row.l1 n l (hsOf l) out (i : Int) (wrap64 ((k : Int) + 1)) h lo v9 (cellsN i k ++ [t237]) (linksN (hsOf l) i k ++ [t241]) v8 v1 v2 b1 b2 c1 c2 ks vs gs T) else (none))) else (none)))) else ((rundlelaw18_cell.f (i : Int) (k : Int)).bind fun t245 => (if (cellsN i k).length < 17592186044416 then ((tag_Word.f 0 (wrap64 (5 + (k : Int)))).bind fun t249 => (if (linksN (hsOf l) i k).length < 17592186044416 then (rundlelaw18_row.l1 n l (hsOf l) out (i : Int) (wrap64 ((k : Int) + 1)) h lo v9 (cellsN i k ++ [t245]) (linksN (hsOf l) i k ++ [t249]) v8 v1 v2 b1 b2 c1 c2 ks vs gs T) else (none))) else (none)))) (fun n => ?_) ?_
    · simp only [rundlelaw18_row.l1, erd]
      rw [if_pos q4, if_pos q5, if_pos q3]
    · refine Ev.bind ht ?_
      cases e : toN (hsOf l) i k with
      | none =>
        rw [e, show toH none = 0 from rfl] at hw hnext
        refine ev_eqv (fun n => ?_) hnext
        show (if (-1 : Int) ≥ 0 then _ else _) = _
        rw [if_neg (by decide), hc]
        simp only [Option.bind_some]
        rw [if_pos b1', hw]
        simp only [Option.bind_some]
        rw [if_pos b2']
      | some j =>
        have hj : j ≤ 1000 := by
          obtain ⟨_, a, _, _⟩ := seek_some e
          clear hok hw ec el e5 q1 q2
          omega
        have he := hdl_eq j hj
        rw [e, show toH (some j) = hdl j from rfl] at hw hnext
        generalize hdl j = H at hw hnext he
        refine ev_eqv (fun n => ?_) hnext
        show (if (j : Int) ≥ 0 then _ else _) = _
        clear hok el ec e5
        generalize rundlelaw18_cell.f (i : Int) (k : Int) = cf at hc ⊢
        rw [if_pos (Int.natCast_nonneg j), he]
        refine (Option.bind_some _ _).trans ?_
        rw [hc]
        refine (Option.bind_some _ _).trans ?_
        rw [if_pos b1', hw]
        refine (Option.bind_some _ _).trans ?_
        rw [if_pos b2']
theorem row_loop (l : List S108) (hg : ∀ x ∈ l, Good x) (hl : l.length ≤ 20) (h0 : 0 < l.length) (T : Nat → List Int) (hT : Tabs l T) : ∀ d i, i + d = l.length → Ev (fun n => rundlelaw18_row.l0 n l (hsOf l) (rowN l T i) (i : Int)) (rowN l T l.length, true) := by
  intro d
  induction d with
  | zero =>
    intro i hid
    obtain rfl : i = l.length := by omega
    refine Ev.step (f := fun n => (tower_Right.f n (rowN l T l.length)).bind fun t201 => some (rowN l T l.length, t201)) (fun n => ?_) (Ev.bind (ev_right l hl h0 T) (Ev.now _))
    simp only [rundlelaw18_row.l0]
    rw [if_neg (by omega)]
  | succ d ih =>
    intro i hid
    have hnext := ih (i + 1) (by omega)
    have en : rowN l T (i + 1) = rowN l T i ++ [viewOf l T i] := by simp [rowN, List.range_succ]
    rw [en, ← w_up i (by omega)] at hnext
    have hin := row_inner l hl i (by omega) (rowN l T i) (hdl i) (900 + (i : Int)) (nameB i) (800 + (i : Int)) (sp l i).f1 (16 * (sp l i).f2) (nameB i) (hiN l i) (lastN l i) false (keysOf (entN l i)) (valsOf (entN l i)) (goneOf (entN l i)) (T i) _ hnext (by rw [rowN_len]; omega) (htN l i) 0 (by omega)
    have hnew := new_at l hg hl T hT i (by omega)
    have hent := ev_entries18 i (by omega) (sp l i) (good_at hg i)
    have e9 : wrap64 (900 + (i : Int)) = 900 + (i : Int) := by unfold wrap64; omega
    have e8 : wrap64 (800 + (i : Int)) = 800 + (i : Int) := by unfold wrap64; omega
    have hj : Ev (fun n => rundlelaw18_row.j1 n l (hsOf l) (rowN l T i) (i : Int) (nameB i) (hiN l i) (lastN l i)) (rowN l T l.length, true) := by
      refine Ev.step (f := fun n => (rundlelaw18_entries.f n (i : Int) (sp l i).f0 (sp l i).f1 (sp l i).f2 (sp l i).f3 (sp l i).f4 (sp l i).f5).bind fun t207 => ((rev_New.f n (wrap64 (sp l i).f1) (wrap64 (16 * (wrap64 (sp l i).f2))) (nameB i) (hiN l i) (lastN l i) t207).bind fun bt210 => (if bt210.2.2.2.2.2.2.2.2.2.2 = 0 then (rundlelaw18_row.l1 n l (hsOf l) (rowN l T i) (i : Int) 0 (hdl i) (nameB i) (900 + (i : Int)) ([] : List Int) ([] : List Int) (800 + (i : Int)) bt210.1 bt210.2.1 bt210.2.2.1 bt210.2.2.2.1 bt210.2.2.2.2.1 bt210.2.2.2.2.2.1 bt210.2.2.2.2.2.2.1 bt210.2.2.2.2.2.2.2.1 bt210.2.2.2.2.2.2.2.2.1 bt210.2.2.2.2.2.2.2.2.2.1) else (some (([] : List (S83)), false))))) (fun n => ?_) (Ev.bind hent (Ev.bind hnew ?_))
      · have he := hdl_eq i (by omega)
        have q1 : (0 : Int) ≤ (i : Int) := by omega
        have q2 : (i : Int) < (l.length : Int) := by omega
        clear hin hnext hnew hent
        generalize hdl i = H at he ⊢
        generalize hn9 : (900 : Int) + (i : Int) = n9 at e9 ⊢
        generalize hn8 : (800 : Int) + (i : Int) = n8 at e8 ⊢
        simp only [rundlelaw18_row.j1, rd108, he, name_eq i (by omega), Option.bind_some]
        rw [if_pos q1, if_pos q2, hn9, hn8, e9, e8]
      · simp only [if_true]
        exact hin
    refine Ev.step (f := fun n => rundlelaw18_row.j1 n l (hsOf l) (rowN l T i) (i : Int) (nameB i) (hiN l i) (lastN l i)) (fun n => ?_) hj
    simp only [rundlelaw18_row.l0, name_eq i (by omega), Option.bind_some, w_up i (by omega), name_eq (i + 1) (by omega)]
    rw [if_pos (by omega)]
    unfold hiN
    by_cases c : i + 1 < l.length
    · rw [if_pos (by unfold wrap64; omega), if_pos c]
      rfl
    · rw [if_neg (by unfold wrap64; omega), if_neg c]
      rfl
theorem ev_row (l : List S108) (hg : ∀ x ∈ l, Good x) (hl : l.length ≤ 20) (h0 : 0 < l.length) (T : Nat → List Int) (hT : Tabs l T) : Ev (fun n => rundlelaw18_row.f n l) (rowN l T l.length, true) := by
  unfold rundlelaw18_row.f
  have h : Ev (fun n => rundlelaw18_row.g n l) (rowN l T l.length, true) := by
    unfold rundlelaw18_row.g
    exact Ev.bind (ev_heights l hl hg) (row_loop l hg hl h0 T hT l.length 0 (by omega))
  refine Ev.bind h ?_
  simp only [if_true]
  exact Ev.now _
/-! rows by their places -/
def tbl {α : Type} (n : Nat) (f : Nat → α) : List α := (List.range n).map f
theorem tbl_len {α : Type} (n : Nat) (f : Nat → α) : (tbl n f).length = n := by simp [tbl]
theorem tbl_at {α : Type} (n i : Nat) (f : Nat → α) (d : α) (h : i < n) : (tbl n f).getD i d = f i := by
  unfold tbl
  simp [List.getD_eq_getElem?_getD, h]
theorem tbl_ext {α : Type} {n : Nat} {f g : Nat → α} (h : ∀ j, j < n → f j = g j) : tbl n f = tbl n g := List.map_congr_left fun j hj => h j (List.mem_range.1 hj)
theorem tbl_set {α : Type} (n i : Nat) (f : Nat → α) (v : α) (h : i < n) : (tbl n f).set i v = tbl n fun j => if j = i then v else f j := by
  refine List.ext_getElem? fun m => ?_
  rw [List.getElem?_set, tbl_len]
  unfold tbl
  by_cases c : i = m
  · subst c
    simp [h]
  · by_cases c2 : m < n
    · simp [c, c2, Ne.symm c]
    · simp [c, c2]
theorem tbl_rep {α : Type} (n : Nat) (z : α) : List.replicate n z = tbl n fun _ => z := by
  unfold tbl
  rw [List.map_const', List.length_range]
/-! the towers of a row -/
def goneN (l : List S108) (i : Nat) : Bool := (sp l i).f5 && decide ((i : Int) > 0)
def twN (l : List S108) (i : Nat) (g : Bool) : S92 := ⟨hdl i, cellsN i (htN l i), linksN (hsOf l) i (htN l i), g⟩
def tws (l : List S108) : List S92 := tbl l.length fun i => twN l i (goneN l i)
theorem tws_len (l : List S108) : (tws l).length = l.length := tbl_len _ _
theorem clone_ok (xs : List Int) (h : xs.length ≤ 1000) : slices_Clone_int_int.f xs = some xs := by
  have hb : xs.length < 17592186044416 := by omega
  unfold slices_Clone_int_int.f
  rw [if_pos hb]
theorem ht_le (l : List S108) (i : Nat) (h : i < l.length) : 1 ≤ htN l i ∧ htN l i ≤ 6 := by
  have := hs_in l i h
  unfold htN
  omega
theorem towers_loop (l : List S108) (hl : l.length ≤ 20) (T : Nat → List Int) : ∀ d i, i + d = l.length → Ev (fun n => plan_Towers.l0 n (tbl l.length fun j => if j < i then twN l j false else z92) (rowN l T l.length) (l.length : Int) (i : Int)) (tbl l.length fun j => twN l j false) := by
  have hn := rowN_len l T l.length
  intro d
  induction d with
  | zero =>
    intro i hid
    refine Ev.step (f := fun _ => some (tbl l.length fun j => twN l j false)) (fun n => ?_) (Ev.now _)
    simp only [plan_Towers.l0]
    rw [if_neg (by omega), tbl_ext (g := fun j => twN l j false) (fun j hj => if_pos (by omega))]
  | succ d ih =>
    intro i hid
    have hh := ht_le l i (by omega)
    have er := rowN_at l T l.length i (by omega)
    have q1 : (i : Int) < (l.length : Int) := by omega
    have q2 : (0 : Int) ≤ (i : Int) := by omega
    have c1 : slices_Clone_int_int.f (viewOf l T i).f1.f2 = some (cellsN i (htN l i)) := clone_ok _ (by show (cellsN i (htN l i)).length ≤ 1000; rw [cellsN_len]; omega)
    have c2 : slices_Clone_int_int.f (viewOf l T i).f2 = some (linksN (hsOf l) i (htN l i)) := clone_ok _ (by show (linksN (hsOf l) i (htN l i)).length ≤ 1000; rw [linksN_len]; omega)
    refine Ev.step (fun n => ?_) (ih (i + 1) (by omega))
    simp only [plan_Towers.l0, er, hn, w_up i (by omega)]
    rw [if_pos q1, if_pos q2, if_pos q1, c1]
    refine (Option.bind_some _ _).trans ?_
    rw [c2]
    refine (Option.bind_some _ _).trans ?_
    rw [tbl_len, if_pos q1, Int.toNat_natCast, tbl_set _ _ _ _ (by omega)]
    rw [tbl_ext (g := fun j => if j < i + 1 then twN l j false else z92)]
    intro j hj
    by_cases c : j = i
    · subst c
      rw [if_pos rfl, if_pos (by omega)]
      rfl
    · rw [if_neg c]
      by_cases c' : j < i
      · rw [if_pos c', if_pos (by omega)]
      · rw [if_neg c', if_neg (by omega)]
theorem ev_towers (l : List S108) (hl : l.length ≤ 20) (T : Nat → List Int) : Ev (fun n => plan_Towers.f n (rowN l T l.length)) (tbl l.length fun j => twN l j false) := by
  have hn := rowN_len l T l.length
  have hb : l.length ≤ 4398046511104 := by omega
  have h := towers_loop l hl T l.length 0 (by omega)
  unfold plan_Towers.f
  rw [hn]
  simp only [Int.toNat_natCast]
  rw [tbl_rep, tbl_ext (f := fun _ => z92) (g := fun j => if j < 0 then twN l j false else z92) (fun j hj => (if_neg (by omega)).symm)]
  refine ev_eqv (fun n => ?_) h
  rw [if_pos (by omega), if_pos hb]
  rfl
theorem rd92_tbl (n i : Nat) (f : Nat → S92) (h : i < n) : rd_T92 (tbl n f) (i : Int) = f i := by
  unfold rd_T92
  rw [Int.toNat_natCast, tbl_at n i f _ h]
theorem goes_loop (l : List S108) (hl : l.length ≤ 20) : ∀ d i, i + d = l.length → Ev (fun n => rundlelaw18_goes.l0 n l (tbl l.length fun j => twN l j (if j < i then goneN l j else false)) (i : Int)) (tws l) := by
  intro d
  induction d with
  | zero =>
    intro i hid
    refine Ev.step (f := fun _ => some (tws l)) (fun n => ?_) (Ev.now _)
    simp only [rundlelaw18_goes.l0, tbl_len]
    rw [if_neg (by omega), tbl_ext (g := fun i => twN l i (goneN l i)) (fun j hj => by rw [if_pos (by omega)])]
    rfl
  | succ d ih =>
    intro i hid
    refine Ev.step (fun n => ?_) (ih (i + 1) (by omega))
    have q1 : (i : Int) < (l.length : Int) := by omega
    have q2 : (0 : Int) ≤ (i : Int) := by omega
    have ex : ∀ b, b = goneN l i → (tbl l.length fun j => if j = i then (⟨(twN l i (if i < i then goneN l i else false)).f0, (twN l i (if i < i then goneN l i else false)).f1, (twN l i (if i < i then goneN l i else false)).f2, b⟩ : S92) else twN l j (if j < i then goneN l j else false)) = tbl l.length fun j => twN l j (if j < i + 1 then goneN l j else false) := by
      rintro b rfl
      refine tbl_ext fun j hj => ?_
      by_cases c : j = i
      · subst c
        rw [if_pos rfl]
        show twN l j (goneN l j) = twN l j (if j < j + 1 then goneN l j else false)
        rw [if_pos (by omega)]
      · rw [if_neg c]
        by_cases c' : j < i
        · rw [if_pos c', if_pos (by omega)]
        · rw [if_neg c', if_neg (by omega)]
    simp only [rundlelaw18_goes.l0, tbl_len, rd108, w_up i (by omega)]
    rw [if_pos q1, if_pos q1, if_pos q2, rd92_tbl _ _ _ (by omega), Int.toNat_natCast]
    by_cases c : (sp l i).f5 = true
    · rw [if_pos c, tbl_set _ _ _ _ (by omega), ex _ (by unfold goneN; rw [c, Bool.true_and])]
    · rw [if_neg c, tbl_set _ _ _ _ (by omega), ex _ (by unfold goneN; rw [Bool.eq_false_iff.2 c, Bool.false_and])]
theorem ev_goes (l : List S108) (hl : l.length ≤ 20) (T : Nat → List Int) : Ev (fun n => rundlelaw18_goes.f n (rowN l T l.length) l) (tws l) := by
  unfold rundlelaw18_goes.f
  refine Ev.bind (ev_towers l hl T) ?_
  have h := goes_loop l hl l.length 0 (by omega)
  rw [tbl_ext (g := fun j => twN l j false) (fun j hj => by rw [if_neg (by omega)])] at h
  exact h
/-! whom a tower leads to -/
def pLd (l : List S108) (k : Int) (j : Nat) : Bool := !goneN l j && decide (k < (hsOf l).getD j 0)
def ldN (l : List S108) (i : Nat) (k : Int) : Option Nat := seek (pLd l k) i (l.length - i)
theorem seekT_tws (l : List S108) (k : Int) : ∀ d i (m : Int), i + d = l.length → seekT k ((tws l).drop i) m = match seek (pLd l k) i d with | some j => m + ((j : Int) - (i : Int)) | none => -1 := by
  intro d
  induction d with
  | zero =>
    intro i m hid
    rw [List.drop_eq_nil_of_le (by rw [tws_len]; omega)]
    rfl
  | succ d ih =>
    intro i m hid
    have hi : i < (tws l).length := by rw [tws_len]; omega
    have et : (tws l)[i] = twN l i (goneN l i) := by
      have := tbl_at l.length i (fun i => twN l i (goneN l i)) z92 (by omega)
      rw [← this, List.getD_eq_getElem?_getD]
      show (tws l)[i] = ((tws l)[i]?).getD z92
      rw [List.getElem?_eq_getElem hi]
      rfl
    rw [List.drop_eq_getElem_cons hi, et, seek_step]
    have hp : (!(twN l i (goneN l i)).f3 && decide (k < ((twN l i (goneN l i)).f1.length : Int))) = pLd l k i := by
      show (!goneN l i && decide (k < ((cellsN i (htN l i)).length : Int))) = _
      have hh := hs_in l i (by omega)
      rw [cellsN_len, show ((htN l i : Nat) : Int) = (hsOf l).getD i 0 by unfold htN; omega]
      rfl
    simp only [seekT, hp]
    by_cases c : pLd l k i = true
    · rw [if_pos c, if_pos c]
      show m = m + ((i : Int) - (i : Int))
      omega
    · rw [if_neg c, if_neg c, ih (i + 1) (m + 1) (by omega)]
      cases seek (pLd l k) (i + 1) d with
      | none => rfl
      | some j =>
        show m + 1 + ((j : Int) - ((i + 1 : Nat) : Int)) = m + ((j : Int) - (i : Int))
        omega
theorem fromT_in (n : Nat) (i : Int) : 0 ≤ fromT n i ∧ fromT n i ≤ (n : Int) := by
  unfold fromT
  split <;> split <;> omega
theorem leads_eq (l : List S108) (hl : l.length ≤ 20) (i k : Int) : plan_Leads.f (tws l) i k = some (if k < 0 then 0 else toH (ldN l (fromT l.length i).toNat k)) := by
  have hb : l.length < 9223372036854775807 := by omega
  obtain ⟨f0, f1⟩ := fromT_in l.length i
  unfold plan_Leads.f
  rw [tws_len]
  by_cases c : k < 0
  · rw [if_pos c, if_pos c]
  · rw [if_neg c, if_neg c, if_pos hb]
    obtain ⟨a, ha⟩ : ∃ a : Nat, (a : Int) = fromT l.length i := ⟨(fromT l.length i).toNat, by omega⟩
    rw [← ha, Int.toNat_natCast]
    rw [seekT_tws l k (l.length - a) a 0 (by omega)]
    unfold ldN
    cases e : seek (pLd l k) a (l.length - a) with
    | none => rfl
    | some j =>
      obtain ⟨e1, e2, _, _⟩ := seek_some e
      show (if 0 + ((j : Int) - (a : Int)) < 0 then some 0 else some (rd_T92 (tws l) ((a : Int) + (0 + ((j : Int) - (a : Int))))).f0) = some (hdl j)
      rw [if_neg (by omega), show (a : Int) + (0 + ((j : Int) - (a : Int))) = (j : Int) by omega]
      show some (rd_T92 (tbl l.length fun i => twN l i (goneN l i)) (j : Int)).f0 = _
      rw [rd92_tbl _ _ _ (by omega)]
      rfl
theorem from_at (n i : Nat) (h : i < n) : (fromT n (i : Int)).toNat = i + 1 := by
  unfold fromT
  rw [if_neg (show ¬ ((i : Int) < -1) by omega), if_neg (by omega)]
  omega
def ldW (l : List S108) (i k : Nat) : Int := toH (ldN l (i + 1) (k : Int))
theorem leads_at (l : List S108) (hl : l.length ≤ 20) (i k : Nat) (h : i < l.length) : plan_Leads.f (tws l) (i : Int) (k : Int) = some (ldW l i k) := by
  rw [leads_eq l hl, from_at _ _ h, if_neg (by omega)]
  rfl
theorem ldW_ok (l : List S108) (hl : l.length ≤ 20) (i k : Nat) (h : i < l.length) : (ldW l i k = 0 ∨ hr (ldW l i k) = true) ∧ 0 ≤ ldW l i k ∧ ldW l i k < 2147483648 := toH_ok (by omega)
/-! what has to be changed -/
def wdN (l : List S108) (i k : Nat) : Int := (5 + (k : Int)) * 2147483648 + toH (toN (hsOf l) i k)
def relOne (l : List S108) (v : Int) (i k : Nat) : List S85 := if ldW l i k = toH (toN (hsOf l) i k) then [] else [⟨1000 + 10 * (i : Int) + (k : Int), wdN l i k, v * 2147483648 + ldW l i k⟩]
def relIn (l : List S108) (v : Int) (i : Nat) : Nat → Nat → List S85
  | _, 0 => []
  | k, d + 1 => relOne l v i k ++ relIn l v i (k + 1) d
def relOut (l : List S108) (v : Int) : Nat → Nat → List S85
  | _, 0 => []
  | i, d + 1 => (if goneN l i = true then [] else relIn l v i 0 (htN l i)) ++ relOut l v (i + 1) d
theorem toN_ok (l : List S108) (hl : l.length ≤ 20) (i k : Nat) : toH (toN (hsOf l) i k) = 0 ∨ hr (toH (toN (hsOf l) i k)) = true := by
  by_cases c : i < l.length
  · exact (toH_ok (p := pTo (hsOf l) k) (i := i + 1) (d := (hsOf l).length - (i + 1)) (by rw [hsOf_len]; omega)).1
  · left
    unfold toN
    rw [hsOf_len, show l.length - (i + 1) = 0 by omega]
    rfl
theorem relOne_len (l : List S108) (v : Int) (i k : Nat) : (relOne l v i k).length ≤ 1 := by
  unfold relOne
  split
  · exact Nat.zero_le _
  · exact Nat.le_refl _
theorem relin_loop (l : List S108) (hl : l.length ≤ 20) (v : Int) (hv0 : 0 ≤ v) (hv1 : v ≤ 1073741824) (i : Nat) (hi : i < l.length) (R : List S85) : ∀ d k acc, k + d = htN l i → acc.length ≤ 10 * i + k → Ev (fun n => plan_Relink.l0 n (tws l) v (acc ++ relIn l v i k d) (tws l) (l.length : Int) (wrap64 ((i : Int) + 1))) R → Ev (fun n => plan_Relink.l1 n (tws l) v acc (i : Int) (tws l) (l.length : Int) (i : Int) (linksN (hsOf l) i (htN l i)) ((linksN (hsOf l) i (htN l i)).length : Int) (k : Int) (hdl i) (cellsN i (htN l i)) (linksN (hsOf l) i (htN l i)) (goneN l i)) R := by
  have hh := ht_le l i hi
  intro d
  induction d with
  | zero =>
    intro k acc hk ha hg
    refine Ev.step (fun n => ?_) hg
    simp only [plan_Relink.l1, linksN_len]
    rw [if_neg (by omega)]
    simp only [relIn, List.append_nil]
  | succ d ih =>
    intro k acc hk ha hg
    have q1 : (k : Int) < ((linksN (hsOf l) i (htN l i)).length : Int) := by rw [linksN_len]; omega
    have q2 : (0 : Int) ≤ (k : Int) := by omega
    have q3 : (k : Int) < ((cellsN i (htN l i)).length : Int) := by rw [cellsN_len]; omega
    have q4 : acc.length < 5864062014805 := by omega
    have q5 : (0 : Int) ≤ 5 + (k : Int) := by omega
    have ewk := w_up k (by omega)
    have hld := leads_at l hl i k hi
    have hwok := (ldW_ok l hl i k hi).1
    have er : rd (linksN (hsOf l) i (htN l i)) (k : Int) = wdN l i k := by
      unfold rd linksN wdN
      simp [List.getD_eq_getElem?_getD, show k < htN l i by omega]
    have ec : rd (cellsN i (htN l i)) (k : Int) = 1000 + 10 * (i : Int) + (k : Int) := by
      unfold rd cellsN
      simp [List.getD_eq_getElem?_getD, show k < htN l i by omega]
    have hto : tag_To.f (wdN l i k) = some (toH (toN (hsOf l) i k)) := to_ok (toN_ok l hl i k) q5
    by_cases c : ldW l i k = toH (toN (hsOf l) i k)
    · have e1 : relOne l v i k = [] := if_pos c
      refine Ev.step (fun n => ?_) (ih (k + 1) acc (by omega) (by omega) (by
        rw [relIn, e1, List.nil_append] at hg
        exact hg))
      simp only [plan_Relink.l1]
      rw [if_pos q1, if_pos q2, if_pos q1, hld]
      refine (Option.bind_some _ _).trans ?_
      rw [er, hto]
      refine (Option.bind_some _ _).trans ?_
      rw [if_pos c, ewk]
    · have e1 : relOne l v i k = [⟨1000 + 10 * (i : Int) + (k : Int), wdN l i k, v * 2147483648 + ldW l i k⟩] := if_neg c
      have hw := word_ok hwok hv0 hv1
      refine Ev.step (fun n => ?_) (ih (k + 1) (acc ++ [⟨1000 + 10 * (i : Int) + (k : Int), wdN l i k, v * 2147483648 + ldW l i k⟩]) (by omega) (by simp only [List.length_append, List.length_cons, List.length_nil]; omega) (by
        rw [relIn, e1, ← List.append_assoc] at hg
        exact hg))
      simp only [plan_Relink.l1]
      rw [if_pos q1, if_pos q2, if_pos q1, hld]
      refine (Option.bind_some _ _).trans ?_
      rw [er, hto]
      refine (Option.bind_some _ _).trans ?_
      rw [if_neg c, if_pos q3, hw]
      refine (Option.bind_some _ _).trans ?_
      rw [if_pos q4, ewk, ec]
theorem relIn_len (l : List S108) (v : Int) (i : Nat) : ∀ d k, (relIn l v i k d).length ≤ d
  | 0, k => Nat.zero_le _
  | d + 1, k => by
    have h1 := relIn_len l v i d (k + 1)
    have h2 := relOne_len l v i k
    simp only [relIn, List.length_append]
    omega
theorem relout_loop (l : List S108) (hl : l.length ≤ 20) (v : Int) (hv0 : 0 ≤ v) (hv1 : v ≤ 1073741824) : ∀ d i acc, i + d = l.length → acc.length ≤ 10 * i → Ev (fun n => plan_Relink.l0 n (tws l) v acc (tws l) (l.length : Int) (i : Int)) (acc ++ relOut l v i d) := by
  intro d
  induction d with
  | zero =>
    intro i acc hid ha
    refine Ev.step (f := fun _ => some acc) (fun n => ?_) (by simp only [relOut, List.append_nil]; exact Ev.now _)
    simp only [plan_Relink.l0]
    rw [if_neg (by omega)]
  | succ d ih =>
    intro i acc hid ha
    have hi : i < l.length := by omega
    have hh := ht_le l i hi
    have q1 : (i : Int) < (l.length : Int) := by omega
    have q2 : (0 : Int) ≤ (i : Int) := by omega
    have q3 : (i : Int) < ((tws l).length : Int) := by rw [tws_len]; omega
    have et : rd_T92 (tws l) (i : Int) = twN l i (goneN l i) := rd92_tbl _ _ _ hi
    by_cases c : goneN l i = true
    · have h := ih (i + 1) acc (by omega) (by omega)
      rw [relOut, if_pos c, List.nil_append]
      refine Ev.step (fun n => ?_) h
      simp only [plan_Relink.l0, et, w_up i (by omega)]
      rw [if_pos q1, if_pos q2, if_pos q3, if_pos (show (twN l i (goneN l i)).f3 = true from c)]
    · have hlen := relIn_len l v i (htN l i) 0
      have h := ih (i + 1) (acc ++ relIn l v i 0 (htN l i)) (by omega) (by rw [List.length_append]; omega)
      rw [relOut, if_neg c, ← List.append_assoc]
      rw [← w_up i (by omega)] at h
      have hin := relin_loop l hl v hv0 hv1 i hi _ (htN l i) 0 acc (by omega) (by omega) h
      have em : mn (((linksN (hsOf l) i (htN l i)).length : Nat) : Int) (((cellsN i (htN l i)).length : Nat) : Int) = (htN l i : Int) := by
        rw [linksN_len, cellsN_len]
        unfold mn
        split <;> rfl
      have q4 : (0 : Int) ≤ (htN l i : Int) := by omega
      have q5 : (htN l i : Int) ≤ ((linksN (hsOf l) i (htN l i)).length : Int) := by rw [linksN_len]; omega
      have ek : (linksN (hsOf l) i (htN l i)).take (htN l i) = linksN (hsOf l) i (htN l i) := List.take_of_length_le (by rw [linksN_len]; omega)
      refine Ev.step (fun n => ?_) hin
      simp only [plan_Relink.l0, et]
      rw [if_pos q1, if_pos q2, if_pos q3, if_neg (show ¬ (twN l i (goneN l i)).f3 = true from c)]
      show (if 0 ≤ mn (((linksN (hsOf l) i (htN l i)).length : Nat) : Int) (((cellsN i (htN l i)).length : Nat) : Int) then (if mn (((linksN (hsOf l) i (htN l i)).length : Nat) : Int) (((cellsN i (htN l i)).length : Nat) : Int) ≤ (((linksN (hsOf l) i (htN l i)).length : Nat) : Int) then plan_Relink.l1 n (tws l) v acc (i : Int) (tws l) (l.length : Int) (i : Int) ((linksN (hsOf l) i (htN l i)).take (mn (((linksN (hsOf l) i (htN l i)).length : Nat) : Int) (((cellsN i (htN l i)).length : Nat) : Int)).toNat) ((((linksN (hsOf l) i (htN l i)).take (mn (((linksN (hsOf l) i (htN l i)).length : Nat) : Int) (((cellsN i (htN l i)).length : Nat) : Int)).toNat).length : Nat) : Int) 0 (hdl i) (cellsN i (htN l i)) (linksN (hsOf l) i (htN l i)) (goneN l i) else none) else none) = _
      rw [em, if_pos q4, if_pos q5, Int.toNat_natCast, ek]
      rfl
theorem ev_relink (l : List S108) (hl : l.length ≤ 20) (v : Int) (hv0 : 0 ≤ v) (hv1 : v ≤ 1073741824) : Ev (fun n => plan_Relink.f n (tws l) v) (relOut l v 0 l.length) := by
  have h := relout_loop l hl v hv0 hv1 l.length 0 [] (by omega) (Nat.zero_le _)
  unfold plan_Relink.f
  rw [tws_len]
  exact h
/-! the document's example -/
def l3 : List S108 := [(⟨0, 0, 0, 0, false, false⟩ : S108), (⟨0, 0, 0, 0, false, true⟩ : S108), (⟨0, 0, 0, 0, false, false⟩ : S108)]
theorem rel3 : relOut l3 9 0 3 = [⟨1000, 10737418240 + 458754, 19327352832 + 458755⟩] := by kernel_rfl
theorem ev_awake18 : Ev (fun k => rundlelaw18_awake.f k) true := by
  obtain ⟨T, hT⟩ := tabs_ex l3
  have hg : ∀ x ∈ l3, Good x := by
    intro x hx
    have h3 : x = ⟨0, 0, 0, 0, false, false⟩ ∨ x = ⟨0, 0, 0, 0, false, true⟩ := by
      simp only [l3, List.mem_cons, List.not_mem_nil, or_false] at hx
      rcases hx with h | h | h
      · exact .inl h
      · exact .inr h
      · exact .inl h
    rcases h3 with rfl | rfl <;> exact ⟨⟨by decide, by decide⟩, ⟨by decide, by decide⟩, ⟨by decide, by decide⟩, ⟨by decide, by decide⟩⟩
  have hl : l3.length ≤ 20 := by decide
  have h1 := ev_row l3 hg hl (by decide) T hT
  have h2 := ev_goes l3 hl T
  have h3 := ev_relink l3 hl 9 (by decide) (by decide)
  rw [show l3.length = 3 from rfl, rel3] at h3
  unfold rundlelaw18_awake.f
  simp only [Option.bind_some]
  refine Ev.bind h1 (Ev.bind h2 (Ev.bind h3 ?_))
  refine ev_eqv (f := _) (g := fun _ => some true) (fun n => ?_) (Ev.now _)
  show (if ((1 : Nat) : Int) = 1 then (if 0 < ((1 : Nat) : Int) then _ else none) else some false) = _
  rw [if_pos (by decide), if_pos (by decide)]
  have a1 : rundlelaw18_cell.f 0 0 = some 1000 := cell_eq 0 0 (by decide) (by decide)
  have a2 : rundlelaw18_handle.f 1 = some 458754 := hdl_eq 1 (by decide)
  have a3 : tag_Word.f 458754 5 = some (10737418240 + 458754) := word_ok (.inr (hdl_hr 1 (by decide))) (by decide) (by decide)
  have a4 : rundlelaw18_handle.f 2 = some 458755 := hdl_eq 2 (by decide)
  have a5 : tag_Word.f 458755 9 = some (19327352832 + 458755) := word_ok (.inr (hdl_hr 2 (by decide))) (by decide) (by decide)
  generalize rundlelaw18_cell.f 0 0 = x1 at a1 ⊢
  generalize rundlelaw18_handle.f 1 = x2 at a2 ⊢
  generalize rundlelaw18_handle.f 2 = x4 at a4 ⊢
  subst a1 a2 a4
  show ((tag_Word.f 458754 5).bind fun t297 => ((tag_Word.f 458755 9).bind fun t299 => some ((1000 : Int) == 1000 && ((10737418240 + 458754 : Int) == t297 && ((19327352832 + 458755 : Int) == t299))))) = some true
  generalize tag_Word.f 458754 5 = x3 at a3 ⊢
  generalize tag_Word.f 458755 9 = x5 at a5 ⊢
  subst a3 a5
  rfl
/-! the document's towers -/
def towN (l : List S108) : List S77 := tbl l.length fun i => ⟨(hsOf l).getD i 0, goneN l i⟩
theorem towN_len (l : List S108) : (towN l).length = l.length := tbl_len _ _
theorem rd77_at (l : List S108) (i : Nat) (h : i < l.length) : rd_T77 (towN l) (i : Int) = ⟨(hsOf l).getD i 0, goneN l i⟩ := by
  unfold rd_T77 towN
  rw [Int.toNat_natCast, tbl_at _ _ _ _ h]
theorem tow_loop (l : List S108) (hg : ∀ x ∈ l, Good x) (hl : l.length ≤ 20) : ∀ d i, i + d = l.length → Ev (fun n => rundlelaw18_towers.l0 n l (hsOf l) (tbl i fun i => (⟨(hsOf l).getD i 0, goneN l i⟩ : S77)) (i : Int)) (towN l) := by
  intro d
  induction d with
  | zero =>
    intro i hid
    obtain rfl : i = l.length := by omega
    refine Ev.step (f := fun _ => some (towN l)) (fun n => ?_) (Ev.now _)
    simp only [rundlelaw18_towers.l0]
    rw [if_neg (by omega)]
    rfl
  | succ d ih =>
    intro i hid
    have hb : (tbl i fun i => (⟨(hsOf l).getD i 0, goneN l i⟩ : S77)).length < 8796093022208 := by rw [tbl_len]; omega
    have hlen := hsOf_len l
    have q1 : (i : Int) < (l.length : Int) := by omega
    have q2 : (0 : Int) ≤ (i : Int) := by omega
    have q3 : (i : Int) < ((hsOf l).length : Int) := by omega
    have es : (tbl (i + 1) fun i => (⟨(hsOf l).getD i 0, goneN l i⟩ : S77)) = (tbl i fun i => (⟨(hsOf l).getD i 0, goneN l i⟩ : S77)) ++ [⟨(hsOf l).getD i 0, goneN l i⟩] := by simp [tbl, List.range_succ]
    have er : rd (hsOf l) (i : Int) = (hsOf l).getD i 0 := by simp [rd]
    have hn := ih (i + 1) (by omega)
    rw [es] at hn
    refine Ev.step (fun n => ?_) hn
    simp only [rundlelaw18_towers.l0, rd108, w_up i (by omega), er]
    rw [if_pos q1, if_pos q2, if_pos q3]
    by_cases c : (sp l i).f5 = true
    · rw [if_pos c, if_pos hb, show goneN l i = decide ((i : Int) > 0) by unfold goneN; rw [c, Bool.true_and]]
    · rw [if_neg c, if_pos hb, show goneN l i = false by unfold goneN; rw [Bool.eq_false_iff.2 c, Bool.false_and]]
theorem ev_tow (l : List S108) (hg : ∀ x ∈ l, Good x) (hl : l.length ≤ 20) : Ev (fun n => rundlelaw18_towers.f n l) (towN l) := by
  unfold rundlelaw18_towers.f
  exact Ev.bind (ev_heights l hl hg) (tow_loop l hg hl l.length 0 (by omega))
def pR (l : List S108) (i k : Int) (j : Nat) : Bool := decide ((j : Int) > i) && pLd l k j
def asI (o : Option Nat) : Int := match o with | some j => (j : Int) | none => -1
theorem rlead_loop (l : List S108) (hl : l.length ≤ 20) (i k : Int) : ∀ d j, j + d = l.length → Ev (fun n => rundleref18_Leads.l0 n (towN l) i k (j : Int)) (asI (seek (pR l i k) j d)) := by
  have hn := towN_len l
  intro d
  induction d with
  | zero =>
    intro j hj
    refine Ev.step (f := fun _ => some (-1)) (fun n => ?_) (Ev.now _)
    simp only [rundleref18_Leads.l0]
    rw [if_neg (by omega)]
  | succ d ih =>
    intro j hj
    have er := rd77_at l j (by omega)
    have q1 : (j : Int) < ((towN l).length : Int) := by omega
    have q2 : (0 : Int) ≤ (j : Int) := by omega
    have hnext := ih (j + 1) (by omega)
    rw [← w_up j (by omega)] at hnext
    rw [seek_step]
    by_cases c1 : (j : Int) > i
    · by_cases c2 : goneN l j = true
      · rw [if_neg (by simp [pR, pLd, c2])]
        refine Ev.step (fun n => ?_) hnext
        simp only [rundleref18_Leads.l0, er]
        rw [if_pos q1, if_pos c1, if_pos q2, if_pos c2]
      · by_cases c3 : (hsOf l).getD j 0 > k
        · rw [if_pos (by unfold pR pLd; rw [decide_eq_true c1, Bool.eq_false_iff.2 c2, decide_eq_true (show k < (hsOf l).getD j 0 from c3)]; rfl)]
          refine Ev.step (f := fun _ => some (j : Int)) (fun n => ?_) (Ev.now _)
          simp only [rundleref18_Leads.l0, er]
          rw [if_pos q1, if_pos c1, if_pos q2, if_neg c2, if_pos c3]
        · rw [if_neg (by
            have : ¬ k < (hsOf l).getD j 0 := c3
            unfold pR pLd
            rw [decide_eq_false this, Bool.and_false, Bool.and_false]
            decide)]
          refine Ev.step (fun n => ?_) hnext
          simp only [rundleref18_Leads.l0, er]
          rw [if_pos q1, if_pos c1, if_pos q2, if_neg c2, if_neg c3]
    · rw [if_neg (by
        unfold pR
        rw [decide_eq_false c1]
        simp)]
      refine Ev.step (fun n => ?_) hnext
      simp only [rundleref18_Leads.l0, er]
      rw [if_pos q1, if_neg c1]
theorem pR_eq (l : List S108) (i k : Int) : seek (pR l i k) 0 l.length = ldN l (fromT l.length i).toNat k := by
  obtain ⟨f0, f1⟩ := fromT_in l.length i
  have hd : ∀ j : Nat, (j < (fromT l.length i).toNat → ¬ (j : Int) > i) ∧ ((fromT l.length i).toNat ≤ j → j < l.length → (j : Int) > i) := by
    intro j
    have hf : fromT l.length i = 0 ∧ i < -1 ∨ fromT l.length i = (l.length : Int) ∧ (l.length : Int) - 1 < i ∨ fromT l.length i = i + 1 ∧ -1 ≤ i := by
      unfold fromT
      by_cases h1 : i < -1
      · rw [if_pos h1, if_neg (by omega)]
        omega
      · rw [if_neg h1]
        by_cases h2 : (l.length : Int) - 1 < i
        · rw [if_pos h2]
          omega
        · rw [if_neg h2]
          omega
    constructor <;> intros <;> omega
  obtain ⟨a, ha⟩ : ∃ a : Nat, (fromT l.length i).toNat = a := ⟨_, rfl⟩
  rw [ha] at hd ⊢
  have hal : a ≤ l.length := by omega
  unfold ldN
  rw [show l.length = a + (l.length - a) by omega, seek_skip a (fun m _ h2 => by unfold pR; rw [decide_eq_false ((hd m).1 (by omega)), Bool.false_and]), Nat.zero_add, show a + (l.length - a) - a = l.length - a by omega]
  exact seek_cong fun m h1 h2 => by unfold pR; rw [decide_eq_true ((hd m).2 h1 (by omega)), Bool.true_and]
theorem ev_rlead (l : List S108) (hl : l.length ≤ 20) (i k : Int) (hk : 0 ≤ k) : Ev (fun n => rundleref18_Leads.f n (towN l) i k) (asI (ldN l (fromT l.length i).toNat k)) := by
  have h := rlead_loop l hl i k l.length 0 (by omega)
  rw [pR_eq] at h
  unfold rundleref18_Leads.f
  refine ev_eqv (fun n => ?_) h
  rw [if_neg (by omega)]
  rfl
/-- what is made of a place -/
theorem of_place {α : Type} (l : List S108) (hl : l.length ≤ 20) (o : Option Nat) (ho : ∀ j, o = some j → j ≤ 1000) (F G : Int → Option α) (H : Option α) (hF : F (toH o) = H) (hG : G (toH o) = H) : (if asI o ≥ 0 then (rundlelaw18_handle.f (asI o)).bind F else G 0) = H := by
  cases o with
  | none =>
    show (if (-1 : Int) ≥ 0 then _ else _) = H
    rw [if_neg (show ¬ ((-1 : Int) ≥ 0) by decide)]
    exact hG
  | some j =>
    have he := hdl_eq j (ho j rfl)
    show (if (j : Int) ≥ 0 then (rundlelaw18_handle.f (j : Int)).bind F else _) = H
    rw [if_pos (show ((j : Int) ≥ 0) from Int.natCast_nonneg j)]
    rw [he]
    exact hF
theorem ldN_le (l : List S108) (hl : l.length ≤ 20) (a : Nat) (k : Int) (j : Nat) (h : ldN l a k = some j) : j ≤ 1000 := by
  obtain ⟨_, b, _, _⟩ := seek_some h
  by_cases c : a ≤ l.length
  · omega
  · rw [ldN, show l.length - a = 0 by omega] at h
    exact nomatch h
/-! the law -/
theorem relOut_len (l : List S108) (v : Int) : ∀ d i, i + d = l.length → (relOut l v i d).length ≤ 6 * d
  | 0, i, _ => Nat.zero_le _
  | d + 1, i, h => by
    have h1 := relOut_len l v d (i + 1) (by omega)
    have h2 := relIn_len l v i (htN l i) 0
    have h3 := ht_le l i (by omega)
    rw [relOut, List.length_append]
    split
    · simp only [List.length_nil]
      omega
    · omega
theorem drop_at {S : List S85} {m : Nat} {e : S85} {R : List S85} (h : S.drop m = e :: R) : m < S.length ∧ rd_T85 S (m : Int) = e ∧ S.drop (m + 1) = R := by
  have hm : m < S.length := by
    by_cases c : m < S.length
    · exact c
    · rw [List.drop_eq_nil_of_le (by omega)] at h
      exact nomatch h
  rw [List.drop_eq_getElem_cons hm] at h
  injection h with h1 h2
  refine ⟨hm, ?_, h2⟩
  unfold rd_T85
  simp [List.getD_eq_getElem?_getD, hm, h1]
theorem rel_inner (l : List S108) (hl : l.length ≤ 20) (T : Nat → List Int) (v : Int) (hv0 : 0 ≤ v) (hv1 : v ≤ 1073741824) (i : Nat) (hi : i < l.length) (hng : goneN l i = false) (S : List S85) (hS : S.length ≤ 1000) (R : List S85) (hg : ∀ m : Nat, S.drop m = R → m ≤ S.length → Ev (fun n => rundlelaw18_PlanRelinks.l0 n (rowN l T l.length) (towN l) v S (m : Int) (wrap64 ((i : Int) + 1))) true) : ∀ d k m, k + d = htN l i → m ≤ S.length → S.drop m = relIn l v i k d ++ R → Ev (fun n => rundlelaw18_PlanRelinks.l1 n (rowN l T l.length) (towN l) v S (m : Int) (i : Int) (k : Int)) true := by
  have hh := ht_le l i hi
  have q1 : (0 : Int) ≤ (i : Int) := by omega
  have q2 : (i : Int) < ((towN l).length : Int) := by rw [towN_len]; omega
  have q3 : (i : Int) < ((rowN l T l.length).length : Int) := by rw [rowN_len]; omega
  have e0 : (rd_T77 (towN l) (i : Int)).f0 = (htN l i : Int) := by
    rw [rd77_at l i hi]
    have := hs_in l i hi
    show (hsOf l).getD i 0 = _
    unfold htN
    omega
  have e1 : (rd_T77 (towN l) (i : Int)).f1 = false := by
    rw [rd77_at l i hi]
    exact hng
  have ev : (rd_T83 (rowN l T l.length) (i : Int)).f2 = linksN (hsOf l) i (htN l i) := by
    rw [rowN_at l T l.length i hi]
    rfl
  intro d
  induction d with
  | zero =>
    intro k m hk hm hd
    have h := hg m (by rw [hd]; rfl) hm
    have q4 : ¬ (k : Int) < (htN l i : Int) := by
      clear e0 e1 ev hg
      omega
    refine Ev.step (f := fun n => rundlelaw18_PlanRelinks.j3 n (rowN l T l.length) (towN l) v S (m : Int) (i : Int) (k : Int) false) (fun n => ?_) (Ev.step (fun n => ?_) h)
    · simp only [rundlelaw18_PlanRelinks.l1, e0]
      rw [if_pos q1, if_pos q2, if_neg q4]
    · simp only [rundlelaw18_PlanRelinks.j3, Bool.false_eq_true, if_false]
  | succ d ih =>
    intro k m hk hm hd
    have q4 : (k : Int) < (htN l i : Int) := by
      clear e0 e1 ev hg ih
      omega
    have q5 : (0 : Int) ≤ (k : Int) := by
      clear e0 e1 ev hg ih
      omega
    have q6 : (k : Int) < ((linksN (hsOf l) i (htN l i)).length : Int) := by
      rw [linksN_len]
      exact q4
    have q7 : (0 : Int) ≤ 5 + (k : Int) := by
      clear e0 e1 ev hg ih
      omega
    have q8 : (0 : Int) ≤ (m : Int) := by
      clear e0 e1 ev hg ih
      omega
    have k6 : k ≤ 1000 := by
      clear e0 e1 ev hg ih
      omega
    have i6 : i ≤ 1000 := by
      clear e0 e1 ev hg ih
      omega
    have ewk := w_up k (Nat.le_trans k6 (by decide))
    have hcell := cell_eq i k i6 k6
    have k7 : k + 1 + d = htN l i := by
      clear e0 e1 ev hg ih
      omega
    have hrl := ev_rlead l hl (i : Int) (k : Int) q5
    rw [from_at _ _ hi] at hrl
    have hle := ldN_le l hl (i + 1) (k : Int)
    have hwok := (ldW_ok l hl i k hi).1
    have hw := word_ok hwok hv0 hv1
    have er : rd (linksN (hsOf l) i (htN l i)) (k : Int) = wdN l i k := by
      unfold rd linksN wdN
      simp [List.getD_eq_getElem?_getD, show k < htN l i from Int.ofNat_lt.1 q4]
    have hto : tag_To.f (wdN l i k) = some (toH (toN (hsOf l) i k)) := to_ok (toN_ok l hl i k) q7
    have hj4 : Ev (fun n => rundlelaw18_PlanRelinks.j4 n (rowN l T l.length) (towN l) v S (m : Int) (i : Int) (k : Int) (ldW l i k)) true := by
      by_cases c : toH (toN (hsOf l) i k) = ldW l i k
      · have e2 : relOne l v i k = [] := if_pos c.symm
        have hn := ih (k + 1) m k7 hm (by rw [hd, relIn, e2, List.nil_append])
        refine Ev.step (fun n => ?_) hn
        simp only [rundlelaw18_PlanRelinks.j4, ev]
        rw [if_pos q1, if_pos q3, if_pos q5, if_pos q6, er, hto]
        refine (Option.bind_some _ _).trans ?_
        rw [if_pos c, ewk]
      · have e2 : relOne l v i k = [⟨1000 + 10 * (i : Int) + (k : Int), wdN l i k, v * 2147483648 + ldW l i k⟩] := if_neg (fun h => c h.symm)
        rw [relIn, e2, List.append_assoc] at hd
        obtain ⟨d1, d2, d3⟩ := drop_at hd
        have q9 : (m : Int) < (S.length : Int) := Int.ofNat_lt.2 d1
        have q10 : ¬ (m : Int) ≥ (S.length : Int) := Int.not_le.2 q9
        have ewm := w_up m (Nat.le_trans (Nat.le_of_lt d1) (Nat.le_trans hS (by decide)))
        have hn := ih (k + 1) (m + 1) k7 d1 d3
        refine Ev.step (fun n => ?_) hn
        simp only [rundlelaw18_PlanRelinks.j4, ev]
        rw [if_pos q1, if_pos q3, if_pos q5, if_pos q6, er, hto]
        refine (Option.bind_some _ _).trans ?_
        rw [if_neg c, if_neg q10, if_pos q8, if_pos q9, hcell]
        refine (Option.bind_some _ _).trans ?_
        rw [hw]
        refine (Option.bind_some _ _).trans ?_
        rw [if_neg (by rw [d2]; simp), ewk, ewm]
    refine Ev.step (f := fun n => rundlelaw18_PlanRelinks.j3 n (rowN l T l.length) (towN l) v S (m : Int) (i : Int) (k : Int) true) (fun n => ?_) (Ev.step (f := fun n => (rundleref18_Leads.f n (towN l) (i : Int) (k : Int)).bind fun t266 => (if t266 ≥ 0 then ((rundlelaw18_handle.f t266).bind fun t267 => (rundlelaw18_PlanRelinks.j4 n (rowN l T l.length) (towN l) v S (m : Int) (i : Int) (k : Int) t267)) else (rundlelaw18_PlanRelinks.j4 n (rowN l T l.length) (towN l) v S (m : Int) (i : Int) (k : Int) 0))) (fun n => ?_) (Ev.bind hrl ?_))
    · simp only [rundlelaw18_PlanRelinks.l1, e0, e1]
      rw [if_pos q1, if_pos q2, if_pos q4]
      rfl
    · simp only [rundlelaw18_PlanRelinks.j3, if_true]
    · refine ev_eqv (fun n => ?_) hj4
      exact of_place l hl (ldN l (i + 1) (k : Int)) hle (fun t => rundlelaw18_PlanRelinks.j4 n (rowN l T l.length) (towN l) v S (m : Int) (i : Int) (k : Int) t) (fun t => rundlelaw18_PlanRelinks.j4 n (rowN l T l.length) (towN l) v S (m : Int) (i : Int) (k : Int) t) _ rfl rfl
theorem rel_outer (l : List S108) (hl : l.length ≤ 20) (T : Nat → List Int) (v : Int) (hv0 : 0 ≤ v) (hv1 : v ≤ 1073741824) (S : List S85) (hS : S.length ≤ 1000) : ∀ d i m, i + d = l.length → m ≤ S.length → S.drop m = relOut l v i d → Ev (fun n => rundlelaw18_PlanRelinks.l0 n (rowN l T l.length) (towN l) v S (m : Int) (i : Int)) true := by
  have hn := towN_len l
  intro d
  induction d with
  | zero =>
    intro i m hid hm hd
    have e : m = S.length := by
      have := List.drop_eq_nil_iff.1 hd
      omega
    refine Ev.step (f := fun _ => some true) (fun n => ?_) (Ev.now _)
    simp only [rundlelaw18_PlanRelinks.l0]
    rw [if_neg (by omega), e]
    simp
  | succ d ih =>
    intro i m hid hm hd
    have hi : i < l.length := by omega
    have hh := ht_le l i hi
    have ewi := w_up i (by omega)
    have hnext : ∀ m : Nat, S.drop m = relOut l v (i + 1) d → m ≤ S.length → Ev (fun n => rundlelaw18_PlanRelinks.l0 n (rowN l T l.length) (towN l) v S (m : Int) (wrap64 ((i : Int) + 1))) true := by
      intro m h1 h2
      rw [ewi]
      exact ih (i + 1) m (by omega) h2 h1
    have hl1 : Ev (fun n => rundlelaw18_PlanRelinks.l1 n (rowN l T l.length) (towN l) v S (m : Int) (i : Int) 0) true := by
      by_cases c : goneN l i = true
      · rw [relOut, if_pos c, List.nil_append] at hd
        have q1 : (0 : Int) ≤ (i : Int) := by omega
        have q2 : (i : Int) < ((towN l).length : Int) := by omega
        have q3 : (0 : Int) < (htN l i : Int) := by omega
        have e0 : (rd_T77 (towN l) (i : Int)).f0 = (htN l i : Int) := by
          rw [rd77_at l i hi]
          have := hs_in l i hi
          show (hsOf l).getD i 0 = _
          unfold htN
          omega
        have e1 : (rd_T77 (towN l) (i : Int)).f1 = true := by
          rw [rd77_at l i hi]
          exact c
        refine Ev.step (f := fun n => rundlelaw18_PlanRelinks.j3 n (rowN l T l.length) (towN l) v S (m : Int) (i : Int) 0 false) (fun n => ?_) (Ev.step (fun n => ?_) (hnext m hd hm))
        · simp only [rundlelaw18_PlanRelinks.l1, e0, e1]
          rw [if_pos q1, if_pos q2, if_pos q3]
          rfl
        · simp only [rundlelaw18_PlanRelinks.j3, Bool.false_eq_true, if_false]
      · rw [relOut, if_neg c] at hd
        exact rel_inner l hl T v hv0 hv1 i hi (Bool.eq_false_iff.2 c) S hS _ hnext (htN l i) 0 m (by omega) hm hd
    have q0 : (i : Int) < ((towN l).length : Int) := by omega
    refine Ev.step (fun n => ?_) hl1
    simp only [rundlelaw18_PlanRelinks.l0]
    rw [if_pos q0]
theorem PlanRelinks (l : List S108) (hg : ∀ x ∈ l, Good x) (v0 : Int) (hv : 0 ≤ v0 ∧ v0 ≤ 4294967295) : Ev (fun k => rundlelaw18_PlanRelinks.f k l v0) true := by
  obtain ⟨v, hvd⟩ : ∃ v, wrap64 (Int.tmod v0 1073741825) = v := ⟨_, rfl⟩
  have hv' : 0 ≤ v ∧ v ≤ 1073741824 := by
    rw [← hvd, Int.tmod_eq_emod_of_nonneg hv.1]
    unfold wrap64
    omega
  obtain ⟨hv0, hv1⟩ := hv'
  unfold rundlelaw18_PlanRelinks.f
  refine Ev.bind ev_awake18 ?_
  have hno : Ev (fun k => rundlelaw18_PlanRelinks.j0 k l v0 true) true := by
    refine Ev.step (f := fun k => (rundlelaw18_awake.f k).bind fun t337 => some t337) (fun n => ?_) (Ev.bind ev_awake18 (Ev.now _))
    simp only [rundlelaw18_PlanRelinks.j0, if_true]
  by_cases c1 : (l.length : Int) < 1
  · refine ev_eqv (fun n => ?_) hno
    rw [if_pos rfl, if_pos c1]
  · by_cases c2 : (l.length : Int) > 20
    · refine ev_eqv (fun n => ?_) hno
      rw [if_pos rfl, if_neg c1, decide_eq_true c2]
    · have hl : l.length ≤ 20 := by omega
      have h0 : 0 < l.length := by omega
      obtain ⟨T, hT⟩ := tabs_ex l
      have hrow := ev_row l hg hl h0 T hT
      have hlen := relOut_len l v l.length 0 (by omega)
      have hout := rel_outer l hl T v hv0 hv1 (relOut l v 0 l.length) (by omega) l.length 0 0 (by omega) (Nat.zero_le _) rfl
      refine ev_eqv (g := fun n => rundlelaw18_PlanRelinks.j0 n l v0 false) (fun n => ?_) ?_
      · rw [if_pos rfl, if_neg c1, decide_eq_false c2]
      · refine Ev.step (f := fun k => (rundlelaw18_row.f k l).bind fun bt251 => (if bt251.2 = true then ((rundlelaw18_goes.f k bt251.1 l).bind fun t255 => ((rundlelaw18_towers.f k l).bind fun t258 => ((plan_Relink.f k t255 v).bind fun t261 => (rundlelaw18_PlanRelinks.l0 k bt251.1 t258 v t261 0 0)))) else (some false))) (fun n => ?_) (Ev.bind hrow ?_)
        · simp only [rundlelaw18_PlanRelinks.j0, Bool.false_eq_true, if_false, hvd]
        · simp only [if_true]
          exact Ev.bind (ev_goes l hl T) (Ev.bind (ev_tow l hg hl) (Ev.bind (ev_relink l hl v hv0 hv1) hout))
end Go.Proofs.Ytoaacdjcjicemaa.Pure
