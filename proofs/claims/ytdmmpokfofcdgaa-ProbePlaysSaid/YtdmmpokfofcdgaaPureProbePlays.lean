/- ProbePlays: the table of any keys is the document's, and so is where a key is found; for all keys and texts. -/
import Derived.Test.YtdmmpokfofcdgaaPProbePlaysx3
import Derived.Laws.BitsLemmas
import Derived.Lib.Strings
import Derived.Laws.BitsAllLaws
import Derived.Laws.BitsAllLaws
import Derived.Laws.Bits64
namespace Go.Proofs.Ytdmmpokfofcdgaa.Pure
open Go.RowKit Go.Proofs.Ytdmmpokfofcdgaa.PProbePlays Go.Proofs.YtdmmpokfofcdgaaW.PrintWords Go.Proofs.YtdmmpokfofcdgaaW.PrintLast
set_option linter.unusedVariables false

/-- one byte more -/
def y32 (x b : Int) : Int := (x + b) % 4294967296
def m10 (y : Int) : Int := (y * 1025) % 4294967296
def xs (t s : Nat) : Nat := t ^^^ (t / s)
def hs (x b : Int) : Int := ((xs (m10 (y32 x b)).toNat 64 : Nat) : Int)
def bytes (s : ByteArray) : List Int := s.data.toList.map fun c => (c.toNat : Int)
def hadd (h : Int) (l : List Int) : Int := l.foldl hs h
theorem xs_lt (t s : Nat) (ht : t < 4294967296) : xs t s < 4294967296 := by
  have h : t / s ≤ t := Nat.div_le_self t s
  exact Nat.xor_lt_two_pow (n := 32) ht (by omega)
theorem hs_bd (x b : Int) : 0 ≤ hs x b ∧ hs x b < 4294967296 := by
  unfold hs
  have := xs_lt (m10 (y32 x b)).toNat 64 (by unfold m10; omega)
  omega
theorem xor32 (t : Int) (s : Nat) (h0 : 0 ≤ t) (h1 : t < 4294967296) : Go.bits .xor .u32 t (t / (s : Int)) = ((xs t.toNat s : Nat) : Int) := by
  obtain ⟨n, rfl⟩ := Int.eq_ofNat_of_zero_le h0
  have e : ((n : Int) / (s : Int)) = ((n / s : Nat) : Int) := by simp
  have hn : n < 4294967296 := by omega
  have hd : n / s ≤ n := Nat.div_le_self n s
  rw [e, u32_xor_nat n (n / s) hn (by omega)]
  rfl
theorem bt_eq (s : ByteArray) (i : Nat) (h : i < s.size) : bt s (i : Int) = (bytes s).getD i 0 := by
  have h2 : i < s.data.toList.length := by simpa using h
  unfold bt bytes
  rw [dif_pos (by simpa using h), List.getD_eq_getElem?_getD, List.getElem?_map, List.getElem?_eq_getElem h2]
  simp [ByteArray.getElem_eq_getElem_data]
theorem bytes_len (s : ByteArray) : (bytes s).length = s.size := by simp [bytes]
theorem bytes_bd (s : ByteArray) : ∀ b ∈ bytes s, 0 ≤ b ∧ b < 256 := by
  intro b hb
  unfold bytes at hb
  obtain ⟨c, _, rfl⟩ := List.mem_map.1 hb
  have := c.toNat_lt
  omega
theorem step_eq (x b : Int) (hb : 0 ≤ b ∧ b < 256) :
    Go.bits .xor .u32 ((((x + (b % 4294967296)) % 4294967296) + ((((x + (b % 4294967296)) % 4294967296) * 1024) % 4294967296)) % 4294967296) (((((x + (b % 4294967296)) % 4294967296) + ((((x + (b % 4294967296)) % 4294967296) * 1024) % 4294967296)) % 4294967296) / 64) = hs x b := by
  have e0 : b % 4294967296 = b := by omega
  rw [e0]
  have e : (((x + b) % 4294967296) + ((((x + b) % 4294967296) * 1024) % 4294967296)) % 4294967296 = m10 (y32 x b) := by
    unfold m10 y32; omega
  rw [e]
  exact xor32 _ 64 (by unfold m10; omega) (by unfold m10; omega)
theorem add_loop (s : ByteArray) (hz : s.size ≤ 140737488351232) : ∀ (d k : Nat) (x : Int) (i : Nat), i + d = s.size → d < k →
    hash_Add.l0 k x s (s.size : Int) (i : Int) = some (hadd x ((bytes s).drop i)) := by
  intro d
  induction d with
  | zero =>
    intro k x i hi hk
    obtain ⟨k, rfl⟩ : ∃ m, k = m + 1 := ⟨k - 1, by omega⟩
    simp only [hash_Add.l0]
    rw [if_neg (by omega), List.drop_of_length_le (by rw [bytes_len]; omega)]
    rfl
  | succ d ih =>
    intro k x i hi hk
    obtain ⟨k, rfl⟩ : ∃ m, k = m + 1 := ⟨k - 1, by omega⟩
    have hlt : i < s.size := by omega
    have hl : i < (bytes s).length := by rw [bytes_len]; exact hlt
    simp only [hash_Add.l0]
    rw [if_pos (by omega), if_pos (by omega), if_pos (by omega), bt_eq s i hlt]
    have hg : (bytes s).getD i 0 = (bytes s)[i] := by rw [List.getD_eq_getElem?_getD, List.getElem?_eq_getElem hl]; rfl
    have hb := bytes_bd s (bytes s)[i] (List.getElem_mem hl)
    rw [hg, step_eq x _ hb]
    have ew : wrap64 ((i : Int) + 1) = ((i + 1 : Nat) : Int) := by unfold wrap64; omega
    rw [ew, ih k _ (i + 1) (by omega) (by omega), List.drop_eq_getElem_cons hl]
    rfl
theorem add_eq (s : ByteArray) (hz : s.size ≤ 140737488351232) (k : Nat) (h : Int) (hk : s.size < k) : hash_Add.f k h s = some (hadd h (bytes s)) := by
  unfold hash_Add.f
  have := add_loop s hz s.size k h 0 (by omega) hk
  simpa using this
def m3 (h : Int) : Int := (h * 9) % 4294967296
def m15 (h : Int) : Int := (h * 32769) % 4294967296
def he (h : Int) : Int := m15 ((xs (m3 h).toNat 2048 : Nat) : Int)
theorem end_eq (h : Int) : hash_End.f h = some (he h) := by
  unfold hash_End.f
  have e : (h + ((h * 8) % 4294967296)) % 4294967296 = m3 h := by unfold m3; omega
  rw [e]
  have x := xor32 (m3 h) 2048 (by unfold m3; omega) (by unfold m3; omega)
  have x' : Go.bits .xor .u32 (m3 h) (m3 h / 2048) = ((xs (m3 h).toNat 2048 : Nat) : Int) := x
  rw [x']
  congr 1
  unfold he m15
  generalize ((xs (m3 h).toNat 2048 : Nat) : Int) = z
  omega
theorem of_eq (s : ByteArray) (hz : s.size ≤ 140737488351232) (k : Nat) (hk : s.size < k) : hash_Of.f k s = some (he (hadd 0 (bytes s))) := by
  unfold hash_Of.f
  rw [add_eq s hz k 0 hk]
  simp only [Option.bind_some, end_eq]

/-! sizes of tables -/
theorem pow_s (j : Nat) : (2 : Int) ^ (j + 1) = 2 * 2 ^ j := by rw [Int.pow_succ]; omega
theorem pow_pos' (j : Nat) : (1 : Int) ≤ 2 ^ j := by
  induction j with
  | zero => decide
  | succ j ih => rw [pow_s]; omega
theorem pow_mono' {i j : Nat} (h : i ≤ j) : (2 : Int) ^ i ≤ 2 ^ j := by
  induction h with
  | refl => exact Int.le_refl _
  | step _ ih => rw [pow_s]; have := pow_pos' i; omega
/-- 2^j is the least that is enough for n. -/
def Least (n : Int) (j : Nat) : Prop := n ≤ 2 ^ j ∧ (j = 0 ∨ 2 ^ (j - 1) < n)
theorem Least.uniq {n : Int} {i j : Nat} (h : Least n i) (k : Least n j) : i = j := by
  rcases Nat.lt_trichotomy i j with c | c | c
  · have := pow_mono' (i := i) (j := j - 1) (by omega)
    rcases k.2 with e | e
    · omega
    · have := h.1; omega
  · exact c
  · have := pow_mono' (i := j) (j := i - 1) (by omega)
    rcases h.2 with e | e
    · omega
    · have := k.1; omega
theorem least_some (n : Int) : ∀ d, n ≤ 2 ^ d → ∃ j, j ≤ d ∧ Least n j
  | 0, h => ⟨0, Nat.le_refl _, h, Or.inl rfl⟩
  | d + 1, h => by
    by_cases c : n ≤ 2 ^ d
    · obtain ⟨j, hj, hl⟩ := least_some n d c
      exact ⟨j, by omega, hl⟩
    · exact ⟨d + 1, Nat.le_refl _, h, Or.inr (by rw [Nat.add_sub_cancel]; omega)⟩
theorem psize_loop (n : Int) (j : Nat) (hj : j ≤ 41) (hl : Least n j) : ∀ d i, i + d = j → Ev (fun k => probe_Size.l0 k n (2 * 2 ^ i)) (2 * 2 ^ j) := by
  intro d
  induction d with
  | zero =>
    intro i hi
    obtain rfl : i = j := by omega
    refine Ev.step (f := fun _ => some (2 * 2 ^ i)) (fun k => ?_) (Ev.now _)
    simp only [probe_Size.l0]
    have h1 := hl.1
    have p := pow_pos' i
    have q := pow_mono' (i := i) (j := 41) hj
    have e : wrap64 (Int.tdiv (2 * 2 ^ i) 2) = 2 ^ i := by
      rw [Int.tdiv_eq_ediv_of_nonneg (by omega)]
      unfold wrap64
      omega
    rw [e, if_neg (by omega)]
  | succ d ih =>
    intro i hi
    refine Ev.step (f := fun k => probe_Size.l0 k n (2 * 2 ^ (i + 1))) (fun k => ?_) (ih (i + 1) (by omega))
    simp only [probe_Size.l0]
    have p := pow_pos' i
    have q := pow_mono' (i := i) (j := 40) (by omega)
    have e : wrap64 (Int.tdiv (2 * 2 ^ i) 2) = 2 ^ i := by
      rw [Int.tdiv_eq_ediv_of_nonneg (by omega)]
      unfold wrap64
      omega
    have h2 : (2 : Int) ^ i < n := by
      rcases hl.2 with e | e
      · omega
      · have := pow_mono' (i := i) (j := j - 1) (by omega); omega
    have e2 : wrap64 (2 * 2 ^ i * 2) = 2 * 2 ^ (i + 1) := by
      rw [pow_s]
      unfold wrap64
      omega
    rw [e, if_pos h2, e2]
theorem psize (n : Int) (j : Nat) (hj : j ≤ 41) (hl : Least n j) : Ev (fun k => probe_Size.f k n) (2 * 2 ^ j) := by
  have := psize_loop n j hj hl j 0 (by omega)
  exact this
/-- masks by a table's size -/
theorem wraps_i64 (n : Int) (h₀ : 0 ≤ n) (h₁ : n < 2 ^ 63) : IntKind.i64.wrap n = n := by rw [IntKind.wrap_i64]; omega
theorem mask (x : Int) (j : Nat) (hj : j ≤ 41) (h0 : 0 ≤ x) (h1 : x < 9223372036854775808) : Go.bits .and .i64 x (wrap64 (2 * 2 ^ j - 1)) = x % (2 * 2 ^ j) := by
  have p := pow_pos' j
  have q := pow_mono' (i := j) (j := 41) hj
  have e : wrap64 (2 * 2 ^ j - 1) = 2 ^ (j + 1) - 1 := by
    rw [pow_s]
    unfold wrap64
    omega
  rw [e, ← pow_s]
  exact bits_mask .i64 63 (by decide) wraps_i64 (j + 1) (by omega) x h0 (by omega)
def hsh (k : ByteArray) : Int := he (hadd 0 (bytes k))
theorem hsh_bd (k : ByteArray) : 0 ≤ hsh k ∧ hsh k < 4294967296 := by unfold hsh he m15; omega
theorem ev_of (k : ByteArray) (hz : k.size ≤ 140737488351232) : Ev (fun n => hash_Of.f n k) (hsh k) := ⟨k.size + 1, fun n hn => of_eq k hz n (by omega)⟩
theorem ev_first (k : ByteArray) (hz : k.size ≤ 140737488351232) (j : Nat) (hj : j ≤ 41) : Ev (fun n => probe_first.f n (2 * 2 ^ j) k) (hsh k % (2 * 2 ^ j)) := by
  unfold probe_first.f
  refine Ev.bind (ev_of k hz) ?_
  have b := hsh_bd k
  have e : wrap64 (hsh k) = hsh k := by unfold wrap64; omega
  rw [e, mask _ j hj b.1 (by omega)]
  exact Ev.now _
/-- the place of the i-th look -/
theorem next_at (N a : Int) (hN : 0 < N) : (a % N + 1) % N = (a + 1) % N := by
  rw [Int.add_emod, Int.emod_emod_of_dvd _ (Int.dvd_refl N), ← Int.add_emod]
theorem emod_bd (N a : Int) (hN : 0 < N) : 0 ≤ a % N ∧ a % N < N := ⟨Int.emod_nonneg _ (by omega), Int.emod_lt_of_pos _ hN⟩
/-! looking for a key -/
def slot (t : List Int) (h : Int) (i : Nat) : Int := rd t ((h + i) % (t.length : Int))
def hits (keys : List ByteArray) (k : ByteArray) (v : Int) : Prop := v > 0 ∧ v ≤ (keys.length : Int) ∧ (rdOf ByteArray.empty keys (v - 1)).toList = k.toList
instance (keys : List ByteArray) (k : ByteArray) (v : Int) : Decidable (hits keys k v) := inferInstanceAs (Decidable (_ ∧ _ ∧ _))
def look (t : List Int) (keys : List ByteArray) (k : ByteArray) : Nat → Nat → Int × Int
  | 0, _ => (-1, (t.length : Int))
  | d + 1, i => if slot t (hsh k) i = 0 then (-1, (i : Int) + 1) else if hits keys k (slot t (hsh k) i) then (slot t (hsh k) i - 1, (i : Int) + 1) else look t keys k d (i + 1)
theorem len_bd (t : List Int) (j : Nat) (hj : j ≤ 41) (ht : (t.length : Int) = 2 * 2 ^ j) : 0 < (t.length : Int) ∧ (t.length : Int) ≤ 4398046511104 := by
  have p := pow_pos' j
  have q := pow_mono' (i := j) (j := 41) hj
  have e : (2 : Int) ^ 41 = 2199023255552 := by decide
  omega
theorem inc_at (a N : Int) (h0 : 0 ≤ a) (h1 : a < N) (h2 : N ≤ 4398046511104) : wrap64 (a + 1) = a + 1 ∧ 0 ≤ a + 1 ∧ a + 1 < 9223372036854775808 := by
  unfold wrap64
  omega
theorem nxt (t : List Int) (j : Nat) (hj : j ≤ 41) (ht : (t.length : Int) = 2 * 2 ^ j) (h : Int) (i : Nat) :
    Go.bits .and .i64 (wrap64 ((h + (i : Int)) % (t.length : Int) + 1)) (wrap64 ((t.length : Int) - 1)) = (h + ((i + 1 : Nat) : Int)) % (t.length : Int) := by
  have hN := len_bd t j hj ht
  have b := emod_bd (t.length : Int) (h + i) hN.1
  obtain ⟨e1, e2, e3⟩ := inc_at _ _ b.1 b.2 hN.2
  have e9 : h + (i : Int) + 1 = h + ((i + 1 : Nat) : Int) := by omega
  rw [e1, ht, mask _ j hj (by rw [← ht]; exact e2) (by rw [← ht]; exact e3), ← ht, next_at _ _ hN.1, e9]
theorem hits_wrap (keys : List ByteArray) (v : Int) (h1 : v > 0) (h2 : v ≤ (keys.length : Int)) (hk : (keys.length : Int) ≤ 9223372036854775807) : wrap64 (v - 1) = v - 1 ∧ 0 ≤ v - 1 ∧ v - 1 < (keys.length : Int) := by
  unfold wrap64
  omega
theorem find_loop (t : List Int) (keys : List ByteArray) (k : ByteArray) (j : Nat) (hj : j ≤ 41) (ht : (t.length : Int) = 2 * 2 ^ j) (hk : (keys.length : Int) ≤ 9223372036854775807) :
    ∀ d i, i + d = t.length → Ev (fun n => probe_Find.l0 n t keys k ((hsh k + (i : Int)) % (t.length : Int)) ((i : Int) + 1)) (look t keys k d i) := by
  have hN := len_bd t j hj ht
  intro d
  induction d with
  | zero =>
    intro i hi
    refine Ev.step (f := fun _ => some (-1, (t.length : Int))) (fun n => ?_) (Ev.now _)
    simp only [probe_Find.l0]
    rw [if_neg (by omega)]
  | succ d ih =>
    intro i hi
    have hi1 : (i : Int) + 1 ≤ (t.length : Int) := by omega
    have e3 : wrap64 ((i : Int) + 1 + 1) = ((i + 1 : Nat) : Int) + 1 := by unfold wrap64; omega
    have b := emod_bd (t.length : Int) (hsh k + i) hN.1
    have go : Ev (fun n => probe_Find.l0 n t keys k (Go.bits .and .i64 (wrap64 ((hsh k + (i : Int)) % (t.length : Int) + 1)) (wrap64 ((t.length : Int) - 1))) (wrap64 ((i : Int) + 1 + 1))) (look t keys k d (i + 1)) := by
      rw [nxt t j hj ht, e3]
      exact ih (i + 1) (by omega)
    have es : rd t ((hsh k + (i : Int)) % (t.length : Int)) = slot t (hsh k) i := rfl
    clear ih hi
    unfold look
    by_cases c0 : slot t (hsh k) i = 0
    · rw [if_pos c0]
      refine Ev.step (f := fun _ => some (-1, (i : Int) + 1)) (fun n => ?_) (Ev.now _)
      simp only [probe_Find.l0]
      rw [if_pos hi1, if_pos b.1, if_pos b.2, es, if_pos c0]
    · rw [if_neg c0]
      by_cases c1 : hits keys k (slot t (hsh k) i)
      · rw [if_pos c1]
        obtain ⟨h1, h2, h3⟩ := c1
        obtain ⟨ew, e4, e5⟩ := hits_wrap keys _ h1 h2 hk
        refine Ev.step (f := fun _ => some (slot t (hsh k) i - 1, (i : Int) + 1)) (fun n => ?_) (Ev.now _)
        simp only [probe_Find.l0]
        rw [if_pos hi1, if_pos b.1, if_pos b.2, es, if_neg c0, if_pos h1, if_pos h2, ew, if_pos e4, if_pos e5, if_pos h3]
      · rw [if_neg c1]
        refine Ev.step (fun n => ?_) go
        simp only [probe_Find.l0]
        rw [if_pos hi1, if_pos b.1, if_pos b.2, es, if_neg c0]
        by_cases h1 : slot t (hsh k) i > 0
        · rw [if_pos h1]
          by_cases h2 : slot t (hsh k) i ≤ (keys.length : Int)
          · obtain ⟨ew, e4, e5⟩ := hits_wrap keys _ h1 h2 hk
            rw [if_pos h2, ew, if_pos e4, if_pos e5, if_neg (fun h3 => c1 ⟨h1, h2, h3⟩)]
          · rw [if_neg h2]
        · rw [if_neg h1]
theorem ev_find (t : List Int) (keys : List ByteArray) (k : ByteArray) (j : Nat) (hj : j ≤ 41) (hl : Least (keys.length : Int) j) (hz : k.size ≤ 140737488351232) (hk : (keys.length : Int) ≤ 9223372036854775807) :
    Ev (fun n => probe_Find.f n t keys k) (if (t.length : Int) = 2 * 2 ^ j then look t keys k t.length 0 else (-1, 0)) := by
  unfold probe_Find.f
  refine Ev.bind (psize _ j hj hl) ?_
  by_cases c : (t.length : Int) = 2 * 2 ^ j
  · simp only [if_pos c]
    have f := find_loop t keys k j hj c hk t.length 0 (by omega)
    rw [c] at f
    have g := Ev.bind (ev_first k hz j hj) (f := fun n a => probe_Find.l0 n t keys k a 1) (by simpa using f)
    rw [← c] at g
    exact g
  · simp only [if_neg c]
    exact Ev.now _
/-! making a table -/
def nz (t : List Int) : Nat := t.countP (· ≠ 0)
theorem rd_nat (t : List Int) (i : Nat) : rd t (i : Int) = t.getD i 0 := by simp [rd]
theorem rd_of (t : List Int) (a : Int) (h0 : 0 ≤ a) (h1 : a < (t.length : Int)) : ∃ h : a.toNat < t.length, rd t a = t[a.toNat] := by
  have h : a.toNat < t.length := by omega
  refine ⟨h, ?_⟩
  unfold rd
  rw [List.getD_eq_getElem?_getD, List.getElem?_eq_getElem h]
  rfl
theorem rd_set (t : List Int) (a b v : Int) (h0 : 0 ≤ a) (h1 : a < (t.length : Int)) (h2 : 0 ≤ b) : rd (t.set a.toNat v) b = if a = b then v else rd t b := by
  unfold rd
  rw [List.getD_eq_getElem?_getD, List.getD_eq_getElem?_getD, List.getElem?_set]
  by_cases c : a = b
  · subst c
    rw [if_pos rfl, if_pos (by omega), if_pos rfl]
    rfl
  · rw [if_neg (by omega), if_neg c]
theorem nz_set (t : List Int) (a v : Int) (h0 : 0 ≤ a) (h1 : a < (t.length : Int)) (hz : rd t a = 0) (hv : v ≠ 0) : nz (t.set a.toNat v) = nz t + 1 := by
  obtain ⟨h, e⟩ := rd_of t a h0 h1
  rw [e] at hz
  unfold nz
  rw [List.countP_set h, hz]
  simp [hv]
theorem all_full (t : List Int) (h : ∀ a : Int, 0 ≤ a → a < (t.length : Int) → rd t a ≠ 0) : nz t = t.length := by
  unfold nz
  rw [List.countP_eq_length]
  intro x hx
  obtain ⟨i, hi, rfl⟩ := List.mem_iff_getElem.1 hx
  have := h (i : Int) (by omega) (by omega)
  rw [rd_nat, List.getD_eq_getElem?_getD, List.getElem?_eq_getElem hi] at this
  simpa using this
theorem least_of (p : Nat → Prop) (n : Nat) : p n → ∃ m, m ≤ n ∧ p m ∧ ∀ i, i < m → ¬ p i := by
  induction n using Nat.strongRecOn with
  | ind n ih =>
    intro h
    by_cases c : ∃ i, i < n ∧ p i
    · obtain ⟨i, hi, hp⟩ := c
      obtain ⟨m, hm, h1, h2⟩ := ih i hi hp
      exact ⟨m, by omega, h1, h2⟩
    · exact ⟨n, Nat.le_refl _, h, fun i hi hp => c ⟨i, hi, hp⟩⟩
theorem slot_at (t : List Int) (h a : Int) (h0 : 0 ≤ a) (h1 : a < (t.length : Int)) : ∃ i : Nat, i < t.length ∧ (h + (i : Int)) % (t.length : Int) = a := by
  have b := emod_bd (t.length : Int) (a - h) (by omega)
  refine ⟨((a - h) % (t.length : Int)).toNat, by omega, ?_⟩
  have e : ((((a - h) % (t.length : Int)).toNat : Nat) : Int) = (a - h) % (t.length : Int) := by omega
  rw [e, Int.add_emod, Int.emod_emod_of_dvd _ (Int.dvd_refl _), ← Int.add_emod]
  have e2 : h + (a - h) = a := by omega
  rw [e2]
  exact Int.emod_eq_of_lt h0 h1
theorem free_slot (t : List Int) (h : Int) (hz : nz t < t.length) : ∃ q, q < t.length ∧ slot t h q = 0 ∧ ∀ p, p < q → slot t h p ≠ 0 := by
  have c : ∃ a : Int, 0 ≤ a ∧ a < (t.length : Int) ∧ rd t a = 0 := by
    apply Classical.byContradiction
    intro n
    have := all_full t (fun a h0 h1 e => n ⟨a, h0, h1, e⟩)
    omega
  obtain ⟨a, h0, h1, e⟩ := c
  obtain ⟨i, hi, ei⟩ := slot_at t h a h0 h1
  obtain ⟨m, hm, h2, h3⟩ := least_of (fun i => slot t h i = 0) i (by unfold slot; rw [ei]; exact e)
  exact ⟨m, by omega, h2, h3⟩
theorem emod_inj (N h : Int) (p q : Nat) (hp : (p : Int) < N) (hq : (q : Int) < N) (e : (h + (p : Int)) % N = (h + (q : Int)) % N) : p = q := by
  have d := Int.dvd_of_emod_eq_zero (Int.emod_eq_emod_iff_emod_sub_eq_zero.1 e)
  have e2 : h + (p : Int) - (h + (q : Int)) = (p : Int) - (q : Int) := by omega
  rw [e2] at d
  rcases Nat.lt_trichotomy p q with c | c | c
  · have := Int.le_of_dvd (by omega) (Int.dvd_neg.2 d); omega
  · exact c
  · have := Int.le_of_dvd (by omega) d; omega
/-- what a table is when so many keys are in it -/
structure Inv (keys : List ByteArray) (i : Nat) (t : List Int) : Prop where
  full : nz t = i
  low : ∀ a : Int, 0 ≤ a → a < (t.length : Int) → 0 ≤ rd t a ∧ rd t a ≤ (i : Int)
  has : ∀ m : Nat, m < i → ∃ q, q < t.length ∧ slot t (hsh (rdOf ByteArray.empty keys m)) q = (m : Int) + 1 ∧ ∀ p, p < q → 1 ≤ slot t (hsh (rdOf ByteArray.empty keys m)) p ∧ slot t (hsh (rdOf ByteArray.empty keys m)) p ≤ (m : Int)
theorem rd_rep (n : Nat) (a : Int) : rd (List.replicate n 0) a = 0 := by
  unfold rd
  rw [List.getD_eq_getElem?_getD, List.getElem?_replicate]
  split <;> rfl
theorem inv_nil (keys : List ByteArray) (n : Nat) : Inv keys 0 (List.replicate n 0) := by
  refine ⟨?_, fun a _ _ => ?_, fun m hm => by omega⟩
  · unfold nz
    rw [List.countP_replicate]
    simp
  · rw [rd_rep]; omega
theorem inv_step (keys : List ByteArray) (i q : Nat) (t : List Int) (I : Inv keys i t) (hq : q < t.length) (h0 : slot t (hsh (rdOf ByteArray.empty keys i)) q = 0) (h1 : ∀ p, p < q → slot t (hsh (rdOf ByteArray.empty keys i)) p ≠ 0) :
    Inv keys (i + 1) (t.set ((hsh (rdOf ByteArray.empty keys i) + (q : Int)) % (t.length : Int)).toNat ((i : Int) + 1)) := by
  have hN : 0 < (t.length : Int) := by omega
  have b := emod_bd (t.length : Int) (hsh (rdOf ByteArray.empty keys i) + (q : Int)) hN
  have za : rd t ((hsh (rdOf ByteArray.empty keys i) + (q : Int)) % (t.length : Int)) = 0 := h0
  have same : ∀ (g : Int) (p : Nat), slot t g p ≠ 0 → slot (t.set ((hsh (rdOf ByteArray.empty keys i) + (q : Int)) % (t.length : Int)).toNat ((i : Int) + 1)) g p = slot t g p := by
    intro g p hp
    unfold slot
    rw [List.length_set, rd_set t _ _ _ b.1 b.2 (emod_bd _ _ hN).1]
    rw [if_neg]
    intro e
    apply hp
    unfold slot
    rw [← e]
    exact za
  refine ⟨?_, ?_, ?_⟩
  · rw [nz_set t _ _ b.1 b.2 za (by omega), I.full]
  · intro a ha0 ha1
    rw [List.length_set] at ha1
    rw [rd_set t _ _ _ b.1 b.2 ha0]
    have := I.low a ha0 ha1
    split <;> omega
  · intro m hm
    rw [List.length_set]
    by_cases c : m = i
    · subst c
      refine ⟨q, hq, ?_, ?_⟩
      · unfold slot
        rw [List.length_set, rd_set t _ _ _ b.1 b.2 b.1, if_pos rfl]
      · intro p hp
        have hz := h1 p hp
        rw [same _ p hz]
        have := I.low ((hsh (rdOf ByteArray.empty keys m) + (p : Int)) % (t.length : Int)) (emod_bd _ _ hN).1 (emod_bd _ _ hN).2
        unfold slot at hz ⊢
        omega
    · obtain ⟨q', hq', e1, e2⟩ := I.has m (by omega)
      refine ⟨q', hq', ?_, ?_⟩
      · rw [same _ q' (by omega)]; exact e1
      · intro p hp
        have := e2 p hp
        rw [same _ p (by omega)]
        exact this
theorem build_step (keys : List ByteArray) (i q j : Nat) (t T : List Int) (hj : j ≤ 41) (ht : (t.length : Int) = 2 * 2 ^ j) (hi : i < keys.length) (hlen : (keys.length : Int) ≤ 9223372036854775807) (hz : (rdOf ByteArray.empty keys (i : Int)).size ≤ 140737488351232)
    (hq : q < t.length) (h0 : slot t (hsh (rdOf ByteArray.empty keys i)) q = 0) (h1 : ∀ p, p < q → slot t (hsh (rdOf ByteArray.empty keys i)) p ≠ 0)
    (K : Ev (fun n => probe_Build.l0 n (t.set ((hsh (rdOf ByteArray.empty keys i) + (q : Int)) % (t.length : Int)).toNat ((i : Int) + 1)) keys (keys.length : Int) ((i : Int) + 1)) T) :
    Ev (fun n => probe_Build.l0 n t keys (keys.length : Int) (i : Int)) T := by
  have p := pow_pos' j
  have p41 := pow_mono' (i := j) (j := 41) hj
  have hN : 0 < (t.length : Int) := by omega
  have inner : ∀ d s, s + d = q → Ev (fun n => probe_Build.l1 n t (i : Int) ((hsh (rdOf ByteArray.empty keys i) + (s : Int)) % (t.length : Int)) keys (keys.length : Int) (i : Int)) T := by
    intro d
    induction d with
    | zero =>
      intro s hs
      obtain rfl : s = q := by omega
      have b := emod_bd (t.length : Int) (hsh (rdOf ByteArray.empty keys i) + (s : Int)) hN
      refine Ev.step (fun n => ?_) K
      simp only [probe_Build.l1]
      have e1 : wrap64 ((i : Int) + 1) = (i : Int) + 1 := by unfold wrap64; omega
      have ez : rd t ((hsh (rdOf ByteArray.empty keys i) + (s : Int)) % (t.length : Int)) = 0 := h0
      rw [if_pos b.1, if_pos b.2, if_pos ez, e1]
    | succ d ih =>
      intro s hs
      have b := emod_bd (t.length : Int) (hsh (rdOf ByteArray.empty keys i) + (s : Int)) hN
      refine Ev.step (fun n => ?_) (ih (s + 1) (by omega))
      simp only [probe_Build.l1]
      have ez : ¬ rd t ((hsh (rdOf ByteArray.empty keys i) + (s : Int)) % (t.length : Int)) = 0 := h1 s (by omega)
      rw [if_pos b.1, if_pos b.2, if_neg ez, nxt t j hj ht]
  have st : Ev (fun n => (probe_first.f n (t.length : Int) (rdOf ByteArray.empty keys (i : Int))).bind fun a => probe_Build.l1 n t (i : Int) a keys (keys.length : Int) (i : Int)) T := by
    rw [ht]
    refine Ev.bind (ev_first _ hz j hj) ?_
    have := inner q 0 (by omega)
    rw [ht] at this
    simpa using this
  refine Ev.step (fun n => ?_) st
  simp only [probe_Build.l0]
  rw [if_pos (by omega), if_pos (by omega), if_pos (by omega)]
theorem build_loop (keys : List ByteArray) (j : Nat) (hj : j ≤ 41) (hl : Least (keys.length : Int) j) (hlen : (keys.length : Int) ≤ 9223372036854775807) (hz : ∀ i : Nat, i < keys.length → (rdOf ByteArray.empty keys (i : Int)).size ≤ 140737488351232) :
    ∀ d i t, i + d = keys.length → (t.length : Int) = 2 * 2 ^ j → Inv keys i t → ∃ T, Ev (fun n => probe_Build.l0 n t keys (keys.length : Int) (i : Int)) T ∧ (T.length : Int) = 2 * 2 ^ j ∧ Inv keys keys.length T := by
  have p := pow_pos' j
  have h1 := hl.1
  intro d
  induction d with
  | zero =>
    intro i t hi ht I
    obtain rfl : i = keys.length := by omega
    refine ⟨t, Ev.step (f := fun _ => some t) (fun n => ?_) (Ev.now _), ht, I⟩
    simp only [probe_Build.l0]
    rw [if_neg (by omega)]
  | succ d ih =>
    intro i t hi ht I
    obtain ⟨q, hq, e0, e1⟩ := free_slot t (hsh (rdOf ByteArray.empty keys i)) (by rw [I.full]; omega)
    obtain ⟨T, hT, h2, h3⟩ := ih (i + 1) _ (by omega) (by rw [List.length_set]; exact ht) (inv_step keys i q t I hq e0 e1)
    exact ⟨T, build_step keys i q j t T hj ht (by omega) hlen (hz i (by omega)) hq e0 e1 hT, h2, h3⟩
theorem ev_build (keys : List ByteArray) (j : Nat) (hj : j ≤ 41) (hl : Least (keys.length : Int) j) (hlen : (keys.length : Int) ≤ 9223372036854775807) (hz : ∀ i : Nat, i < keys.length → (rdOf ByteArray.empty keys (i : Int)).size ≤ 140737488351232) :
    ∃ T, Ev (fun n => probe_Build.f n keys) T ∧ (T.length : Int) = 2 * 2 ^ j ∧ Inv keys keys.length T := by
  have p := pow_pos' j
  have p41 := pow_mono' (i := j) (j := 41) hj
  have en : (((2 : Int) * 2 ^ j).toNat : Int) = 2 * 2 ^ j := by omega
  obtain ⟨T, hT, h2, h3⟩ := build_loop keys j hj hl hlen hz keys.length 0 (List.replicate ((2 : Int) * 2 ^ j).toNat 0) (by omega) (by rw [List.length_replicate]; exact en) (inv_nil keys _)
  refine ⟨T, ?_, h2, h3⟩
  unfold probe_Build.f
  refine Ev.bind (psize _ j hj hl) ?_
  have c1 : (0 : Int) ≤ 2 * 2 ^ j := by omega
  have c2 : ((2 : Int) * 2 ^ j).toNat ≤ 35184372088832 := by
    have e : (2 : Int) ^ 41 = 2199023255552 := by decide
    omega
  simp only [if_pos c1, if_pos c2]
  exact hT
/-! what a look tells -/
theorem look_hit (t : List Int) (keys : List ByteArray) (k : ByteArray) (q : Nat) (h0 : slot t (hsh k) q ≠ 0) (h1 : hits keys k (slot t (hsh k) q)) (h2 : ∀ p, p < q → slot t (hsh k) p ≠ 0 ∧ ¬ hits keys k (slot t (hsh k) p)) :
    ∀ d i, i ≤ q → q < i + d → look t keys k d i = (slot t (hsh k) q - 1, (q : Int) + 1)
  | 0, i, hi, hd => by omega
  | d + 1, i, hi, hd => by
    unfold look
    by_cases c : i = q
    · subst c
      rw [if_neg h0, if_pos h1]
    · have := h2 i (by omega)
      rw [if_neg this.1, if_neg this.2, look_hit t keys k q h0 h1 h2 d (i + 1) (by omega) (by omega)]
theorem look_miss (t : List Int) (keys : List ByteArray) (k : ByteArray) (q : Nat) (h0 : slot t (hsh k) q = 0) (h2 : ∀ p, p < q → slot t (hsh k) p ≠ 0 ∧ ¬ hits keys k (slot t (hsh k) p)) :
    ∀ d i, i ≤ q → q < i + d → look t keys k d i = (-1, (q : Int) + 1)
  | 0, i, hi, hd => by omega
  | d + 1, i, hi, hd => by
    unfold look
    by_cases c : i = q
    · subst c
      rw [if_pos h0]
    · have := h2 i (by omega)
      rw [if_neg this.1, if_neg this.2, look_miss t keys k q h0 h2 d (i + 1) (by omega) (by omega)]
theorem toList_inj {a b : ByteArray} (h : a.toList = b.toList) : a = b := by
  rw [Lib.toList_data, Lib.toList_data] at h
  have h2 : a.data = b.data := Array.toList_inj.1 h
  cases a
  cases b
  simp only at h2
  rw [h2]
/-- the answer that is right -/
def Found (keys : List ByteArray) (k : ByteArray) (at_ : Int) : Prop :=
  (∃ m : Nat, m < keys.length ∧ at_ = (m : Int) ∧ (rdOf ByteArray.empty keys (m : Int)).toList = k.toList ∧ ∀ i : Nat, i < m → (rdOf ByteArray.empty keys (i : Int)).toList ≠ k.toList) ∨
  (at_ = -1 ∧ ∀ i : Nat, i < keys.length → (rdOf ByteArray.empty keys (i : Int)).toList ≠ k.toList)
theorem look_right (keys : List ByteArray) (k : ByteArray) (T : List Int) (I : Inv keys keys.length T) (hl : keys.length < T.length) :
    ∃ (at_ : Int) (q : Nat), look T keys k T.length 0 = (at_, (q : Int) + 1) ∧ q < T.length ∧ Found keys k at_ ∧ ∀ p, p < q → slot T (hsh k) p ≠ 0 := by
  by_cases c : ∃ m : Nat, m < keys.length ∧ (rdOf ByteArray.empty keys (m : Int)).toList = k.toList
  · obtain ⟨m', hm'⟩ := c
    obtain ⟨m, hmm, hm, hmin⟩ := least_of (fun m : Nat => m < keys.length ∧ (rdOf ByteArray.empty keys (m : Int)).toList = k.toList) m' hm'
    obtain ⟨q, hq, e1, e2⟩ := I.has m hm.1
    have ek : rdOf ByteArray.empty keys (m : Int) = k := toList_inj hm.2
    rw [ek] at e1 e2
    have hh : hits keys k (slot T (hsh k) q) := by
      rw [e1]
      refine ⟨by omega, by omega, ?_⟩
      have e3 : (m : Int) + 1 - 1 = (m : Int) := by omega
      rw [e3]
      exact hm.2
    have hb : ∀ p, p < q → slot T (hsh k) p ≠ 0 ∧ ¬ hits keys k (slot T (hsh k) p) := by
      intro p hp
      have b := e2 p hp
      refine ⟨by omega, fun ⟨h1, h2, h3⟩ => ?_⟩
      obtain ⟨r, hr⟩ := Int.eq_ofNat_of_zero_le (a := slot T (hsh k) p - 1) (by omega)
      rw [hr] at h3
      exact hmin r (by omega) ⟨by omega, h3⟩
    refine ⟨(m : Int), q, ?_, hq, Or.inl ⟨m, hm.1, rfl, hm.2, fun i hi e => hmin i hi ⟨by omega, e⟩⟩, fun p hp => (hb p hp).1⟩
    rw [look_hit T keys k q (by omega) hh hb T.length 0 (by omega) (by omega), e1]
    congr 1
    omega
  · obtain ⟨q, hq, e0, e1⟩ := free_slot T (hsh k) (by rw [I.full]; exact hl)
    have hb : ∀ p, p < q → slot T (hsh k) p ≠ 0 ∧ ¬ hits keys k (slot T (hsh k) p) := by
      intro p hp
      refine ⟨e1 p hp, fun ⟨h1, h2, h3⟩ => ?_⟩
      obtain ⟨r, hr⟩ := Int.eq_ofNat_of_zero_le (a := slot T (hsh k) p - 1) (by omega)
      rw [hr] at h3
      exact c ⟨r, by omega, h3⟩
    refine ⟨-1, q, look_miss T keys k q e0 hb T.length 0 (by omega) (by omega), hq, Or.inr ⟨rfl, fun i hi e => c ⟨i, hi, e⟩⟩, e1⟩
theorem ev_awake : Ev (fun n => rundlelaw06_awake.f n) true := by
  obtain ⟨T, hT, hl, I⟩ := ev_build [] 0 (by omega) ⟨by decide, Or.inl rfl⟩ (by decide) (fun i hi => by simp at hi)
  have hl2 : (T.length : Int) = 2 := by rw [hl]; rfl
  have h2 : T.length = 2 := by omega
  have z : ∀ a : Int, 0 ≤ a → a < 2 → rd T a = 0 := fun a h0 h1 => by
    have := I.low a h0 (by omega)
    simp at this
    omega
  have F := ev_find T [] (⟨#[97]⟩ : ByteArray) 0 (by omega) ⟨by decide, Or.inl rfl⟩ (by decide) (by decide)
  rw [if_pos hl, h2] at F
  have L : look T [] (⟨#[97]⟩ : ByteArray) 2 0 = (-1, 1) := by
    have b := emod_bd 2 (hsh (⟨#[97]⟩ : ByteArray) + ((0 : Nat) : Int)) (by decide)
    have e : slot T (hsh (⟨#[97]⟩ : ByteArray)) 0 = 0 := by
      unfold slot
      rw [hl2]
      exact z _ b.1 b.2
    exact look_miss T [] _ 0 e (fun p hp => by omega) 2 0 (by omega) (by omega)
  rw [L] at F
  unfold rundlelaw06_awake.f
  refine Ev.bind hT ?_
  refine Ev.bind F ?_
  simp only [hl2, z 0 (by decide) (by decide), z 1 (by decide) (by decide)]
  exact Ev.now _

/-! the guards -/
theorem few_loop (keys : List ByteArray) (hlen : (keys.length : Int) ≤ 9223372036854775807) : ∀ d i, i + d = keys.length → (Ev (fun n => rundlelaw06_Few.l0 n keys (i : Int)) 1 ∧ ∀ m : Nat, i ≤ m → m < keys.length → (rdOf ByteArray.empty keys (m : Int)).size ≤ 40) ∨ Ev (fun n => rundlelaw06_Few.l0 n keys (i : Int)) 0 := by
  intro d
  induction d with
  | zero =>
    intro i hi
    refine Or.inl ⟨Ev.step (f := fun _ => some 1) (fun n => ?_) (Ev.now _), fun m h1 h2 => by omega⟩
    simp only [rundlelaw06_Few.l0]
    rw [if_neg (by omega)]
  | succ d ih =>
    intro i hi
    have e1 : wrap64 ((i : Int) + 1) = ((i + 1 : Nat) : Int) := by unfold wrap64; omega
    by_cases c : ((rdOf ByteArray.empty keys (i : Int)).size : Int) > 40
    · refine Or.inr (Ev.step (f := fun _ => some 0) (fun n => ?_) (Ev.now _))
      simp only [rundlelaw06_Few.l0]
      rw [if_pos (by omega), if_pos (by omega), if_pos c]
    · have st : ∀ r : Int, Ev (fun n => rundlelaw06_Few.l0 n keys ((i + 1 : Nat) : Int)) r → Ev (fun n => rundlelaw06_Few.l0 n keys (i : Int)) r := by
        intro r hr
        refine Ev.step (fun n => ?_) hr
        simp only [rundlelaw06_Few.l0]
        rw [if_pos (by omega), if_pos (by omega), if_neg c, e1]
      rcases ih (i + 1) (by omega) with ⟨h1, h2⟩ | h1
      · refine Or.inl ⟨st _ h1, fun m h3 h4 => ?_⟩
        by_cases e : m = i
        · subst e; omega
        · exact h2 m (by omega) h4
      · exact Or.inr (st _ h1)
theorem few (keys : List ByteArray) (hlen : (keys.length : Int) ≤ 9223372036854775807) :
    (Ev (fun n => rundlelaw06_Few.f n keys) 1 ∧ keys.length ≤ 130 ∧ ∀ m : Nat, m < keys.length → (rdOf ByteArray.empty keys (m : Int)).size ≤ 40) ∨ Ev (fun n => rundlelaw06_Few.f n keys) 0 := by
  unfold rundlelaw06_Few.f
  by_cases c : (keys.length : Int) > 130
  · refine Or.inr ?_
    simp only [if_pos c]
    exact Ev.now _
  · simp only [if_neg c]
    rcases few_loop keys hlen keys.length 0 (by omega) with ⟨h1, h2⟩ | h1
    · exact Or.inl ⟨h1, by omega, fun m hm => h2 m (by omega) hm⟩
    · exact Or.inr h1

theorem w64 (x : Int) (h0 : 0 ≤ x) (h1 : x < 18446744073709551616) : IntKind.u64.wrap x = x := by
  rw [IntKind.wrap_u64]; omega
theorem turn_eq (t : Int) (s : Nat) (hs : 0 < s) (hs2 : s < 4294967296) (h0 : 0 ≤ t) (h1 : t < 4294967296) : rundleref05_turn.f t (s : Int) = some ((xs t.toNat s : Nat) : Int) := by
  unfold rundleref05_turn.f
  obtain ⟨n, rfl⟩ := Int.eq_ofNat_of_zero_le h0
  have hn : n < 4294967296 := by omega
  have hd : n / s ≤ n := Nat.div_le_self n s
  have e1 : Int.tdiv (n : Int) (s : Int) = ((n / s : Nat) : Int) := by rw [Int.tdiv_eq_ediv_of_nonneg (by omega)]; simp
  have hq : n / s < 4294967296 := by omega
  have en : ((n : Int)).toNat = n := rfl
  unfold xs
  rw [en]
  rw [if_neg (by omega), e1]
  generalize n / s = q at *
  have e2 : IntKind.u64.wrap (q : Int) = (q : Int) := w64 _ (by omega) (by omega)
  rw [e2, u64_xor_nat n q (by omega) (by omega)]
theorem ref_step (x b : Int) (h0 : 0 ≤ x) (h1 : x < 4294967296) (hb : 0 ≤ b ∧ b < 256) :
    rundleref05_turn.f (Int.tmod (IntKind.u64.wrap ((Int.tmod (IntKind.u64.wrap (x + (IntKind.u64.wrap b))) 4294967296) * 1025)) 4294967296) 64 = some (hs x b) := by
  rw [w64 b hb.1 (by omega), w64 (x + b) (by omega) (by omega), Int.tmod_eq_emod_of_nonneg (by omega : 0 ≤ x + b), w64 _ (by omega) (by omega), Int.tmod_eq_emod_of_nonneg (by omega)]
  have := turn_eq (m10 (y32 x b)) 64 (by decide) (by decide) (by unfold m10; omega) (by unfold m10; omega)
  exact this
theorem ref_loop (s : ByteArray) (hz : s.size ≤ 140737488351232) : ∀ (d k : Nat) (x : Int) (i : Nat), i + d = s.size → d < k → 0 ≤ x → x < 4294967296 →
    rundleref05_Add.l0 k s x (i : Int) = some (hadd x ((bytes s).drop i)) := by
  intro d
  induction d with
  | zero =>
    intro k x i hi hk h0 h1
    obtain ⟨k, rfl⟩ : ∃ m, k = m + 1 := ⟨k - 1, by omega⟩
    simp only [rundleref05_Add.l0]
    rw [if_neg (by omega), List.drop_of_length_le (by rw [bytes_len]; omega)]
    congr 1
    show x % 4294967296 = x
    omega
  | succ d ih =>
    intro k x i hi hk h0 h1
    obtain ⟨k, rfl⟩ : ∃ m, k = m + 1 := ⟨k - 1, by omega⟩
    have hlt : i < s.size := by omega
    have hl : i < (bytes s).length := by rw [bytes_len]; exact hlt
    simp only [rundleref05_Add.l0]
    rw [if_pos (by omega), if_pos (by omega), bt_eq s i hlt]
    have hg : (bytes s).getD i 0 = (bytes s)[i] := by rw [List.getD_eq_getElem?_getD, List.getElem?_eq_getElem hl]; rfl
    have hb := bytes_bd s (bytes s)[i] (List.getElem_mem hl)
    rw [hg, ref_step x _ h0 h1 hb]
    simp only [Option.bind_some]
    have ew : wrap64 ((i : Int) + 1) = ((i + 1 : Nat) : Int) := by unfold wrap64; omega
    rw [ew, ih k _ (i + 1) (by omega) (by omega) (hs_bd _ _).1 (hs_bd _ _).2, List.drop_eq_getElem_cons hl]
    rfl
theorem ref_add (s : ByteArray) (hz : s.size ≤ 140737488351232) (k : Nat) (h : Int) (hk : s.size < k) (h0 : 0 ≤ h) (h1 : h < 4294967296) : rundleref05_Add.f k h s = some (hadd h (bytes s)) := by
  unfold rundleref05_Add.f
  rw [w64 h h0 (by omega)]
  have := ref_loop s hz s.size k h 0 (by omega) hk h0 h1
  simpa using this
theorem ref_end (h : Int) (h0 : 0 ≤ h) (h1 : h < 4294967296) : rundleref05_End.f h = some (he h) := by
  unfold rundleref05_End.f
  rw [w64 h h0 (by omega), w64 (h * 9) (by omega) (by omega), Int.tmod_eq_emod_of_nonneg (by omega)]
  have := turn_eq (m3 h) 2048 (by decide) (by decide) (by unfold m3; omega) (by unfold m3; omega)
  have t : rundleref05_turn.f (h * 9 % 4294967296) 2048 = some ((xs (m3 h).toNat 2048 : Nat) : Int) := this
  rw [t]
  simp only [Option.bind_some]
  have l := xs_lt (m3 h).toNat 2048 (by unfold m3; omega)
  congr 1
  unfold he m15
  generalize xs (m3 h).toNat 2048 = z at *
  rw [w64 _ (by omega) (by omega), Int.tmod_eq_emod_of_nonneg (by omega)]
  omega

theorem rsize_loop (n : Int) (j : Nat) (hj : j ≤ 41) (hl : Least n j) (hn : 0 ≤ n) : ∀ d i, i + d = j → Ev (fun k => rundleref06_Size.l0 k n (2 * 2 ^ i)) (2 * 2 ^ j) := by
  have h41 : (2 : Int) ^ 41 = 2199023255552 := by decide
  have p41 := pow_mono' (i := j) (j := 41) hj
  have h1 := hl.1
  have e2n : wrap64 (2 * n) = 2 * n := by unfold wrap64; omega
  intro d
  induction d with
  | zero =>
    intro i hi
    obtain rfl : i = j := by omega
    refine Ev.step (f := fun _ => some (2 * 2 ^ i)) (fun k => ?_) (Ev.now _)
    simp only [rundleref06_Size.l0]
    rw [e2n, if_neg (by omega)]
  | succ d ih =>
    intro i hi
    refine Ev.step (f := fun k => rundleref06_Size.l0 k n (2 * 2 ^ (i + 1))) (fun k => ?_) (ih (i + 1) (by omega))
    simp only [rundleref06_Size.l0]
    have p := pow_pos' i
    have q := pow_mono' (i := i) (j := j) (by omega)
    have h2 : (2 : Int) ^ i < n := by
      rcases hl.2 with e | e
      · omega
      · have := pow_mono' (i := i) (j := j - 1) (by omega); omega
    have e2 : wrap64 (2 * 2 ^ i * 2) = 2 * 2 ^ (i + 1) := by
      rw [pow_s]
      unfold wrap64
      omega
    rw [e2n, if_pos (by omega), e2]
theorem rsize (n : Int) (j : Nat) (hj : j ≤ 41) (hl : Least n j) (hn : 0 ≤ n) : Ev (fun k => rundleref06_Size.f k n) (2 * 2 ^ j) := rsize_loop n j hj hl hn j 0 (by omega)
theorem hadd_bd' (l : List Int) : ∀ h : Int, 0 ≤ h → h < 4294967296 → 0 ≤ hadd h l ∧ hadd h l < 4294967296 := by
  induction l with
  | nil => intro h h0 h1; exact ⟨h0, h1⟩
  | cons b l ih => intro h _ _; exact ih _ (hs_bd h b).1 (hs_bd h b).2
theorem ev_slot (k : ByteArray) (hz : k.size ≤ 140737488351232) (N i : Int) (hN : 0 < N) (hN2 : N ≤ 4398046511104) (h0 : 0 ≤ i) (h1 : i ≤ 4398046511104) : Ev (fun n => rundleref06_Slot.f n N k i) ((hsh k + i) % N) := by
  have b2 := hadd_bd' (bytes k) 0 (by omega) (by omega)
  have hb := hsh_bd k
  unfold rundleref06_Slot.f
  refine Ev.bind (a := hadd 0 (bytes k)) ⟨k.size + 1, fun n hn => ref_add k hz n 0 (by omega) (by omega) (by omega)⟩ ?_
  rw [ref_end _ b2.1 b2.2]
  simp only [Option.bind_some]
  rw [if_neg (by omega)]
  have ew : wrap64 (he (hadd 0 (bytes k))) = hsh k := by
    show wrap64 (hsh k) = hsh k
    unfold wrap64
    omega
  have b := emod_bd N (hsh k) hN
  rw [ew, Int.tmod_eq_emod_of_nonneg hb.1]
  have e1 : wrap64 (hsh k % N + i) = hsh k % N + i := by
    generalize hsh k % N = a at *
    unfold wrap64
    omega
  rw [e1, Int.tmod_eq_emod_of_nonneg (by omega)]
  have e2 : (hsh k % N + i) % N = (hsh k + i) % N := by
    rw [Int.add_emod, Int.emod_emod_of_dvd _ (Int.dvd_refl N), ← Int.add_emod]
  rw [e2]
  exact Ev.now _
theorem rfind_loop (t : List Int) (keys : List ByteArray) (k : ByteArray) (hz : k.size ≤ 140737488351232) (j : Nat) (hj : j ≤ 41) (ht : (t.length : Int) = 2 * 2 ^ j) (hk : (keys.length : Int) ≤ 9223372036854775807) :
    ∀ d i, i + d = t.length → Ev (fun n => rundleref06_Find.l0 n t keys k (i : Int)) (look t keys k d i) := by
  have hN := len_bd t j hj ht
  intro d
  induction d with
  | zero =>
    intro i hi
    refine Ev.step (f := fun _ => some (-1, (t.length : Int))) (fun n => ?_) (Ev.now _)
    simp only [rundleref06_Find.l0]
    rw [if_neg (by omega)]
  | succ d ih =>
    intro i hi
    have hi1 : (i : Int) < (t.length : Int) := by omega
    have e3 : wrap64 ((i : Int) + 1) = (i : Int) + 1 := by unfold wrap64; omega
    have e4 : (i : Int) + 1 = ((i + 1 : Nat) : Int) := by omega
    have b := emod_bd (t.length : Int) (hsh k + i) hN.1
    have sl := ev_slot k hz (t.length : Int) (i : Int) hN.1 hN.2 (by omega) (by omega)
    have go : Ev (fun n => rundleref06_Find.l0 n t keys k ((i : Int) + 1)) (look t keys k d (i + 1)) := by
      rw [e4]
      exact ih (i + 1) (by omega)
    have es : rd t ((hsh k + (i : Int)) % (t.length : Int)) = slot t (hsh k) i := rfl
    clear ih hi
    refine Ev.step (fun n => (by simp only [rundleref06_Find.l0]; rw [if_pos hi1])) ?_
    refine Ev.bind sl ?_
    simp only [if_pos b.1, if_pos b.2, es, e3]
    unfold look
    by_cases c0 : slot t (hsh k) i = 0
    · simp only [if_pos c0]
      exact Ev.now _
    · simp only [if_neg c0]
      by_cases c1 : hits keys k (slot t (hsh k) i)
      · rw [if_pos c1]
        obtain ⟨h1, h2, h3⟩ := c1
        obtain ⟨ew, e5, e6⟩ := hits_wrap keys _ h1 h2 hk
        have h1' : slot t (hsh k) i ≥ 1 := by omega
        simp only [if_pos h1', if_pos h2, ew, if_pos e5, if_pos e6, if_pos h3]
        exact Ev.now _
      · rw [if_neg c1]
        by_cases h1 : slot t (hsh k) i ≥ 1
        · simp only [if_pos h1]
          by_cases h2 : slot t (hsh k) i ≤ (keys.length : Int)
          · obtain ⟨ew, e5, e6⟩ := hits_wrap keys _ (by omega) h2 hk
            have h3 : ¬ (rdOf ByteArray.empty keys (slot t (hsh k) i - 1)).toList = k.toList := fun h3 => c1 ⟨by omega, h2, h3⟩
            simp only [if_pos h2, ew, if_pos e5, if_pos e6, if_neg h3]
            exact go
          · simp only [if_neg h2]
            exact go
        · simp only [if_neg h1]
          exact go
theorem ev_rfind (t : List Int) (keys : List ByteArray) (k : ByteArray) (j : Nat) (hj : j ≤ 41) (hl : Least (keys.length : Int) j) (hz : k.size ≤ 140737488351232) (hk : (keys.length : Int) ≤ 9223372036854775807) :
    Ev (fun n => rundleref06_Find.f n t keys k) (if (t.length : Int) = 2 * 2 ^ j then look t keys k t.length 0 else (-1, 0)) := by
  unfold rundleref06_Find.f
  refine Ev.bind (rsize _ j hj hl (by omega)) ?_
  by_cases c : (t.length : Int) = 2 * 2 ^ j
  · simp only [if_pos c]
    exact rfind_loop t keys k hz j hj c hk t.length 0 (by omega)
  · simp only [if_neg c]
    exact Ev.now _

theorem least41 (keys : List ByteArray) (h : keys.length ≤ 130) : ∃ j, j ≤ 41 ∧ Least (keys.length : Int) j :=
  least_some _ 41 (by have : (2 : Int) ^ 41 = 2199023255552 := by decide
                      omega)

theorem rbuild_step (keys : List ByteArray) (i q j : Nat) (t T : List Int) (hj : j ≤ 41) (ht : (t.length : Int) = 2 * 2 ^ j) (hi : i < keys.length) (hlen : (keys.length : Int) ≤ 9223372036854775807) (hz : (rdOf ByteArray.empty keys (i : Int)).size ≤ 140737488351232)
    (hq : q < t.length) (h0 : slot t (hsh (rdOf ByteArray.empty keys i)) q = 0) (h1 : ∀ p, p < q → slot t (hsh (rdOf ByteArray.empty keys i)) p ≠ 0)
    (K : Ev (fun n => rundleref06_Build.l0 n keys (t.length : Int) (t.set ((hsh (rdOf ByteArray.empty keys i) + (q : Int)) % (t.length : Int)).toNat ((i : Int) + 1)) ((i : Int) + 1)) T) :
    Ev (fun n => rundleref06_Build.l0 n keys (t.length : Int) t (i : Int)) T := by
  have hN := len_bd t j hj ht
  have hi0 : (0 : Int) ≤ (i : Int) := by omega
  have hi1 : (i : Int) < (keys.length : Int) := by omega
  have ei : wrap64 ((i : Int) + 1) = (i : Int) + 1 := by unfold wrap64; omega
  have inner : ∀ d s, s + d = q → Ev (fun n => rundleref06_Build.l1 n keys (t.length : Int) t (i : Int) (s : Int)) T := by
    intro d
    induction d with
    | zero =>
      intro s hs
      obtain rfl : s = q := by omega
      have b := emod_bd (t.length : Int) (hsh (rdOf ByteArray.empty keys i) + (s : Int)) hN.1
      have sl := ev_slot _ hz (t.length : Int) (s : Int) hN.1 hN.2 (by omega) (by omega)
      have ez : rd t ((hsh (rdOf ByteArray.empty keys i) + (s : Int)) % (t.length : Int)) = 0 := h0
      refine Ev.step (fun n => (by simp only [rundleref06_Build.l1]; rw [if_pos hi0, if_pos hi1])) ?_
      refine Ev.bind sl ?_
      simp only [if_pos b.1, if_pos b.2, if_pos ez]
      refine Ev.bind sl ?_
      simp only [if_pos b.1, if_pos b.2, ei]
      exact K
    | succ d ih =>
      intro s hs
      have b := emod_bd (t.length : Int) (hsh (rdOf ByteArray.empty keys i) + (s : Int)) hN.1
      have sl := ev_slot _ hz (t.length : Int) (s : Int) hN.1 hN.2 (by omega) (by omega)
      have ez : ¬ rd t ((hsh (rdOf ByteArray.empty keys i) + (s : Int)) % (t.length : Int)) = 0 := h1 s (by omega)
      have es : wrap64 ((s : Int) + 1) = ((s + 1 : Nat) : Int) := by unfold wrap64; omega
      refine Ev.step (fun n => (by simp only [rundleref06_Build.l1]; rw [if_pos hi0, if_pos hi1])) ?_
      refine Ev.bind sl ?_
      simp only [if_pos b.1, if_pos b.2, if_neg ez, es]
      exact ih (s + 1) (by omega)
  refine Ev.step (fun n => (by simp only [rundleref06_Build.l0]; rw [if_pos hi1])) ?_
  exact inner q 0 (by omega)
theorem both_loop (keys : List ByteArray) (j : Nat) (hj : j ≤ 41) (hl : Least (keys.length : Int) j) (hlen : (keys.length : Int) ≤ 9223372036854775807) (hz : ∀ i : Nat, i < keys.length → (rdOf ByteArray.empty keys (i : Int)).size ≤ 140737488351232) :
    ∀ d i t, i + d = keys.length → (t.length : Int) = 2 * 2 ^ j → Inv keys i t → ∃ T, Ev (fun n => probe_Build.l0 n t keys (keys.length : Int) (i : Int)) T ∧ Ev (fun n => rundleref06_Build.l0 n keys (2 * 2 ^ j) t (i : Int)) T ∧ (T.length : Int) = 2 * 2 ^ j ∧ Inv keys keys.length T := by
  have p := pow_pos' j
  have h1 := hl.1
  intro d
  induction d with
  | zero =>
    intro i t hi ht I
    obtain rfl : i = keys.length := by omega
    refine ⟨t, Ev.step (f := fun _ => some t) (fun n => ?_) (Ev.now _), Ev.step (f := fun _ => some t) (fun n => ?_) (Ev.now _), ht, I⟩
    · simp only [probe_Build.l0]
      rw [if_neg (by omega)]
    · simp only [rundleref06_Build.l0]
      rw [if_neg (by omega)]
  | succ d ih =>
    intro i t hi ht I
    obtain ⟨q, hq, e0, e1⟩ := free_slot t (hsh (rdOf ByteArray.empty keys i)) (by rw [I.full]; omega)
    obtain ⟨T, hT, hR, h2, h3⟩ := ih (i + 1) _ (by omega) (by rw [List.length_set]; exact ht) (inv_step keys i q t I hq e0 e1)
    refine ⟨T, build_step keys i q j t T hj ht (by omega) hlen (hz i (by omega)) hq e0 e1 hT, ?_, h2, h3⟩
    rw [← ht] at hR ⊢
    exact rbuild_step keys i q j t T hj ht (by omega) hlen (hz i (by omega)) hq e0 e1 hR
theorem both_build (keys : List ByteArray) (j : Nat) (hj : j ≤ 41) (hl : Least (keys.length : Int) j) (hlen : (keys.length : Int) ≤ 9223372036854775807) (hz : ∀ i : Nat, i < keys.length → (rdOf ByteArray.empty keys (i : Int)).size ≤ 140737488351232) :
    ∃ T, Ev (fun n => probe_Build.f n keys) T ∧ Ev (fun n => rundleref06_Build.f n keys) T ∧ (T.length : Int) = 2 * 2 ^ j ∧ Inv keys keys.length T := by
  have p := pow_pos' j
  have p41 := pow_mono' (i := j) (j := 41) hj
  have en : (((2 : Int) * 2 ^ j).toNat : Int) = 2 * 2 ^ j := by omega
  obtain ⟨T, hT, hR, h2, h3⟩ := both_loop keys j hj hl hlen hz keys.length 0 (List.replicate ((2 : Int) * 2 ^ j).toNat 0) (by omega) (by rw [List.length_replicate]; exact en) (inv_nil keys _)
  have c1 : (0 : Int) ≤ 2 * 2 ^ j := by omega
  have c2 : ((2 : Int) * 2 ^ j).toNat ≤ 35184372088832 := by
    have e : (2 : Int) ^ 41 = 2199023255552 := by decide
    omega
  refine ⟨T, ?_, ?_, h2, h3⟩
  · unfold probe_Build.f
    refine Ev.bind (psize _ j hj hl) ?_
    simp only [if_pos c1, if_pos c2]
    exact hT
  · unfold rundleref06_Build.f
    refine Ev.bind (rsize _ j hj hl (by omega)) ?_
    simp only [if_pos c1, if_pos c2]
    exact hR
theorem numbers_loop (t : List Int) (ht : (t.length : Int) < 9223372036854775807) : ∀ d i, i + d = t.length → Ev (fun n => rundlelaw06_Numbers.l0 n t t (i : Int)) 1 := by
  intro d
  induction d with
  | zero =>
    intro i hi
    refine Ev.step (f := fun _ => some 1) (fun n => ?_) (Ev.now _)
    simp only [rundlelaw06_Numbers.l0]
    rw [if_neg (by omega)]
  | succ d ih =>
    intro i hi
    refine Ev.step (fun n => ?_) (ih (i + 1) (by omega))
    have e : wrap64 ((i : Int) + 1) = ((i + 1 : Nat) : Int) := by unfold wrap64; omega
    simp only [rundlelaw06_Numbers.l0]
    rw [if_pos (by omega), if_pos (by omega), if_pos (by omega), if_pos trivial, e]
theorem yes (keys : List ByteArray) (k : ByteArray) : Ev (fun n => rundlelaw06_ProbePlays.j0 n keys k true) true :=
  Ev.step (fun n => (by simp only [rundlelaw06_ProbePlays.j0, if_true])) (Ev.bind ev_awake (Ev.now true))
theorem ProbePlays (keys : List ByteArray) (k : ByteArray) (hk : (keys.length : Int) ≤ 9223372036854775807) : ∃ n, rundlelaw06_ProbePlays.f n keys k = some true := by
  apply Ev.rounds
  unfold rundlelaw06_ProbePlays.f
  refine Ev.bind ev_awake ?_
  simp only [if_true]
  rcases few keys hk with ⟨f1, f2, f3⟩ | f1
  · refine Ev.bind f1 ?_
    simp only [Int.reduceEq, if_false]
    by_cases c1 : (k.size : Int) > 40
    · simp only [decide_eq_true c1]
      exact yes keys k
    · simp only [decide_eq_false c1]
      obtain ⟨j, hj, hl⟩ := least41 keys f2
      obtain ⟨T, hT, hR, h2, h3⟩ := both_build keys j hj hl hk (fun i hi => by have := f3 i hi; omega)
      have p := ev_find T keys k j hj hl (by omega) (by omega)
      have q := ev_rfind T keys k j hj hl (by omega) (by omega)
      have hN := len_bd T j hj h2
      have nm : Ev (fun n => rundlelaw06_Numbers.f n T T) 1 := by
        unfold rundlelaw06_Numbers.f
        simp only [if_true]
        exact numbers_loop T (by omega) T.length 0 (by omega)
      refine Ev.step (fun n => (by simp only [rundlelaw06_ProbePlays.j0, Bool.false_eq_true, if_false]; rfl)) ?_
      refine Ev.bind hT (Ev.bind p (Ev.bind hR (Ev.bind q (Ev.bind hR (Ev.bind nm ?_)))))
      simp only [if_true]
      refine Ev.bind (psize _ j hj hl) ?_
      rw [h2]
      simp only [beq_self_eq_true]
      exact Ev.now _
  · refine Ev.bind f1 ?_
    simp only [if_true]
    exact yes keys k

end Go.Proofs.Ytdmmpokfofcdgaa.Pure
