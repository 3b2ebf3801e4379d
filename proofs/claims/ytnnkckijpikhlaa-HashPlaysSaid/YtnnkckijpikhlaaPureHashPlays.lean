/- HashPlays: the word behind any text, from any word on, and its sum, are the document's; for all words and texts. -/
import Derived.Test.YtnnkckijpikhlaaPHashPlaysx1
import Derived.Laws.BitsAllLaws
import Derived.Laws.Bits64
import Derived.Laws.BitsAllLaws
namespace Go.Proofs.Ytnnkckijpikhlaa.Pure
open Go.RowKit Go.Proofs.Ytnnkckijpikhlaa.PHashPlays Go.Proofs.YtnnkckijpikhlaaW.PrintWords Go.Proofs.YtnnkckijpikhlaaW.PrintLast
set_option linter.unusedVariables false

/-- one byte more -/
def y32 (x b : Int) : Int := (x + b) % 4294967296
def m10 (y : Int) : Int := (y * 1025) % 4294967296
def xs (t s : Nat) : Nat := t ^^^ (t / s)
def hs (x b : Int) : Int := ((xs (m10 (y32 x b)).toNat 64 : Nat) : Int)
def bytes (s : ByteArray) : List Int := s.data.toList.map fun c => (c.toNat : Int)
def hadd (h : Int) (l : List Int) : Int := l.foldl hs h
theorem xs_lt (t s : Nat) (ht : t < 4294967296) : xs t s < 4294967296 := by
  have h : t / s ≤ t := Nat.div_le_self t s
  exact Nat.xor_lt_two_pow (n := 32) ht (by omega)
theorem hs_bd (x b : Int) : 0 ≤ hs x b ∧ hs x b < 4294967296 := by
  unfold hs
  have := xs_lt (m10 (y32 x b)).toNat 64 (by unfold m10; omega)
  omega
theorem xor32 (t : Int) (s : Nat) (h0 : 0 ≤ t) (h1 : t < 4294967296) : Go.bits .xor .u32 t (t / (s : Int)) = ((xs t.toNat s : Nat) : Int) := by
  obtain ⟨n, rfl⟩ := Int.eq_ofNat_of_zero_le h0
  have e : ((n : Int) / (s : Int)) = ((n / s : Nat) : Int) := by simp
  have hn : n < 4294967296 := by omega
  have hd : n / s ≤ n := Nat.div_le_self n s
  rw [e, u32_xor_nat n (n / s) hn (by omega)]
  rfl
theorem bt_eq (s : ByteArray) (i : Nat) (h : i < s.size) : bt s (i : Int) = (bytes s).getD i 0 := by
  have h2 : i < s.data.toList.length := by simpa using h
  unfold bt bytes
  rw [dif_pos (by simpa using h), List.getD_eq_getElem?_getD, List.getElem?_map, List.getElem?_eq_getElem h2]
  simp [ByteArray.getElem_eq_getElem_data]
theorem bytes_len (s : ByteArray) : (bytes s).length = s.size := by simp [bytes]
theorem bytes_bd (s : ByteArray) : ∀ b ∈ bytes s, 0 ≤ b ∧ b < 256 := by
  intro b hb
  unfold bytes at hb
  obtain ⟨c, _, rfl⟩ := List.mem_map.1 hb
  have := c.toNat_lt
  omega
theorem step_eq (x b : Int) (hb : 0 ≤ b ∧ b < 256) :
    Go.bits .xor .u32 ((((x + (b % 4294967296)) % 4294967296) + ((((x + (b % 4294967296)) % 4294967296) * 1024) % 4294967296)) % 4294967296) (((((x + (b % 4294967296)) % 4294967296) + ((((x + (b % 4294967296)) % 4294967296) * 1024) % 4294967296)) % 4294967296) / 64) = hs x b := by
  have e0 : b % 4294967296 = b := by omega
  rw [e0]
  have e : (((x + b) % 4294967296) + ((((x + b) % 4294967296) * 1024) % 4294967296)) % 4294967296 = m10 (y32 x b) := by
    unfold m10 y32; omega
  rw [e]
  exact xor32 _ 64 (by unfold m10; omega) (by unfold m10; omega)
theorem add_loop (s : ByteArray) (hz : s.size ≤ 140737488351232) : ∀ (d k : Nat) (x : Int) (i : Nat), i + d = s.size → d < k →
    hash_Add.l0 k x s (s.size : Int) (i : Int) = some (hadd x ((bytes s).drop i)) := by
  intro d
  induction d with
  | zero =>
    intro k x i hi hk
    obtain ⟨k, rfl⟩ : ∃ m, k = m + 1 := ⟨k - 1, by omega⟩
    simp only [hash_Add.l0]
    rw [if_neg (by omega), List.drop_of_length_le (by rw [bytes_len]; omega)]
    rfl
  | succ d ih =>
    intro k x i hi hk
    obtain ⟨k, rfl⟩ : ∃ m, k = m + 1 := ⟨k - 1, by omega⟩
    have hlt : i < s.size := by omega
    have hl : i < (bytes s).length := by rw [bytes_len]; exact hlt
    simp only [hash_Add.l0]
    rw [if_pos (by omega), if_pos (by omega), if_pos (by omega), bt_eq s i hlt]
    have hg : (bytes s).getD i 0 = (bytes s)[i] := by rw [List.getD_eq_getElem?_getD, List.getElem?_eq_getElem hl]; rfl
    have hb := bytes_bd s (bytes s)[i] (List.getElem_mem hl)
    rw [hg, step_eq x _ hb]
    have ew : wrap64 ((i : Int) + 1) = ((i + 1 : Nat) : Int) := by unfold wrap64; omega
    rw [ew, ih k _ (i + 1) (by omega) (by omega), List.drop_eq_getElem_cons hl]
    rfl
theorem add_eq (s : ByteArray) (hz : s.size ≤ 140737488351232) (k : Nat) (h : Int) (hk : s.size < k) : hash_Add.f k h s = some (hadd h (bytes s)) := by
  unfold hash_Add.f
  have := add_loop s hz s.size k h 0 (by omega) hk
  simpa using this
def m3 (h : Int) : Int := (h * 9) % 4294967296
def m15 (h : Int) : Int := (h * 32769) % 4294967296
def he (h : Int) : Int := m15 ((xs (m3 h).toNat 2048 : Nat) : Int)
theorem end_eq (h : Int) : hash_End.f h = some (he h) := by
  unfold hash_End.f
  have e : (h + ((h * 8) % 4294967296)) % 4294967296 = m3 h := by unfold m3; omega
  rw [e]
  have x := xor32 (m3 h) 2048 (by unfold m3; omega) (by unfold m3; omega)
  have x' : Go.bits .xor .u32 (m3 h) (m3 h / 2048) = ((xs (m3 h).toNat 2048 : Nat) : Int) := x
  rw [x']
  congr 1
  unfold he m15
  generalize ((xs (m3 h).toNat 2048 : Nat) : Int) = z
  omega
theorem of_eq (s : ByteArray) (hz : s.size ≤ 140737488351232) (k : Nat) (hk : s.size < k) : hash_Of.f k s = some (he (hadd 0 (bytes s))) := by
  unfold hash_Of.f
  rw [add_eq s hz k 0 hk]
  simp only [Option.bind_some, end_eq]
theorem awake_t (k : Nat) (hk : 2 ≤ k) : rundlelaw05_awake.f k = some true := by
  unfold rundlelaw05_awake.f
  rw [of_eq _ (by decide) k (by exact Nat.lt_of_lt_of_le (by decide) hk)]
  decide +kernel

theorem w64 (x : Int) (h0 : 0 ≤ x) (h1 : x < 18446744073709551616) : IntKind.u64.wrap x = x := by
  rw [IntKind.wrap_u64]; omega
theorem turn_eq (t : Int) (s : Nat) (hs : 0 < s) (hs2 : s < 4294967296) (h0 : 0 ≤ t) (h1 : t < 4294967296) : rundleref05_turn.f t (s : Int) = some ((xs t.toNat s : Nat) : Int) := by
  unfold rundleref05_turn.f
  obtain ⟨n, rfl⟩ := Int.eq_ofNat_of_zero_le h0
  have hn : n < 4294967296 := by omega
  have hd : n / s ≤ n := Nat.div_le_self n s
  have e1 : Int.tdiv (n : Int) (s : Int) = ((n / s : Nat) : Int) := by rw [Int.tdiv_eq_ediv_of_nonneg (by omega)]; simp
  have hq : n / s < 4294967296 := by omega
  have en : ((n : Int)).toNat = n := rfl
  unfold xs
  rw [en]
  rw [if_neg (by omega), e1]
  generalize n / s = q at *
  have e2 : IntKind.u64.wrap (q : Int) = (q : Int) := w64 _ (by omega) (by omega)
  rw [e2, u64_xor_nat n q (by omega) (by omega)]
theorem ref_step (x b : Int) (h0 : 0 ≤ x) (h1 : x < 4294967296) (hb : 0 ≤ b ∧ b < 256) :
    rundleref05_turn.f (Int.tmod (IntKind.u64.wrap ((Int.tmod (IntKind.u64.wrap (x + (IntKind.u64.wrap b))) 4294967296) * 1025)) 4294967296) 64 = some (hs x b) := by
  rw [w64 b hb.1 (by omega), w64 (x + b) (by omega) (by omega), Int.tmod_eq_emod_of_nonneg (by omega : 0 ≤ x + b), w64 _ (by omega) (by omega), Int.tmod_eq_emod_of_nonneg (by omega)]
  have := turn_eq (m10 (y32 x b)) 64 (by decide) (by decide) (by unfold m10; omega) (by unfold m10; omega)
  exact this
theorem ref_loop (s : ByteArray) (hz : s.size ≤ 140737488351232) : ∀ (d k : Nat) (x : Int) (i : Nat), i + d = s.size → d < k → 0 ≤ x → x < 4294967296 →
    rundleref05_Add.l0 k s x (i : Int) = some (hadd x ((bytes s).drop i)) := by
  intro d
  induction d with
  | zero =>
    intro k x i hi hk h0 h1
    obtain ⟨k, rfl⟩ : ∃ m, k = m + 1 := ⟨k - 1, by omega⟩
    simp only [rundleref05_Add.l0]
    rw [if_neg (by omega), List.drop_of_length_le (by rw [bytes_len]; omega)]
    congr 1
    show x % 4294967296 = x
    omega
  | succ d ih =>
    intro k x i hi hk h0 h1
    obtain ⟨k, rfl⟩ : ∃ m, k = m + 1 := ⟨k - 1, by omega⟩
    have hlt : i < s.size := by omega
    have hl : i < (bytes s).length := by rw [bytes_len]; exact hlt
    simp only [rundleref05_Add.l0]
    rw [if_pos (by omega), if_pos (by omega), bt_eq s i hlt]
    have hg : (bytes s).getD i 0 = (bytes s)[i] := by rw [List.getD_eq_getElem?_getD, List.getElem?_eq_getElem hl]; rfl
    have hb := bytes_bd s (bytes s)[i] (List.getElem_mem hl)
    rw [hg, ref_step x _ h0 h1 hb]
    simp only [Option.bind_some]
    have ew : wrap64 ((i : Int) + 1) = ((i + 1 : Nat) : Int) := by unfold wrap64; omega
    rw [ew, ih k _ (i + 1) (by omega) (by omega) (hs_bd _ _).1 (hs_bd _ _).2, List.drop_eq_getElem_cons hl]
    rfl
theorem ref_add (s : ByteArray) (hz : s.size ≤ 140737488351232) (k : Nat) (h : Int) (hk : s.size < k) (h0 : 0 ≤ h) (h1 : h < 4294967296) : rundleref05_Add.f k h s = some (hadd h (bytes s)) := by
  unfold rundleref05_Add.f
  rw [w64 h h0 (by omega)]
  have := ref_loop s hz s.size k h 0 (by omega) hk h0 h1
  simpa using this
theorem ref_end (h : Int) (h0 : 0 ≤ h) (h1 : h < 4294967296) : rundleref05_End.f h = some (he h) := by
  unfold rundleref05_End.f
  rw [w64 h h0 (by omega), w64 (h * 9) (by omega) (by omega), Int.tmod_eq_emod_of_nonneg (by omega)]
  have := turn_eq (m3 h) 2048 (by decide) (by decide) (by unfold m3; omega) (by unfold m3; omega)
  have t : rundleref05_turn.f (h * 9 % 4294967296) 2048 = some ((xs (m3 h).toNat 2048 : Nat) : Int) := this
  rw [t]
  simp only [Option.bind_some]
  have l := xs_lt (m3 h).toNat 2048 (by unfold m3; omega)
  congr 1
  unfold he m15
  generalize xs (m3 h).toNat 2048 = z at *
  rw [w64 _ (by omega) (by omega), Int.tmod_eq_emod_of_nonneg (by omega)]
  omega
theorem hadd_bd' (l : List Int) : ∀ h : Int, 0 ≤ h → h < 4294967296 → 0 ≤ hadd h l ∧ hadd h l < 4294967296 := by
  induction l with
  | nil => intro h h0 h1; exact ⟨h0, h1⟩
  | cons b l ih => intro h _ _; exact ih _ (hs_bd h b).1 (hs_bd h b).2
theorem HashPlays : rundlelaw05_HashPlays.Pure := by
  intro h s hh hz
  have b : 0 ≤ h ∧ h ≤ 4294967295 := by simpa [Lit.wf, IntKind.min, IntKind.max, IntKind.signed, IntKind.bits] using hh
  refine ⟨s.size + 3, ?_⟩
  unfold rundlelaw05_HashPlays.f
  rw [awake_t _ (by omega)]
  simp only [Option.bind_some, if_true]
  show rundlelaw05_HashPlays.j0 ((s.size + 2) + 1) h s _ = some true
  simp only [rundlelaw05_HashPlays.j0]
  by_cases c : (s.size : Int) > 300
  · rw [if_pos (by simpa using c), awake_t _ (by omega)]
    rfl
  · rw [if_neg (by simpa using c), add_eq s hz _ h (by omega), ref_add s hz _ h (by omega) b.1 (by omega), of_eq s hz _ (by omega), ref_add s hz _ 0 (by omega) (by omega) (by omega)]
    have b2 := hadd_bd' (bytes s) 0 (by omega) (by omega)
    simp only [Option.bind_some, if_true, end_eq, ref_end h b.1 (by omega), ref_end _ b2.1 b2.2, beq_self_eq_true]

end Go.Proofs.Ytnnkckijpikhlaa.Pure
