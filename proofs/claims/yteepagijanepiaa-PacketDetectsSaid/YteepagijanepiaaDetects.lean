/- Proved is the statement of the law PacketDetects: for every input the law returns true, and each argument reads as it did. -/
import Derived.Test.YteepagijanepiaaRunQ
set_option linter.unusedVariables false
set_option linter.unusedSimpArgs false
/- Chapter 03: check numbers as words of 16 bits. -/
namespace Sp03
open Go Go.Abs

abbrev W := BitVec 16
def X : W := 0x8000#16
def shx (v : W) : W := (v <<< 1) ^^^ (bif v.msb then 0x1021#16 else 0#16)
def bx (b : Bool) : W := bif b then X else 0#16
def stepW (r : W) (b : Bool) : W := shx (r ^^^ bx b)
def crcW (bs : List Bool) : W := bs.foldl stepW 0xFFFF#16

theorem xlc (a b c : W) : a ^^^ (b ^^^ c) = b ^^^ (a ^^^ c) := by rw [← BitVec.xor_assoc, BitVec.xor_comm a, BitVec.xor_assoc]
theorem xcc (a b : W) : a ^^^ (b ^^^ a) = b := by rw [xlc, BitVec.xor_self, BitVec.xor_zero]
theorem shx_xor (a b : W) : shx (a ^^^ b) = shx a ^^^ shx b := by
  unfold shx
  rw [BitVec.shiftLeft_xor_distrib, BitVec.msb_xor]
  cases a.msb <;> cases b.msb
  · simp
  · simp [BitVec.xor_assoc]
  · simp only [Bool.true_xor, Bool.not_false, cond_true, cond_false, BitVec.xor_zero, BitVec.xor_assoc]
    rw [BitVec.xor_comm (b <<< 1)]
  · simp only [Bool.xor_self, cond_true, cond_false, BitVec.xor_zero, BitVec.xor_assoc, xcc]
theorem bx_xor (a b : Bool) : bx (a ^^ b) = bx a ^^^ bx b := by cases a <;> cases b <;> decide
theorem stepW_xor (r s : W) (a b : Bool) : stepW r a ^^^ stepW s b = stepW (r ^^^ s) (a ^^ b) := by
  unfold stepW
  rw [← shx_xor, bx_xor]
  congr 1
  simp only [BitVec.xor_assoc]
  rw [xlc (bx a) s]

theorem crcB_step (r : W) (b : Bool) : crcB r.toNat b = (stepW r b).toNat := by
  have hm : Nat.testBit r.toNat 15 = r.msb := by
    rw [BitVec.msb_eq_getLsbD_last]; rfl
  have h2 : 2 * r.toNat % 65536 = (r <<< 1).toNat := by
    rw [BitVec.toNat_shiftLeft, Nat.shiftLeft_eq, Nat.pow_one, Nat.mul_comm]
  have hX : ∀ v : W, (v ^^^ X) <<< 1 = v <<< 1 := fun v => by
    rw [BitVec.shiftLeft_xor_distrib]
    have : X <<< 1 = 0#16 := by decide
    rw [this, BitVec.xor_zero]
  have hXm : ∀ v : W, (v ^^^ X).msb = !v.msb := fun v => by
    rw [BitVec.msb_xor]
    have : X.msb = true := by decide
    rw [this]; cases v.msb <;> rfl
  unfold crcB stepW
  rw [hm, h2]
  cases b with
  | false =>
    have : bx false = 0#16 := rfl
    rw [this, BitVec.xor_zero]
    unfold shx
    cases r.msb with
    | false => simp
    | true =>
      show Nat.xor (r <<< 1).toNat 4129 = ((r <<< 1) ^^^ 0x1021#16).toNat
      rw [BitVec.toNat_xor]; rfl
  | true =>
    have : bx true = X := rfl
    rw [this]
    unfold shx
    rw [hX, hXm]
    cases r.msb with
    | true => simp
    | false =>
      show Nat.xor (r <<< 1).toNat 4129 = ((r <<< 1) ^^^ 0x1021#16).toNat
      rw [BitVec.toNat_xor]; rfl
theorem crc_word (bs : List Bool) : crc bs = (crcW bs).toNat := by
  unfold crc crcW
  suffices h : ∀ (bs : List Bool) (r : W), bs.foldl crcB r.toNat = (bs.foldl stepW r).toNat from h bs 0xFFFF#16
  intro bs
  induction bs with
  | nil => intro r; rfl
  | cons b l ih => intro r; simp only [List.foldl_cons]; rw [crcB_step, ih]

/-! One bit turned. -/
def tog (bs : List Bool) (p : Nat) : List Bool := bs.set p (!(bs.getD p false))
def iter : Nat → W → W
  | 0, v => v
  | n + 1, v => iter n (shx v)
theorem iter_xor (n : Nat) (a b : W) : iter n (a ^^^ b) = iter n a ^^^ iter n b := by
  induction n generalizing a b with
  | zero => rfl
  | succ n ih => simp only [iter, shx_xor, ih]
theorem shx_zero : shx 0#16 = 0#16 := by decide
theorem iter_zero (n : Nat) : iter n 0#16 = 0#16 := by
  induction n with
  | zero => rfl
  | succ n ih => simp only [iter, shx_zero, ih]
theorem iter_succ (n : Nat) (v : W) : iter (n + 1) v = shx (iter n v) := by
  induction n generalizing v with
  | zero => rfl
  | succ n ih => rw [iter, ih]; rfl
theorem iter_add (n m : Nat) (v : W) : iter (n + m) v = iter n (iter m v) := by
  induction m generalizing v with
  | zero => rfl
  | succ m ih => rw [Nat.add_succ, iter, ih]; rfl
theorem fold_diff (bs : List Bool) : ∀ (r s : W), bs.foldl stepW r ^^^ bs.foldl stepW s = iter bs.length (r ^^^ s) := by
  induction bs with
  | nil => intro r s; rfl
  | cons b l ih =>
    intro r s
    simp only [List.foldl_cons, List.length_cons, iter]
    rw [ih, stepW_xor]
    have : stepW (r ^^^ s) (b ^^ b) = shx (r ^^^ s) := by
      unfold stepW
      have : bx (b ^^ b) = 0#16 := by cases b <;> rfl
      rw [this, BitVec.xor_zero]
    rw [this]
theorem fold_tog : ∀ (bs : List Bool) (p : Nat) (r : W), p < bs.length → bs.foldl stepW r ^^^ (tog bs p).foldl stepW r = iter (bs.length - p) X := by
  intro bs
  induction bs with
  | nil => intro p r h; simp at h
  | cons b l ih =>
    intro p r h
    cases p with
    | zero =>
      have e : tog (b :: l) 0 = (!b) :: l := rfl
      rw [e]
      simp only [List.foldl_cons]
      rw [fold_diff, stepW_xor, BitVec.xor_self]
      have : stepW 0#16 (b ^^ !b) = shx X := by cases b <;> decide
      rw [this]
      rfl
    | succ p =>
      have e : tog (b :: l) (p + 1) = b :: tog l p := rfl
      rw [e]
      simp only [List.foldl_cons, List.length_cons]
      rw [ih p _ (by simpa using h)]
      congr 1; omega
theorem crcW_tog {bs : List Bool} {p : Nat} (h : p < bs.length) : crcW bs ^^^ crcW (tog bs p) = iter (bs.length - p) X := fold_tog bs p _ h
theorem tog_length (bs : List Bool) (p : Nat) : (tog bs p).length = bs.length := by simp [tog]

/-! The polynomial is divisible by x + 1: the number of bits stays odd. -/
theorem shl_zero0 (v : W) : (v <<< 1).getLsbD 0 = false := by
  rw [BitVec.getLsbD_shiftLeft]; rfl
theorem shl_succ (v : W) {i : Nat} (h : i + 1 < 16) : (v <<< 1).getLsbD (i + 1) = v.getLsbD i := by
  rw [BitVec.getLsbD_shiftLeft]
  have h2 : ¬ i + 1 < 1 := by omega
  simp only [h, h2, decide_true, decide_false, Bool.not_false, Bool.true_and, Nat.add_sub_cancel]
def parN : Nat → W → Bool
  | 0, _ => false
  | n + 1, v => parN n v ^^ v.getLsbD n
def par (v : W) : Bool := parN 16 v
theorem par_xor (a b : W) : par (a ^^^ b) = (par a ^^ par b) := by
  have key : ∀ n, parN n (a ^^^ b) = (parN n a ^^ parN n b) := by
    intro n
    induction n with
    | zero => rfl
    | succ n ih =>
      simp only [parN, ih, BitVec.getLsbD_xor]
      cases parN n a <;> cases parN n b <;> cases a.getLsbD n <;> cases b.getLsbD n <;> rfl
  exact key 16
theorem par_shl (v : W) : (par (v <<< 1) ^^ v.msb) = par v := by
  have key : ∀ n, n + 1 ≤ 16 → parN (n + 1) (v <<< 1) = parN n v := by
    intro n
    induction n with
    | zero => intro _; simp only [parN, shl_zero0]; rfl
    | succ n ih =>
      intro h
      rw [parN, ih (by omega), shl_succ v (by omega)]
      rfl
  unfold par
  rw [key 15 (by omega), BitVec.msb_eq_getLsbD_last]
  rfl
theorem par_shx (v : W) : par (shx v) = par v := by
  unfold shx
  rw [par_xor]
  have h1 : par 0x1021#16 = true := by decide
  have h0 : par 0#16 = false := by decide
  have := par_shl v
  cases hm : v.msb with
  | true => rw [hm] at this; simp only [cond_true, h1]; exact this
  | false => rw [hm] at this; simp only [cond_false, h0]; exact this
theorem par_iter (n : Nat) (v : W) : par (iter n v) = par v := by
  induction n generalizing v with
  | zero => rfl
  | succ n ih => rw [iter, ih, par_shx]
theorem par_X : par X = true := by decide

/-! Nothing is lost: x has an inverse. -/
theorem shx_inj {v : W} (h : shx v = 0#16) : v = 0#16 := by
  unfold shx at h
  cases hm : v.msb with
  | true =>
    rw [hm] at h
    have := congrArg (fun x : W => x.getLsbD 0) h
    simp only [cond_true, BitVec.getLsbD_xor, shl_zero0] at this
    exact absurd this (by decide)
  | false =>
    rw [hm] at h
    simp only [cond_false, BitVec.xor_zero] at h
    refine BitVec.eq_of_getLsbD_eq fun i hi => ?_
    by_cases h15 : i = 15
    · subst h15
      rw [BitVec.msb_eq_getLsbD_last] at hm
      rw [show (0#16).getLsbD 15 = false from rfl]; exact hm
    · have := congrArg (fun x : W => x.getLsbD (i + 1)) h
      simp only [shl_succ v (show i + 1 < 16 by omega)] at this
      rw [this]
      simp
theorem iter_inj {n : Nat} {v : W} (h : iter n v = 0#16) : v = 0#16 := by
  induction n generalizing v with
  | zero => exact h
  | succ n ih => exact shx_inj (ih h)
/-- The words that the turning of one bit comes to do not come again. -/
def none16 : Nat → W → Bool
  | 0, _ => true
  | n + 1, v => !(decide (v = X)) && none16 n (shx v)
theorem none16_ok : none16 8192 (shx X) = true := by decide +kernel
theorem none16_iter : ∀ {n : Nat} {v : W}, none16 n v = true → ∀ k, k < n → iter k v ≠ X
  | 0, _, _, k, hk => by omega
  | n + 1, v, h, 0, _ => by
    simp only [none16, Bool.and_eq_true, Bool.not_eq_true', decide_eq_false_iff_not] at h
    exact h.1
  | n + 1, v, h, k + 1, hk => by
    simp only [none16, Bool.and_eq_true] at h
    exact none16_iter h.2 k (by omega)
theorem iter_ne {k : Nat} (h0 : 0 < k) (h : k ≤ 8192) : iter k X ≠ X := by
  obtain ⟨m, rfl⟩ : ∃ m, k = m + 1 := ⟨k - 1, by omega⟩
  exact none16_iter none16_ok m (by omega)
theorem iter_two {n p q : Nat} (hpq : p < q) (hq : q ≤ n) (hn : n ≤ 8192) : iter (n - p) X ^^^ iter (n - q) X ≠ 0#16 := by
  intro h
  have e : n - p = (n - q) + (q - p) := by omega
  rw [e, iter_add, ← iter_xor] at h
  have := iter_inj h
  refine iter_ne (k := q - p) (by omega) (by omega) ?_
  have := congrArg (· ^^^ X) this
  simpa [BitVec.xor_assoc] using this

/-! Bursts. -/
theorem fold_append_zero (w : List Bool) (b : Bool) (r : W) : (w ++ [b]).foldl stepW r = shx (w.foldl stepW r ^^^ bx b) := by
  rw [List.foldl_append]; rfl
def top : List Bool → W
  | [] => 0#16
  | b :: w => bx b ^^^ (top w >>> 1)
theorem bx_bit (b : Bool) (i : Nat) (h : i < 15) : (bx b).getLsbD i = false := by
  cases b with
  | false => show (0#16).getLsbD i = false; simp
  | true =>
    show X.getLsbD i = false
    have : ∀ i : Fin 15, X.getLsbD i.val = false := by decide
    exact this ⟨i, h⟩
theorem top_low : ∀ (w : List Bool) (i : Nat), i + w.length < 16 → (top w).getLsbD i = false
  | [], i, _ => by simp [top]
  | b :: w, i, h => by
    simp only [List.length_cons] at h
    simp only [top, BitVec.getLsbD_xor, BitVec.getLsbD_ushiftRight]
    rw [bx_bit b i (by omega), show 1 + i = i + 1 by omega, top_low w (i + 1) (by omega)]
    rfl
theorem shx_low {v y : W} (h : shx v = y) (h0 : y.getLsbD 0 = false) : v = y >>> 1 := by
  unfold shx at h
  cases hm : v.msb with
  | true =>
    rw [hm] at h
    have := congrArg (fun x : W => x.getLsbD 0) h
    simp only [cond_true, BitVec.getLsbD_xor, shl_zero0, h0] at this
    exact absurd this (by decide)
  | false =>
    rw [hm] at h
    simp only [cond_false, BitVec.xor_zero] at h
    subst h
    refine BitVec.eq_of_getLsbD_eq fun i hi => ?_
    rw [BitVec.getLsbD_ushiftRight]
    by_cases h15 : i = 15
    · subst h15
      rw [BitVec.msb_eq_getLsbD_last] at hm
      have : (v <<< 1).getLsbD (1 + 15) = false := BitVec.getLsbD_of_ge _ _ (by omega)
      rw [this]; exact hm
    · rw [show 1 + i = i + 1 by omega, shl_succ v (by omega)]
theorem fold_zero : ∀ (w : List Bool) (r : W), w.length ≤ 16 → w.foldl stepW r = 0#16 → r = top w
  | [], r, _, h => h
  | b :: w, r, hl, h => by
    simp only [List.length_cons] at hl
    have ih := fold_zero w (stepW r b) (by omega) h
    have h1 := shx_low (v := r ^^^ bx b) ih (top_low w 0 (by omega))
    simp only [top]
    rw [← h1, BitVec.xor_comm r, ← BitVec.xor_assoc, BitVec.xor_self, BitVec.zero_xor]
theorem burst_ne {w : List Bool} (hl : w.length ≤ 15) : (true :: w).foldl stepW 0#16 ≠ 0#16 := by
  intro h
  have := fold_zero (true :: w) 0#16 (by simp; omega) h
  have h2 := congrArg (fun x : W => x.msb) this
  simp only [top] at h2
  rw [BitVec.msb_xor] at h2
  have h3 : (top w >>> 1).msb = false := by
    rw [BitVec.msb_eq_getLsbD_last, BitVec.getLsbD_ushiftRight]
    simp
  rw [h3] at h2
  exact absurd h2 (by decide)
end Sp03

/- Chapter 03: the laws: detects. -/
namespace Go.Abs.C03
open Go Go.Proofs Sp03
set_option maxRecDepth 100000

theorem bitOf_xor {x : Int} {m j : Nat} (h : 0 ≤ x) : bitOf ((Nat.xor x.toNat (2 ^ m) : Nat) : Int) j = (bitOf x j ^^ decide (m = j)) := by
  rw [bitOf_testBit (by omega), bitOf_testBit h, Int.toNat_natCast]
  show (x.toNat ^^^ 2 ^ m).testBit j = _
  rw [Nat.testBit_xor, Nat.testBit_two_pow]
theorem tog_getD (bs : List Bool) (p i : Nat) (h : p < bs.length) : (tog bs p).getD i false = (bs.getD i false ^^ decide (p = i)) := by
  unfold tog
  rw [getD_set h]
  by_cases hp : p = i
  · subst hp; simp
  · simp [hp]
theorem flip_facts {s : S} {i : Int} (hb : bytesOk s.1) (hv : valid s = true) (h0 : 0 ≤ i) (hi : i < s.2.1) :
    bytesOk (Sp03.flip s i).1 ∧ valid (Sp03.flip s i) = true ∧ (Sp03.flip s i).2.1 = s.2.1 ∧ (Sp03.flip s i).1.length = s.1.length ∧ Sp03.bits (Sp03.flip s i) = tog (Sp03.bits s) i.toNat := by
  obtain ⟨l, n, ⟨⟩⟩ := s
  obtain ⟨v1, v2, v3, v4⟩ := valid_iff.1 hv
  simp only at v1 v2 v3 v4 hb hi
  have hx := bytesOk_getD hb (i.toNat / 8)
  have hpw : (2 : Nat) ^ (7 - i.toNat % 8) < 2 ^ 8 := Nat.pow_lt_pow_right (by omega) (by omega)
  have hlt : Nat.xor (l.getD (i.toNat / 8) 0).toNat (2 ^ (7 - i.toNat % 8)) < 2 ^ 8 := Nat.xor_lt_two_pow (by omega) hpw
  have hbit : ∀ j, bitAt (Sp03.flip (l, n, ()) i).1 j = (bitAt l j ^^ decide (i.toNat = j)) := by
    intro j
    show bitAt (l.set (i.toNat / 8) _) j = _
    rw [bitAt_set (by omega)]
    by_cases h : i.toNat / 8 = j / 8
    · rw [if_pos h, bitOf_xor hx.1]
      unfold bitAt
      rw [h]
      congr 1
      congr 1
      apply propext
      omega
    · rw [if_neg h]
      have : ¬ i.toNat = j := by omega
      simp [this]
  have hlen : (Sp03.flip (l, n, ()) i).1.length = l.length := by show (l.set _ _).length = _; simp
  have hx2 : 0 ≤ ((Nat.xor (l.getD (i.toNat / 8) 0).toNat (2 ^ (7 - i.toNat % 8)) : Nat) : Int) ∧ ((Nat.xor (l.getD (i.toNat / 8) 0).toNat (2 ^ (7 - i.toNat % 8)) : Nat) : Int) < 256 := ⟨by omega, by omega⟩
  refine ⟨bytesOk_set hb hx2, valid_iff.2 ⟨v1, v2, ?_, fun j hj => ?_⟩, rfl, hlen, bools_ext (by rw [tog_length, bits_length, bits_length]; rfl) fun j hj => ?_⟩
  · rw [hlen]; exact v3
  · rw [hbit, v4 j hj]
    have hj : n.toNat ≤ j := hj
    have : ¬ i.toNat = j := by omega
    simp [this]
  · rw [bits_length] at hj
    have hj : j < n.toNat := hj
    rw [tog_getD _ _ _ (by rw [bits_length]; simp only; omega), bits_getD, bits_getD, if_pos, if_pos, hbit]
    · exact hj
    · exact hj

theorem place_lt {x m n : Int} (h0 : 0 ≤ x) (h1 : x < m) (hn : m ≤ n) : 0 ≤ x * n / m ∧ x * n / m < n := by
  have hm : 0 < m := by omega
  refine ⟨Int.ediv_nonneg (Int.mul_nonneg h0 (by omega)) (by omega), Int.ediv_lt_of_lt_mul hm ?_⟩
  rw [Int.mul_comm n m]
  exact Int.mul_lt_mul_of_pos_right h1 (by omega)
theorem place_ne {x y m n : Int} (h0 : 0 ≤ x) (hxy : x < y) (h1 : y < m) (hn : m ≤ n) : x * n / m < y * n / m := by
  have hm : 0 < m := by omega
  have h2 : x * n + m ≤ y * n := by
    have : (x + 1) * n ≤ y * n := Int.mul_le_mul_of_nonneg_right (by omega) (by omega)
    rw [Int.add_mul, Int.one_mul] at this
    omega
  have h3 : (x * n + m) / m ≤ y * n / m := Int.ediv_le_ediv hm h2
  have h4 : (x * n + m) / m = x * n / m + 1 := by rw [Int.add_ediv_of_dvd_right (Int.dvd_refl m), Int.ediv_self (by omega)]
  omega

/-- What the first k turned bits come to. -/
def sumU (n : Nat) (p : Nat → Nat) : Nat → W
  | 0 => 0#16
  | k + 1 => sumU n p k ^^^ iter (n - p k) X
theorem sumU_ne {n : Nat} {p : Nat → Nat} (hn : n ≤ 8192) : ∀ k, 1 ≤ k → k ≤ 3 → (∀ i, i < k → p i < n) → (∀ i j, i < k → j < k → i ≠ j → p i ≠ p j) → sumU n p k ≠ 0#16 := by
  intro k h1 h3 h hd hk
  have hp : par (0#16 : W) = false := by decide
  match k, h1, h3, h, hd with
  | 1, _, _, h, hd =>
    have := congrArg par hk
    simp only [sumU, BitVec.zero_xor, par_iter, par_X, hp] at this
    cases this
  | 2, _, _, h, hd =>
    simp only [sumU, BitVec.zero_xor] at hk
    have h0 := h 0 (by omega)
    have h1 := h 1 (by omega)
    have := hd 0 1 (by omega) (by omega) (by omega)
    rcases Nat.lt_or_gt_of_ne this with h2 | h2
    · exact iter_two h2 (by omega) hn hk
    · rw [BitVec.xor_comm] at hk
      exact iter_two h2 (by omega) hn hk
  | 3, _, _, h, hd =>
    have := congrArg par hk
    simp only [sumU, BitVec.zero_xor, par_xor, par_iter, par_X, hp] at this
    cases this

/-! What is sealed comes to nothing. -/
theorem topw_bit : ∀ (w : List Bool) (i : Nat), i < 16 → (top w).getLsbD (15 - i) = w.getD i false
  | [], i, _ => by simp [top]
  | b :: w, 0, _ => by
    simp only [top, BitVec.getLsbD_xor, BitVec.getLsbD_ushiftRight, List.getD_cons_zero]
    have : (top w).getLsbD (1 + (15 - 0)) = false := BitVec.getLsbD_of_ge _ _ (by omega)
    rw [this]
    cases b <;> decide
  | b :: w, i + 1, h => by
    simp only [top, BitVec.getLsbD_xor, BitVec.getLsbD_ushiftRight, List.getD_cons_succ]
    rw [bx_bit b _ (by omega), show 1 + (15 - (i + 1)) = 15 - i by omega, topw_bit w i (by omega)]
    simp
theorem top_vbits (r : W) : top (vbits r.toNat 16) = r := by
  refine BitVec.eq_of_getLsbD_eq fun k hk => ?_
  have := topw_bit (vbits r.toNat 16) (15 - k) (by omega)
  rw [show 15 - (15 - k) = k by omega, vbits_getD, if_pos (by omega), show 16 - 1 - (15 - k) = k by omega] at this
  rw [this]
  rfl
theorem fold_top : ∀ w : List Bool, w.length ≤ 16 → w.foldl stepW (top w) = 0#16
  | [], _ => rfl
  | b :: w, h => by
    simp only [List.length_cons] at h
    have ih := fold_top w (by omega)
    have e : stepW (top (b :: w)) b = top w := by
      unfold stepW
      simp only [top]
      rw [BitVec.xor_comm (bx b), BitVec.xor_assoc, BitVec.xor_self, BitVec.xor_zero]
      unfold shx
      have h3 : (top w >>> 1).msb = false := by
        rw [BitVec.msb_eq_getLsbD_last, BitVec.getLsbD_ushiftRight]
        simp
      rw [h3]
      simp only [cond_false, BitVec.xor_zero]
      refine BitVec.eq_of_getLsbD_eq fun i hi => ?_
      match i with
      | 0 => rw [shl_zero0, top_low w 0 (by omega)]
      | i + 1 => rw [shl_succ _ (by omega), BitVec.getLsbD_ushiftRight, show 1 + i = i + 1 by omega]
    simp only [List.foldl_cons]
    rw [e, ih]
theorem crcW_app (x y : List Bool) : crcW (x ++ y) = y.foldl stepW (crcW x) := by unfold crcW; rw [List.foldl_append]
theorem sealed_zero (B : List Bool) : crcW (sealed B) = 0#16 := by
  unfold sealed
  rw [crcW_app, crc_word]
  have := fold_top (vbits (crcW B).toNat 16) (by rw [vbits_length]; exact Nat.le_refl _)
  rwa [top_vbits] at this
theorem falses_zero : ∀ n, (List.replicate n false).foldl stepW 0#16 = 0#16
  | 0 => rfl
  | n + 1 => by
    rw [List.replicate_succ, List.foldl_cons]
    exact falses_zero n
theorem pack_crc (B : List Bool) : crcW (bitsR (pack (sealed B)) 0 (8 * (pack (sealed B)).length)) = 0#16 := by
  have hlen : (pack (sealed B)).length = ((sealed B).length + 7) / 8 := pack_length _
  have e : bitsR (pack (sealed B)) 0 (8 * (pack (sealed B)).length) = sealed B ++ List.replicate (8 * (pack (sealed B)).length - (sealed B).length) false := by
    refine bools_ext (by rw [bitsR_length, List.length_append, List.length_replicate]; omega) fun i hi => ?_
    rw [bitsR_length] at hi
    rw [bitsR_getD, if_pos hi, Nat.zero_add, bitAt_pack, getD_append]
    by_cases h : i < (sealed B).length
    · rw [if_pos h]
    · rw [if_neg h, getD_ge (by omega)]
      by_cases h2 : i - (sealed B).length < 8 * (pack (sealed B)).length - (sealed B).length
      · simp [List.getD_eq_getElem?_getD, List.getElem?_replicate, h2]
      · simp [List.getD_eq_getElem?_getD, List.getElem?_replicate, h2]
  rw [e, crcW_app, sealed_zero, falses_zero]
theorem dec_crc {b : List Int} (hb : bytesOk b) (h : (Sp03.decode b).2.1 = 0) : crcW (bitsR b 0 (8 * b.length)) = 0#16 := by
  have he := enc_dec hb h
  have hv : validP (Sp03.decode b).1 = true := by
    rw [← enc_ok_iff, he]
    rfl
  have e5 := (enc_size hv).2.2.2.2
  rw [he] at e5
  simp only at e5
  rw [e5]
  exact pack_crc _

/-! One bit turned. -/
theorem xor8 : ∀ x : Fin 256, ∀ m : Fin 8, IntKind.wrap .u8 (Int.ofNat (BitVec.toNat (BitVec.xor (BitVec.ofInt 8 (x.val : Int)) (BitVec.ofInt 8 (Int.fdiv 128 (Int.pow 2 (min m.val 8))))))) = ((Nat.xor x.val (2 ^ (7 - m.val)) : Nat) : Int) := by decide +kernel
theorem turn_facts {b : List Int} (hb : bytesOk b) (hl : b.length ≤ 1024) {i : Nat} (hi : i < 8 * b.length) :
    bytesOk (Sp03.flip (b, 8 * (b.length : Int), ()) (i : Int)).1 ∧ (Sp03.flip (b, 8 * (b.length : Int), ()) (i : Int)).1.length = b.length ∧ bitsR (Sp03.flip (b, 8 * (b.length : Int), ()) (i : Int)).1 0 (8 * b.length) = tog (bitsR b 0 (8 * b.length)) i := by
  obtain ⟨f1, f2, f3, f4, f5⟩ := flip_facts (s := (b, 8 * (b.length : Int), ())) (i := (i : Int)) hb (valid_bytes hl) (by omega) (by simp only; omega)
  refine ⟨f1, f4, ?_⟩
  have e1 : Sp03.bits (Sp03.flip (b, 8 * (b.length : Int), ()) (i : Int)) = bitsR (Sp03.flip (b, 8 * (b.length : Int), ()) (i : Int)).1 0 (8 * b.length) := by
    unfold Sp03.bits
    rw [f3]
    simp only
    congr 1
  have e2 : Sp03.bits (b, 8 * (b.length : Int), ()) = bitsR b 0 (8 * b.length) := by
    unfold Sp03.bits
    simp only
    congr 1
  rw [← e1, f5, e2, Int.toNat_natCast]
/-! Orders. -/
theorem orderN_facts (t : Tp) : ∀ k, (orderN k t).1.length = k ∧ (orderN k t).1.Nodup ∧ ∀ x ∈ (orderN k t).1, 0 ≤ x ∧ x < k
  | 0 => ⟨rfl, List.nodup_nil, fun x hx => by cases hx⟩
  | k + 1 => by
    obtain ⟨h1, h2, h3⟩ := orderN_facts t k
    have hp : (orderN (k + 1) t).1.Perm ((k : Int) :: (orderN k t).1) := by
      have := List.perm_middle (a := (k : Int)) (l₁ := (orderN k t).1.take (next (orderN k t).2 (k + 1)).1.toNat) (l₂ := (orderN k t).1.drop (next (orderN k t).2 (k + 1)).1.toNat)
      rw [List.take_append_drop] at this
      exact this
    refine ⟨by rw [hp.length_eq, List.length_cons, h1], hp.nodup_iff.2 (List.nodup_cons.2 ⟨fun hi => by have := h3 _ hi; omega, h2⟩), fun x hx => ?_⟩
    rcases List.mem_cons.1 (hp.mem_iff.1 hx) with h | h
    · omega
    · have := h3 x h; omega
end Go.Abs.C03

/- Chapter 03: the laws: detects, the walk. -/
namespace Go.Abs.C03
open Go Go.Proofs Sp03
set_option maxRecDepth 100000

/-! The places that are turned. -/
def good (i : Nat) : Bool := decide (2 ≤ i) && (decide (i < 12) || decide (13 < i)) && (decide (i < 42) || decide (48 < i))
def posN (n : Nat) : List Nat := (List.range n).filter good
def posI (n : Nat) : List Int := (posN n).map fun (k : Nat) => (k : Int)
theorem posI_succ (n : Nat) : posI (n + 1) = posI n ++ (bif good n then [(n : Int)] else []) := by
  unfold posI posN
  rw [List.range_succ, List.filter_append, List.map_append]
  cases h : good n <;> simp [h]
theorem posI_len (n : Nat) : (posI n).length ≤ n := by
  unfold posI posN
  rw [List.length_map]
  have := List.length_filter_le good (List.range n)
  rwa [List.length_range] at this
theorem pos_step (b : List Int) (hl : b.length ≤ 1000) (i : Nat) (h2 : 2 ≤ i) (hi : i < 8 * b.length) : g6_s0 ((i : Int), posI i, b, ()) = some (.inl (((i + 1 : Nat) : Int), posI (i + 1), b, ())) := by
  have hp := posI_len i
  have e0 : IntKind.wrap .i64 (8 * Int.ofNat b.length) = 8 * (b.length : Int) := wi64 (by simp only [Int.ofNat_eq_natCast]; omega) (by simp only [Int.ofNat_eq_natCast]; omega)
  have e1 : IntKind.wrap .i64 ((i : Int) + 1) = ((i + 1 : Nat) : Int) := by rw [wi64 (by omega) (by omega)]; omega
  have c1 : ((i : Int) < 12) = (i < 12) := propext (by omega)
  have c2 : ((13 : Int) < (i : Int)) = (13 < i) := propext (by omega)
  have c3 : ((i : Int) < 42) = (i < 42) := propext (by omega)
  have c4 : ((48 : Int) < (i : Int)) = (48 < i) := propext (by omega)
  have c5 : Nat.ble (((posI i).length + 1) * 8) 140737488355328 = true := Nat.ble_eq_true_of_le (by omega)
  have c6 : (i : Int) < 8 * (b.length : Int) := by omega
  unfold g6_s0
  rw [posI_succ]
  simp only [e0, c6, decide_true, cond_true, gt_iff_lt, c1, c2, c3, c4, c5, e1, good, h2]
  by_cases h1 : i < 12 <;> by_cases h3 : 13 < i <;> by_cases h4 : i < 42 <;> by_cases h5 : 48 < i <;>
    simp only [h1, h3, h4, h5, decide_true, decide_false, Bool.not_true, Bool.not_false, cond_true, cond_false, Option.bind_some, Bool.or_true, Bool.or_false, Bool.true_or, Bool.or_self, Bool.and_true, Bool.and_false, Bool.true_and, Bool.and_self, List.append_nil]
theorem pos_loop (b : List Int) (h1 : 1 ≤ b.length) (hl : b.length ≤ 1000) : Loop g6_s0 ((2 : Int), [], b, ()) = some (posI (8 * b.length), b, ()) := by
  have key : ∀ k, k ≤ 8 * b.length - 2 → Loop g6_s0 (((8 * b.length - k : Nat) : Int), posI (8 * b.length - k), b, ()) = some (posI (8 * b.length), b, ()) := by
    intro k
    induction k with
    | zero =>
      intro _
      have e0 : IntKind.wrap .i64 (8 * Int.ofNat b.length) = 8 * (b.length : Int) := wi64 (by simp only [Int.ofNat_eq_natCast]; omega) (by simp only [Int.ofNat_eq_natCast]; omega)
      rw [Loop_step]
      unfold g6_s0
      simp only [Nat.sub_zero, e0]
      rw [decide_eq_false (by omega)]
      rfl
    | succ k ih =>
      intro hk
      rw [Loop_step, pos_step b hl _ (by omega) (by omega)]
      simp only
      rw [show 8 * b.length - (k + 1) + 1 = 8 * b.length - k by omega]
      exact ih (by omega)
  have := key (8 * b.length - 2) (Nat.le_refl _)
  rw [show 8 * b.length - (8 * b.length - 2) = 2 by omega] at this
  exact this
theorem posN_80 (n : Nat) : 20 ≤ (posN (80 + n)).length := by
  unfold posN
  rw [List.range_add, List.filter_append, List.length_append]
  have : ((List.range 80).filter good).length = 69 := by decide +kernel
  omega
theorem posN_nodup (n : Nat) : (posN n).Nodup := (List.filter_sublist).nodup List.nodup_range
theorem posN_lt {n k : Nat} (h : k ∈ posN n) : k < n := List.mem_range.1 (List.mem_filter.1 h).1

theorem nodup_ne {α : Type} {l : List α} {d : α} (h : l.Nodup) {i j : Nat} (hi : i < l.length) (hj : j < l.length) (hij : i ≠ j) : l.getD i d ≠ l.getD j d := by
  intro e
  rw [List.getD_eq_getElem?_getD, List.getD_eq_getElem?_getD, List.getElem?_eq_getElem hi, List.getElem?_eq_getElem hj] at e
  exact hij ((List.getElem_inj h).1 e)

/-- The place of the turn of number k. -/
def plc (z : List Int) (n : Nat) (k : Nat) : Nat := (posN n).getD (z.getD k 0 * ((posN n).length : Int) / 20).toNat 0
theorem posI_getD (n i : Nat) : (posI n).getD i 0 = (((posN n).getD i 0 : Nat) : Int) := by
  unfold posI
  simp only [List.getD_eq_getElem?_getD, List.getElem?_map]
  cases (posN n)[i]? <;> rfl
theorem plc_lt {z : List Int} {n k : Nat} (hz : z.length = 20) (hr : ∀ x ∈ z, 0 ≤ x ∧ x < 20) (hn : 20 ≤ (posN n).length) (hk : k < 20) :
    0 ≤ z.getD k 0 * ((posN n).length : Int) / 20 ∧ z.getD k 0 * ((posN n).length : Int) / 20 < ((posN n).length : Int) ∧ plc z n k < n := by
  have hx := hr _ (getD_mem (d := 0) (show k < z.length by omega))
  have h := place_lt hx.1 hx.2 (n := ((posN n).length : Int)) (by omega)
  exact ⟨h.1, h.2, posN_lt (getD_mem (by omega))⟩
theorem plc_ne {z : List Int} {n i j : Nat} (hz : z.length = 20) (hd : z.Nodup) (hr : ∀ x ∈ z, 0 ≤ x ∧ x < 20) (hn : 20 ≤ (posN n).length) (hi : i < 20) (hj : j < 20) (hij : i ≠ j) : plc z n i ≠ plc z n j := by
  have hxi := hr _ (getD_mem (d := 0) (show i < z.length by omega))
  have hxj := hr _ (getD_mem (d := 0) (show j < z.length by omega))
  have hne := nodup_ne (d := 0) hd (show i < z.length by omega) (show j < z.length by omega) hij
  have pi := plc_lt hz hr hn hi
  have pj := plc_lt hz hr hn hj
  refine nodup_ne (posN_nodup n) (by omega) (by omega) ?_
  rcases Int.lt_or_gt_of_ne hne with h | h
  · have := place_ne hxi.1 h hxj.2 (n := ((posN n).length : Int)) (by omega); omega
  · have := place_ne hxj.1 h hxi.2 (n := ((posN n).length : Int)) (by omega); omega

theorem turn_val {b : List Int} (hb : bytesOk b) (q : Nat) : IntKind.wrap .u8 (Int.ofNat (BitVec.toNat (BitVec.xor (BitVec.ofInt 8 (b.getD (q / 8) 0)) (BitVec.ofInt 8 (Int.fdiv 128 (Int.pow 2 (min (q % 8) 8))))))) = ((Nat.xor (b.getD (q / 8) 0).toNat (2 ^ (7 - q % 8)) : Nat) : Int) := by
  have hx := getD_byte hb (q / 8)
  have := xor8 ⟨(b.getD (q / 8) 0).toNat, by omega⟩ ⟨q % 8, by omega⟩
  simp only at this
  rwa [Int.toNat_of_nonneg hx.1] at this

theorem turn_loop (b0 : List Int) (z : List Int) (t : Tp) (c : Nat) (hb : bytesOk b0) (hl : b0.length ≤ 1000) (hz : z.length = 20) (hr : ∀ x ∈ z, 0 ≤ x ∧ x < 20) (hn : 20 ≤ (posN (8 * b0.length)).length) (hc : c ≤ 3) :
    ∃ e, Loop (g6_s1 (z, t)) ((c : Int), b0, posI (8 * b0.length), ()) = some e ∧ bytesOk e.1 ∧ e.1.length = b0.length ∧
      crcW (bitsR b0 0 (8 * b0.length)) ^^^ crcW (bitsR e.1 0 (8 * b0.length)) = sumU (8 * b0.length) (fun j => plc z (8 * b0.length) (c - j)) c := by
  refine Loop_post (fun v : Int × List Int × List Int × Unit => 0 ≤ v.1 ∧ v.1 ≤ c ∧ bytesOk v.2.1 ∧ v.2.1.length = b0.length ∧ v.2.2.1 = posI (8 * b0.length) ∧
      crcW (bitsR b0 0 (8 * b0.length)) ^^^ crcW (bitsR v.2.1 0 (8 * b0.length)) = sumU (8 * b0.length) (fun j => plc z (8 * b0.length) (c - j)) (c - v.1.toNat)) (fun v : Int × List Int × List Int × Unit => v.1.toNat)
    (fun e : List Int × Unit => bytesOk e.1 ∧ e.1.length = b0.length ∧ crcW (bitsR b0 0 (8 * b0.length)) ^^^ crcW (bitsR e.1 0 (8 * b0.length)) = sumU (8 * b0.length) (fun j => plc z (8 * b0.length) (c - j)) c) ?_
    (v := ((c : Int), b0, posI (8 * b0.length), ())) ⟨by simp, by simp, hb, rfl, rfl, by simp [sumU]⟩
  rintro ⟨k, b, L, ⟨⟩⟩ ⟨p1, p2, p3, p4, p5, p6⟩
  simp only at p1 p2 p3 p4 p5 p6
  subst p5
  unfold g6_s1
  by_cases hk : 0 < k
  rotate_left
  · left
    refine ⟨(b, ()), by simp only [gt_iff_lt, hk, decide_false, cond_false], p3, p4, ?_⟩
    rw [p6]
    congr 1
    omega
  right
  obtain ⟨i, rfl⟩ : ∃ i : Nat, k = (i : Int) := ⟨k.toNat, by omega⟩
  obtain ⟨q1, q2, q3⟩ := plc_lt (n := 8 * b0.length) (k := i) hz hr hn (by omega)
  have hx := hr _ (getD_mem (d := 0) (show i < z.length by omega))
  have hL : (posI (8 * b0.length)).length = (posN (8 * b0.length)).length := by unfold posI; rw [List.length_map]
  have hL2 := posI_len (8 * b0.length)
  have hpl : (posI (8 * b0.length)).getD (z.getD i 0 * ((posN (8 * b0.length)).length : Int) / 20).toNat 0 = ((plc z (8 * b0.length) i : Nat) : Int) := posI_getD _ _
  have m1 : 0 ≤ z.getD i 0 * ((posN (8 * b0.length)).length : Int) := Int.mul_nonneg hx.1 (by omega)
  have m2 : z.getD i 0 * ((posN (8 * b0.length)).length : Int) ≤ 20 * 8000 := Int.le_trans (Int.mul_le_mul_of_nonneg_left (show ((posN (8 * b0.length)).length : Int) ≤ 8000 by omega) hx.1) (Int.mul_le_mul_of_nonneg_right (by omega) (by omega))
  have e1 : IntKind.wrap .i64 (z.getD i 0 * ((posN (8 * b0.length)).length : Int)) = z.getD i 0 * ((posN (8 * b0.length)).length : Int) := wi64 (by omega) (by omega)
  have e2 : Int.tdiv (z.getD i 0 * ((posN (8 * b0.length)).length : Int)) 20 = z.getD i 0 * ((posN (8 * b0.length)).length : Int) / 20 := tdiv_nn m1
  have e3 : IntKind.wrap .i64 (z.getD i 0 * ((posN (8 * b0.length)).length : Int) / 20) = z.getD i 0 * ((posN (8 * b0.length)).length : Int) / 20 := wi64 (by omega) (by omega)
  generalize hq : plc z (8 * b0.length) i = q at q3 hpl
  have e4 : Int.tdiv (q : Int) 8 = ((q / 8 : Nat) : Int) := by rw [tdiv_nn (by omega)]; omega
  have e5 : IntKind.wrap .i64 ((q / 8 : Nat) : Int) = ((q / 8 : Nat) : Int) := wi64 (by omega) (by omega)
  have e6 : Int.tmod (q : Int) 8 = ((q % 8 : Nat) : Int) := by rw [tmod_nn (by omega)]; omega
  have e7 : IntKind.wrap .u64 ((q % 8 : Nat) : Int) = ((q % 8 : Nat) : Int) := wu64 (by omega) (by omega)
  have e8 : IntKind.wrap .i64 ((i : Int) - 1) = (i : Int) - 1 := wi64 (by omega) (by omega)
  have d1 : (i : Int) < (z.length : Int) := by omega
  have d2 : Nat.blt (z.getD i 0 * ((posN (8 * b0.length)).length : Int) / 20).toNat (posN (8 * b0.length)).length = true := Nat.ble_eq_true_of_le (by omega)
  have d3 : ((q / 8 : Nat) : Int) < (b.length : Int) := by omega
  have d4 : Nat.blt (q / 8) b.length = true := Nat.ble_eq_true_of_le (by omega)
  have d5 : (0 : Int) ≤ ((q / 8 : Nat) : Int) := by omega
  have d6 : (0 : Int) ≤ ((q % 8 : Nat) : Int) := by omega
  have d7 : (0 : Int) ≤ (i : Int) := by omega
  obtain ⟨f1, f2, f3⟩ := turn_facts p3 (by omega) (i := q) (by omega)
  have hfl : (Sp03.flip (b, 8 * (b.length : Int), ()) (q : Int)).1 = b.set (q / 8) ((Nat.xor (b.getD (q / 8) 0).toNat (2 ^ (7 - q % 8)) : Nat) : Int) := rfl
  rw [hfl] at f1 f2 f3
  simp only [gt_iff_lt, hk, Int.ofNat_eq_natCast, hL, e1, e2, e3, hpl, e4, e5, e6, e7, e8, d1, d2, d3, d4, d5, d6, d7, q1, q2, decide_true, Bool.and_self, cond_true, Int.toNat_natCast]
  have tv := turn_val p3 q
  simp only [Int.ofNat_eq_natCast] at tv
  rw [tv]
  refine ⟨_, rfl, ⟨by simp only; omega, by simp only; omega, f1, f2.trans p4, rfl, ?_⟩, by simp only; omega⟩
  simp only
  have hs : c - ((i : Int) - 1).toNat = (c - (i : Int).toNat) + 1 := by omega
  rw [hs]
  simp only [sumU]
  rw [← p6, show c - (c - (i : Int).toNat) = i by omega, hq]
  rw [p4] at f3
  have h1 := crcW_tog (bs := bitsR b 0 (8 * b0.length)) (p := q) (by rw [bitsR_length]; omega)
  rw [bitsR_length, ← f3] at h1
  rw [← h1, BitVec.xor_assoc, ← BitVec.xor_assoc (crcW (bitsR b 0 (8 * b0.length))), BitVec.xor_self, BitVec.zero_xor]

theorem g6_ok (a0 : (List Int)) (r0 : (Ty.sl (.int .i64)).ok a0) : g6 a0 = some (true, ()) := by
  have w0 := tape_wf a0
  obtain ⟨hv, hb, hy, w1⟩ := pkt_good w0
  obtain ⟨e1, e2, e3, e4, e5⟩ := enc_size hv
  have h := valid_fit.1 hv
  have hl := fit_len h
  have hB := bodyB_length (pkt (Sp03.tape a0)).1
  have h10 : 10 ≤ (Sp03.encode (pkt (Sp03.tape a0)).1).1.length := by
    rw [e5, pack_length, sealed_length]
    omega
  have hcr : crcW (bitsR (Sp03.encode (pkt (Sp03.tape a0)).1).1 0 (8 * (Sp03.encode (pkt (Sp03.tape a0)).1).1.length)) = 0#16 := by
    rw [e5]
    exact pack_crc _
  unfold g6
  rw [on_true (show (wf (Sp03.tape a0) && small 0) = true by rw [w0]; rfl), packet_zero]
  simp only [Option.bind_some]
  generalize Sp03.encode (pkt (Sp03.tape a0)).1 = B0 at e1 e2 e3 e4 h10 hcr ⊢
  have c8 : ¬ Int.ofNat B0.1.length < 8 := by simp only [Int.ofNat_eq_natCast]; omega
  simp only [e1, e3, decide_true, Bool.not_true, Bool.not_false, cond_true]
  rw [e1] at c8
  simp only [c8, decide_false, Option.bind_some, cond_false]
  rw [pos_loop B0.1 (by omega) (by omega)]
  simp only [Option.bind_some]
  rw [on_true (show (wf (pkt (Sp03.tape a0)).2 && decide ((0 : Int) ≤ 20) && decide ((20 : Int) ≤ 1000)) = true by rw [w1]; rfl)]
  simp only [Option.bind_some]
  obtain ⟨z1, z2, z3⟩ := orderN_facts (pkt (Sp03.tape a0)).2 20
  have w2 : wf (order (pkt (Sp03.tape a0)).2 20).2 = true := (order_wf w1 20).1
  have ho : order (pkt (Sp03.tape a0)).2 20 = orderN 20 (pkt (Sp03.tape a0)).2 := rfl
  rw [ho] at w2 ⊢
  rw [on_true (show (wf (orderN 20 (pkt (Sp03.tape a0)).2).2 && small 1 && small 3) = true by rw [w2]; rfl)]
  simp only [Option.bind_some]
  have r5 := range_in (t := (orderN 20 (pkt (Sp03.tape a0)).2).2) (a := 1) (b := 3) (by decide)
  generalize range (orderN 20 (pkt (Sp03.tape a0)).2).2 1 3 = y5 at r5 ⊢
  have hn : 20 ≤ (posN (8 * B0.1.length)).length := by
    have := posN_80 (8 * B0.1.length - 80)
    rwa [show 80 + (8 * B0.1.length - 80) = 8 * B0.1.length by omega] at this
  obtain ⟨c, hc⟩ : ∃ c : Nat, y5.1 = (c : Int) := ⟨y5.1.toNat, by omega⟩
  have zr : ∀ x ∈ (orderN 20 (pkt (Sp03.tape a0)).2).1, 0 ≤ x ∧ x < 20 := z3
  obtain ⟨e, k1, k2, k3, k4⟩ := turn_loop B0.1 (orderN 20 (pkt (Sp03.tape a0)).2).1 (orderN 20 (pkt (Sp03.tape a0)).2).2 c e4 (by omega) z1 zr hn (by omega)
  have k1' : Loop (g6_s1 (orderN 20 (pkt (Sp03.tape a0)).2)) (y5.1, B0.1, posI (8 * B0.1.length), ()) = some e := by
    rw [hc]
    exact k1
  rw [k1']
  simp only [Option.bind_some]
  have hne : ¬ (Sp03.decode e.1).2.1 = 0 := by
    intro hd
    have h0 := dec_crc k2 hd
    rw [k3] at h0
    rw [hcr, h0, BitVec.xor_self] at k4
    exact sumU_ne (by omega) c (by omega) (by omega) (fun i hi => (plc_lt z1 zr hn (by omega)).2.2) (fun i j hi hj hij => plc_ne z1 z2 zr hn (by omega) (by omega) (by omega)) k4.symm
  simp only [hne, decide_false, Bool.not_false, cond_true, Option.bind_some]
end Go.Abs.C03

/- Chapter 03: a law keeps its contract. -/
namespace Go.Abs.C03
open Go Go.Proofs
theorem ok6 : FunOk Try.prog B 6 c6 := glue L10 all10 plan6 Try.func6 (by kernel_rfl) (by
  rintro ⟨⟨⟩, a0, ⟨⟩⟩ y r h
  exact (g6_eq a0).trans ((g6_ok a0 r.2.1).trans h))
end Go.Abs.C03

/- Chapter 03: the row of PacketDetects. -/
namespace Go.Proofs.Yteepagijanepiaa
open Go.ChangeShapes Go.WideShapes Go.ChangeAt Go.RowKit Go.Abs Go.Abs.C03

set_option maxRecDepth 100000 in
theorem PacketDetects_lifted (os : Os) (started : os.Started) (H : Type) (enc : TypeId × Value → H) :
    ReturnsInHanded {} Try.checked os 6 .any (fun w args => (Rows.packetDetectsSpec.pre enc Try.prog Try.f6 Rows.packetDetectsRow.domain false w args ∧ True) ∧ sizedMet enc Try.prog Try.f6 (OpenSpec.ofChange Rows.packetDetectsSpec) false w args)
      (Rows.packetDetectsSpec.post enc Try.prog Try.f6 false true false false) := by
  refine returnsInHanded_of_change_and (C := Try.checked) (X := fun _ _ => True) (fun _ _ _ _ _ => trivial) Try.own started (by kernel_rfl) Try.func6
    (ChangeSpec.witness_at (enc := enc) (C := Try.checked) (os := os) (X := fun _ _ => True) false (laidWorld os) #[.slice none 0 0] 8 rfl (by kernel_rfl) (by kernel_rfl) (by kernel_rfl) (by kernel_rfl) (by kernel_rfl) trivial) ?_
  intro W base args ds gs before hval hW _ hwt hL _
  exact law_row 8 [.sl (.int .i64)] ok6 rfl Try.laidOut (by kernel_rfl) (by kernel_rfl) rfl (by kernel_rfl) (tb := 4) (by kernel_rfl)
    (fun ds hd => by
      match ds, hd with
      | [d1], _ => rfl) glob_ok hval hW hwt

theorem PacketDetects_holds : Rows.PacketDetectsSaid :=
  OpenClaim.holds_of_wide 6 Try.f6 rfl rfl rfl rfl rfl rfl rfl ⟨rfl, rfl, rfl, rfl, rfl⟩ rfl rfl rfl rfl rfl (by kernel_rfl) Try.func6 (by kernel_rfl)
    (of_decide_eq_true (by kernel_rfl)) (by unfold Func.isWrapper; first | (rw [if_pos (by decide +kernel)]; kernel_rfl) | (rw [if_neg (by decide +kernel)]; exact ⟨rfl, rfl⟩))
    (fun os started H enc _ => by
      show ReturnsInHanded {} Try.checked os 6 .any (fun w args => Rows.packetDetectsSpec.pre enc Try.prog Try.f6 Rows.packetDetectsRow.domain false w args ∧ sizedMet enc Try.prog Try.f6 (OpenSpec.ofChange Rows.packetDetectsSpec) false w args) (Rows.packetDetectsSpec.post enc Try.prog Try.f6 false true false false)
      have h := PacketDetects_lifted os started H enc
      simp only [and_true] at h
      exact h)
end Go.Proofs.Yteepagijanepiaa
