/- Chapter 07: proved is that functions that the law reaches keep their contracts (streams and adverts); no conditions but those that each theorem states. -/
import Derived.Test.YtmofipnlkfhfpaaRunB
import Derived.Lib.Bytealg
import Derived.KernelRfl
set_option linter.unusedVariables false
set_option linter.unusedSimpArgs false
namespace Go.Abs.C07
open Go Go.Proofs Sp07

theorem valid_neg {l : List Int} {n : Int} (h : n < 0 ∨ 8192 < n ∨ (l.length : Int) ≠ (n + 7) / 8) : valid (l, n, ()) = false := by
  rw [Bool.eq_false_iff]
  intro k
  obtain ⟨h1, h2, h3, _⟩ := valid_iff.1 k
  simp only at h1 h2 h3
  omega
theorem shl_zero : ∀ x : Fin 256, ∀ f : Fin 8, 0 < f.val → ((x.val * 2 ^ (8 - f.val)) % 256 = 0 ↔ ∀ j : Fin 8, j.val < f.val → x.val.testBit j.val = false) := by decide +kernel
theorem tail_last {l : List Int} {n : Nat} (h1 : n ≤ 8 * l.length) (h2 : 8 * l.length < n + 8) : (∀ i, n ≤ i → bitAt l i = false) ↔ ∀ j, j < 8 * l.length - n → bitOf (l.getD (l.length - 1) 0) j = false := by
  constructor
  · intro k j hj
    have := k (8 * (l.length - 1) + (7 - j)) (by omega)
    unfold bitAt at this
    rwa [show (8 * (l.length - 1) + (7 - j)) / 8 = l.length - 1 by omega, show 7 - (8 * (l.length - 1) + (7 - j)) % 8 = j by omega] at this
  · intro k i hi
    by_cases h8 : 8 * l.length ≤ i
    · exact bitAt_ge h8
    · have := k (7 - i % 8) (by omega)
      unfold bitAt
      rwa [show i / 8 = l.length - 1 by omega]

theorem g70_ok (a0 : (List Int)) (a1 : Int) (r0 : (Ty.sl (.int .u8)).ok a0) (r1 : IntKind.i64.has a1) : g70 a0 a1 = some (Sp07.valid (a0, a1, ()), ()) := by
  obtain ⟨hl, hb⟩ := dat r0
  unfold g70
  by_cases h1 : a1 < 0
  · simp [h1, valid_neg (l := a0) (.inl h1)]
  by_cases h2 : 8192 < a1
  · simp [h1, h2, valid_neg (l := a0) (.inr (.inl h2)), GT.gt]
  have e0 : on (decide (0 ≤ a1) && decide (a1 ≤ 1099511627776)) (Int.ediv (a1 + 7) 8, ()) = some ((a1 + 7) / 8, ()) := on_true (by simp; omega)
  simp only [GT.gt, h1, h2, decide_false, decide_true, Bool.not_false, cond_true, e0, Option.bind_some, Int.ofNat_eq_natCast]
  by_cases h3 : (a0.length : Int) = (a1 + 7) / 8
  · simp only [h3, decide_true, Bool.not_true, cond_false]
    have e1 : IntKind.wrap .i64 (8 * ((a1 + 7) / 8)) = 8 * (a0.length : Int) := by rw [← h3]; exact wi64 (by omega) (by omega)
    have e2 : IntKind.wrap .i64 (8 * (a0.length : Int) - a1) = 8 * (a0.length : Int) - a1 := wi64 (by omega) (by omega)
    have hv : valid (a0, a1, ()) = true ↔ ∀ i, a1.toNat ≤ i → bitAt a0 i = false := by
      rw [valid_iff]
      exact ⟨fun k => k.2.2.2, fun k => ⟨by simp only; omega, by simp only; omega, h3, k⟩⟩
    simp only [e1, e2]
    by_cases h4 : 8 * (a0.length : Int) - a1 = 0
    · have : valid (a0, a1, ()) = true := hv.2 fun i hi => bitAt_ge (by omega)
      simp [h4, this]
    · have e3 : IntKind.wrap .i64 ((a1 + 7) / 8 - 1) = (a0.length : Int) - 1 := by rw [← h3]; exact wi64 (by omega) (by omega)
      have e4 : IntKind.wrap .i64 (8 - (8 * (a0.length : Int) - a1)) = 8 - (8 * (a0.length : Int) - a1) := wi64 (by omega) (by omega)
      have c1 : (0 : Int) ≤ (a0.length : Int) - 1 := by omega
      have c2 : (a0.length : Int) - 1 < (a1 + 7) / 8 := by omega
      have c3 : (0 : Int) ≤ 8 - (8 * (a0.length : Int) - a1) := by omega
      have e5 : min (8 - (8 * (a0.length : Int) - a1)).toNat 8 = 8 - (8 * a0.length - a1.toNat) := by omega
      simp only [h4, decide_false, Bool.not_false, cond_true, e3, e4, c1, c2, c3, decide_true, Bool.and_self, e5, pow2, wu8m, Option.bind_some]
      congr 2
      rw [tail_last (by omega) (by omega)] at hv
      have hx := bytesOk_getD hb (a0.length - 1)
      have key := shl_zero ⟨(a0.getD (a0.length - 1) 0).toNat, by omega⟩ ⟨8 * a0.length - a1.toNat, by omega⟩ (by simp only; omega)
      simp only at key
      have e6 : ((a0.length : Int) - 1).toNat = a0.length - 1 := by omega
      rw [e6]
      have e7 : (a0.getD (a0.length - 1) 0 * 2 ^ (8 - (8 * a0.length - a1.toNat)) % 256 = 0) ↔ ((a0.getD (a0.length - 1) 0).toNat * 2 ^ (8 - (8 * a0.length - a1.toNat)) % 256 = 0) := by
        rw [← toNat_mul_pow hx.1]
        have : 0 ≤ a0.getD (a0.length - 1) 0 * 2 ^ (8 - (8 * a0.length - a1.toNat)) := Int.mul_nonneg hx.1 (Int.le_of_lt (pow2_pos _))
        omega
      have : (a0.getD (a0.length - 1) 0 * 2 ^ (8 - (8 * a0.length - a1.toNat)) % 256 = 0) ↔ valid (a0, a1, ()) = true := by
        rw [e7, key, hv]
        constructor
        · intro k j hj
          rw [bitOf_testBit hx.1]
          exact k ⟨j, by omega⟩ hj
        · intro k j hj
          rw [← bitOf_testBit hx.1]
          exact k j.val hj
      by_cases hvv : valid (a0, a1, ()) = true
      · rw [hvv]; exact decide_eq_true (this.2 hvv)
      · rw [Bool.not_eq_true] at hvv
        rw [hvv]; exact decide_eq_false fun k => by rw [this.1 k] at hvv; cases hvv
  · simp [h3, valid_neg (l := a0) (.inr (.inr h3))]

open Classical in
theorem g50_loop (a0 : List Int) (a1 : Int) (h1 : 0 ≤ a1) (h2 : a1 ≤ 8 * (a0.length : Int)) (hl : a0.length ≤ 140737488355328) :
    Loop (g50_s0 a0) (a1, ()) = some (if ∀ k, a1.toNat ≤ k → bitAt a0 k = false then (false, (false, ()), ()) else (true, (false, ()), ())) := by
  refine Loop_inv (fun v : Int × Unit => 0 ≤ v.1 ∧ v.1 ≤ 8 * (a0.length : Int)) (fun v : Int × Unit => (8 * (a0.length : Int) - v.1).toNat)
    (fun v : Int × Unit => if ∀ k, v.1.toNat ≤ k → bitAt a0 k = false then (false, (false, ()), ()) else (true, (false, ()), ())) ?_ (v := (a1, ())) ⟨h1, h2⟩
  rintro ⟨i, ⟨⟩⟩ ⟨k1, k2⟩
  simp only at k1 k2
  have e1 : IntKind.wrap .i64 (8 * (a0.length : Int)) = 8 * (a0.length : Int) := wi64 (by omega) (by omega)
  have e2 : IntKind.wrap .i64 (i + 1) = i + 1 := wi64 (by omega) (by omega)
  unfold g50_s0
  simp only [Int.ofNat_eq_natCast, e1, e2]
  by_cases h3 : i < 8 * (a0.length : Int)
  · have e0 : on (decide (0 ≤ i) && decide (i < 8 * (a0.length : Int))) (b2i (bitAt a0 i.toNat), ()) = some (b2i (bitAt a0 i.toNat), ()) := on_true (by simp [k1, h3])
    simp only [h3, k1, decide_true, cond_true, Bool.and_self, on_true, Option.bind_some]
    cases hbit : bitAt a0 i.toNat with
    | true =>
      left
      have : ¬ ∀ k, i.toNat ≤ k → bitAt a0 k = false := fun k => by rw [k i.toNat (Nat.le_refl _)] at hbit; cases hbit
      rw [if_neg this]
      rfl
    | false =>
      right
      refine ⟨(i + 1, ()), rfl, ⟨by simp only; omega, by simp only; omega⟩, by simp only; omega, ?_⟩
      have : (∀ k, (i + 1).toNat ≤ k → bitAt a0 k = false) ↔ (∀ k, i.toNat ≤ k → bitAt a0 k = false) := by
        constructor
        · intro k j hj
          by_cases h : j = i.toNat
          · subst h; exact hbit
          · exact k j (by omega)
        · intro k j hj; exact k j (by omega)
      simp only [this]
  · left
    have : ∀ k, i.toNat ≤ k → bitAt a0 k = false := fun k hk => bitAt_ge (by omega)
    simp only [h3, decide_false, cond_false, if_pos this]

theorem g50_ok (a0 : (List Int)) (a1 : Int) (r0 : (Ty.sl (.int .u8)).ok a0) (r1 : IntKind.i64.has a1) : g50 a0 a1 = some (Sp07.valid (a0, a1, ()), ()) := by
  obtain ⟨hl, hb⟩ := dat r0
  unfold g50
  by_cases h1 : a1 < 0
  · simp [h1, valid_neg (l := a0) (.inl h1)]
  by_cases h2 : 8192 < a1
  · simp [h1, h2, valid_neg (l := a0) (.inr (.inl h2)), GT.gt]
  have e1 : IntKind.wrap .i64 (a1 + 7) = a1 + 7 := wi64 (by omega) (by omega)
  have e2 : Int.tdiv (a1 + 7) 8 = (a1 + 7) / 8 := tdiv_nn (by omega)
  have e3 : IntKind.wrap .i64 ((a1 + 7) / 8) = (a1 + 7) / 8 := wi64 (by omega) (by omega)
  simp only [GT.gt, h1, h2, decide_false, Bool.not_false, cond_true, e1, e2, e3, Option.bind_some, Int.ofNat_eq_natCast]
  by_cases h3 : (a0.length : Int) = (a1 + 7) / 8
  · have hv : valid (a0, a1, ()) = true ↔ ∀ i, a1.toNat ≤ i → bitAt a0 i = false := by
      rw [valid_iff]
      exact ⟨fun k => k.2.2.2, fun k => ⟨by simp only; omega, by simp only; omega, h3, k⟩⟩
    rw [g50_loop a0 a1 (by omega) (by omega) hl]
    simp only [h3, decide_true, Bool.not_true, cond_false, Option.bind_some]
    by_cases h4 : ∀ i, a1.toNat ≤ i → bitAt a0 i = false
    · rw [if_pos h4, hv.2 h4]; rfl
    · have : valid (a0, a1, ()) = false := by rw [Bool.eq_false_iff]; exact fun k => h4 (hv.1 k)
      rw [if_neg h4, this]; rfl
  · simp [h3, valid_neg (l := a0) (.inr (.inr h3))]

theorem or_byte {x y : Int} (h1 : 0 ≤ x) (h2 : x < 256) (h3 : 0 ≤ y) (h4 : y < 256) : IntKind.wrap .u8 ((BitVec.or (BitVec.ofInt 8 x) (BitVec.ofInt 8 y)).toNat : Int) = ((x.toNat ||| y.toNat : Nat) : Int) ∧ x.toNat ||| y.toNat < 256 := by
  have k : x.toNat ||| y.toNat < 2 ^ 8 := Nat.or_lt_two_pow (by omega) (by omega)
  rw [bvor h1 (by omega) h3 (by omega)]
  exact ⟨wu8 (by omega) (by omega), k⟩
theorem bitOf_or {x y : Int} (h1 : 0 ≤ x) (h3 : 0 ≤ y) (j : Nat) : bitOf ((x.toNat ||| y.toNat : Nat) : Int) j = (bitOf x j || bitOf y j) := by
  rw [bitOf_testBit (by omega), bitOf_testBit h1, bitOf_testBit h3, Int.toNat_natCast, Nat.testBit_or]
theorem bitOf_pow (m j : Nat) : bitOf (2 ^ m) j = decide (m = j) := by
  rw [bitOf_testBit (Int.le_of_lt (pow2_pos _)), pow_cast, Int.toNat_natCast, Nat.testBit_two_pow]

theorem g52_ok (a0 : (List Int)) (a1 : Int) (a2 : Int) (r0 : (Ty.sl (.int .u8)).ok a0) (r1 : IntKind.i64.has a1) (r2 : IntKind.u64.has a2) (h : (Sp07.valid (a0, a1, ())) = true) : g52 a0 a1 a2 = some (Sp07.enc (Sp07.bits (a0, a1, ()) ++ [decide (a2 = 1)]), ()) := by
  obtain ⟨hl, hb⟩ := dat r0
  obtain ⟨v1, v2, v3, v4⟩ := valid_iff.1 h
  simp only at v1 v2 v3 v4
  have e1 : Int.tdiv a1 8 = a1 / 8 := tdiv_nn v1
  have e2 : Int.tmod a1 8 = a1 % 8 := tmod_nn v1
  have e3 : IntKind.wrap .i64 (a1 / 8) = a1 / 8 := wi64 (by omega) (by omega)
  have e4 : IntKind.wrap .i64 (7 - a1 % 8) = 7 - a1 % 8 := wi64 (by omega) (by omega)
  have e5 : IntKind.wrap .u64 (7 - a1 % 8) = 7 - a1 % 8 := wu64 (by omega) (by omega)
  have e6 : min (7 - a1 % 8).toNat 8 = (7 - a1 % 8).toNat := by omega
  have e7 : IntKind.wrap .i64 (a1 + 1) = a1 + 1 := wi64 (by omega) (by omega)
  have p1 : (2 : Int) ^ (7 - a1 % 8).toNat < 256 := by
    have : (2 : Nat) ^ (7 - a1 % 8).toNat < 2 ^ 8 := Nat.pow_lt_pow_right (by omega) (by omega)
    rw [pow_cast]; omega
  have p0 := pow2_pos (7 - a1 % 8).toNat
  have e8 : IntKind.wrap .u8 (1 * 2 ^ (7 - a1 % 8).toNat) = 2 ^ (7 - a1 % 8).toNat := by rw [Int.one_mul]; exact wu8 (by omega) p1
  unfold g52
  rw [ble_t (by omega : (0 + a0.length) * 1 ≤ 140737488355328), cond_true]
  obtain ⟨l1, hX, l2, l3, l4⟩ : ∃ l1, (bif decide (Int.tmod a1 8 = 0) then (bif Nat.ble ((([] ++ a0).length + 1) * 1) 140737488355328 then some (([] ++ a0) ++ ((0 : Int) :: []), ()) else none) else some ([] ++ a0, ())) = some (l1, ()) ∧
      l1.length = (a1 / 8).toNat + 1 ∧ bytesOk l1 ∧ ∀ i, bitAt l1 i = bitAt a0 i := by
    rw [e2, List.nil_append, ble_t (by omega : (a0.length + 1) * 1 ≤ 140737488355328)]
    by_cases h8 : a1 % 8 = 0
    · exact ⟨a0 ++ [0], by simp [h8], by simp; omega, bytesOk_app hb (bytesOk_one (by omega)), bitAt_app0 a0⟩
    · exact ⟨a0, by simp [h8], by omega, hb, fun _ => rfl⟩
  rw [hX, Option.bind_some]
  have c1 : (0 : Int) ≤ a1 / 8 := by omega
  have c2 : a1 / 8 < (l1.length : Int) := by omega
  have c3 : (0 : Int) ≤ 7 - a1 % 8 := by omega
  have c4 : Nat.blt (a1 / 8).toNat l1.length = true := blt_t (by omega)
  have hx := bytesOk_getD l3 (a1 / 8).toNat
  obtain ⟨o1, o2⟩ := or_byte hx.1 hx.2 (Int.le_of_lt p0) p1
  simp only [e1, e2, e3, e4, e5, e6, e7, e8, pow2, c1, c2, c3, c4, decide_true, cond_true, Bool.and_self, Int.ofNat_eq_natCast, o1]
  have h0 : ∀ i, (Sp07.bits (a0, a1, ()) ++ [decide (a2 = 1)]).getD i false = if i < a1.toNat then bitAt a0 i else (decide (i = a1.toNat) && decide (a2 = 1)) := by
    intro i
    rw [getD_append, bits_length, bits_getD]
    simp only
    split
    · rfl
    · by_cases hi : i = a1.toNat
      · subst hi; simp
      · rw [getD_ge (by simp; omega)]; simp [hi]
  by_cases h1 : a2 = 1
  · simp only [h1, decide_true, cond_true, Option.bind_some]
    congr 2
    refine eq_enc (bytesOk_set l3 (by omega)) (by simp [bits_length]; omega) (by simp [l2]; omega) fun i hi => ?_
    rw [List.length_set] at hi
    rw [bitAt_set (by omega), bitOf_or hx.1 (Int.le_of_lt p0), bitOf_pow]
    have := h0 i
    rw [h1] at this
    simp only [decide_true, Bool.and_true] at this
    rw [this]
    by_cases hi1 : (a1 / 8).toNat = i / 8
    · rw [if_pos hi1]
      have hb1 : bitOf (l1.getD (a1 / 8).toNat 0) (7 - i % 8) = bitAt a0 i := by
        rw [← l4 i]; unfold bitAt; rw [hi1]
      rw [hb1]
      by_cases hi2 : i < a1.toNat
      · rw [if_pos hi2]
        have : ¬ (7 - a1 % 8).toNat = 7 - i % 8 := by omega
        simp [this]
      · rw [if_neg hi2, v4 i (by omega), Bool.false_or]
        congr 1; apply propext; omega
    · rw [if_neg hi1, l4]
      by_cases hi2 : i < a1.toNat
      · rw [if_pos hi2]
      · rw [if_neg hi2, v4 i (by omega)]
        symm; exact decide_eq_false (by omega)
  · simp only [h1, decide_false, cond_false, Option.bind_some]
    congr 2
    refine eq_enc l3 (by simp [bits_length]; omega) (by rw [l2]; omega) fun i hi => ?_
    have := h0 i
    simp only [h1, decide_false, Bool.and_false] at this
    rw [this, l4]
    by_cases hi2 : i < a1.toNat
    · rw [if_pos hi2]
    · rw [if_neg hi2, v4 i (by omega)]

theorem g92_ok (a0 : (List Int)) (a1 : Int) (r0 : (Ty.sl (.int .u8)).ok a0) (r1 : IntKind.i64.has a1) : g92 a0 a1 = some ((a0, a1, ()), ()) := by
  obtain ⟨hl, hb⟩ := dat r0
  unfold g92
  rw [ble_t (by omega), cond_true]
end Go.Abs.C07

namespace Go.Abs.C07
open Go Go.Proofs Sp07

theorem bitOf_mulpow {p : Nat} (m j : Nat) : bitOf ((p : Int) * 2 ^ m) j = (decide (m ≤ j) && p.testBit (j - m)) := by
  have h : 0 ≤ (p : Int) * 2 ^ m := Int.mul_nonneg (by omega) (Int.le_of_lt (pow2_pos m))
  rw [bitOf_testBit h, toNat_mul_pow (by omega), Int.toNat_natCast, Nat.testBit_mul_two_pow]

theorem chunk {l1 : List Int} {n b k f V : Nat} {bs : List Bool} (h1 : bytesOk l1) (hlen : 8 * l1.length = b + f) (hf : f ≤ 8) (hk : k ≤ f) (hn : k ≤ n) (hl : 0 < l1.length) (hbs : bs.length = b)
    (hb : ∀ i, bitAt l1 i = bs.getD i false) (hk8 : 0 < k) :
    ((l1.set (l1.length - 1) (((l1.getD (l1.length - 1) 0).toNat ||| ((((V / 2 ^ (n - k)) % 2 ^ k : Nat) : Int) * 2 ^ (f - k)).toNat : Nat) : Int), ((b + k : Nat) : Int), ()) : S) = Sp07.enc (bs ++ (vbits V n).take k) := by
  have hx := bytesOk_getD h1 (l1.length - 1)
  have hp : (V / 2 ^ (n - k)) % 2 ^ k < 2 ^ k := Nat.mod_lt _ (Nat.pos_of_ne_zero (by have := Nat.two_pow_pos k; omega))
  have hp2 : (V / 2 ^ (n - k)) % 2 ^ k * 2 ^ (f - k) < 2 ^ f := by
    have : 2 ^ f = 2 ^ k * 2 ^ (f - k) := by rw [← Nat.pow_add]; congr 1; omega
    rw [this]
    exact Nat.mul_lt_mul_of_pos_right hp (Nat.two_pow_pos _)
  have hf8 : 2 ^ f ≤ 2 ^ 8 := Nat.pow_le_pow_right (by omega) hf
  have hy0 : 0 ≤ (((V / 2 ^ (n - k)) % 2 ^ k : Nat) : Int) * 2 ^ (f - k) := Int.mul_nonneg (by omega) (Int.le_of_lt (pow2_pos _))
  have hyN : ((((V / 2 ^ (n - k)) % 2 ^ k : Nat) : Int) * 2 ^ (f - k)).toNat = (V / 2 ^ (n - k)) % 2 ^ k * 2 ^ (f - k) := by
    rw [toNat_mul_pow (by omega), Int.toNat_natCast]
  have hor : (l1.getD (l1.length - 1) 0).toNat ||| ((((V / 2 ^ (n - k)) % 2 ^ k : Nat) : Int) * 2 ^ (f - k)).toNat < 2 ^ 8 := Nat.or_lt_two_pow (by omega) (by rw [hyN]; omega)
  refine eq_enc (bytesOk_set h1 (by omega)) (by simp [hbs, vbits_length]; omega) (by simp; omega) fun i hi => ?_
  rw [List.length_set] at hi
  rw [bitAt_set (by omega), bitOf_or hx.1 hy0, bitOf_mulpow, getD_append, hbs]
  by_cases hi1 : l1.length - 1 = i / 8
  · rw [if_pos hi1]
    have hb1 : bitOf (l1.getD (l1.length - 1) 0) (7 - i % 8) = bs.getD i false := by
      rw [← hb i]; unfold bitAt; rw [hi1]
    rw [hb1]
    by_cases hi2 : i < b
    · rw [if_pos hi2]
      have : ((V / 2 ^ (n - k)) % 2 ^ k).testBit (7 - i % 8 - (f - k)) = false := by
        rw [Nat.testBit_mod_two_pow]
        have : ¬ 7 - i % 8 - (f - k) < k := by omega
        simp [this]
      rw [this, Bool.and_false, Bool.or_false]
    · rw [if_neg hi2, getD_ge (by omega : bs.length ≤ i), Bool.false_or]
      have hv := vbits_getD V n (i - b)
      by_cases hi3 : i - b < k
      · rw [if_pos (by omega)] at hv
        have ht : ((vbits V n).take k).getD (i - b) false = (vbits V n).getD (i - b) false := by
          simp [List.getD_eq_getElem?_getD, List.getElem?_take, hi3]
        rw [ht, hv, Nat.testBit_mod_two_pow, Nat.testBit_div_two_pow]
        have c1 : f - k ≤ 7 - i % 8 := by omega
        have c2 : 7 - i % 8 - (f - k) < k := by omega
        simp only [c1, c2, decide_true, Bool.true_and]
        congr 1; omega
      · have ht : ((vbits V n).take k).getD (i - b) false = false := getD_ge (by simp [vbits_length]; omega)
        rw [ht]
        have : ¬ f - k ≤ 7 - i % 8 := by omega
        simp [this]
  · rw [if_neg hi1, hb]
    rw [if_pos (by omega)]

theorem and_mask {V : Int} {n k : Nat} (h1 : 0 ≤ V) (h2 : V < 18446744073709551616) (hk : k ≤ 8) :
    (BitVec.and (BitVec.ofInt 64 (V / 2 ^ n)) (BitVec.ofInt 64 (IntKind.wrap .u64 (IntKind.wrap .u64 (1 * 2 ^ k) - 1)))).toNat = (V.toNat / 2 ^ n) % 2 ^ k := by
  have k1 : 0 ≤ V / 2 ^ n := Int.ediv_nonneg h1 (Int.le_of_lt (pow2_pos n))
  have k2 : V / 2 ^ n ≤ V := Int.ediv_le_self _ h1
  have p0 := pow2_pos k
  have p1 : (2 : Int) ^ k ≤ 256 := by
    have : (2 : Nat) ^ k ≤ 2 ^ 8 := Nat.pow_le_pow_right (by omega) hk
    rw [pow_cast]; omega
  rw [Int.one_mul, wu64 (n := 2 ^ k) (by omega) (by omega), wu64 (by omega) (by omega), bvand k1 (by omega) (by omega) (by omega), toNat_div_pow h1]
  have : ((2 : Int) ^ k - 1).toNat = 2 ^ k - 1 := by rw [pow_cast]; omega
  rw [this, Nat.and_two_pow_sub_one_eq_mod]

theorem g93_step (V : Int) (l : List Int) (b n : Int) (hv0 : 0 ≤ V) (hv1 : V < 18446744073709551616) (hb : bytesOk l) (hv : valid (l, b, ()) = true) (hn : 0 < n) (hn2 : n ≤ 64) (hbn : b + n ≤ 8192) :
    ∃ k : Nat, 0 < k ∧ k ≤ n.toNat ∧ g93_s0 V ((l, b, ()), n, ()) = some (.inl (Sp07.enc (Sp07.bits (l, b, ()) ++ (vbits V.toNat n.toNat).take k), n - k, ())) := by
  obtain ⟨v1, v2, v3, v4⟩ := valid_iff.1 hv
  simp only at v1 v2 v3 v4
  have e1 : IntKind.wrap .i64 (8 * (l.length : Int)) = 8 * (l.length : Int) := wi64 (by omega) (by omega)
  have e2 : IntKind.wrap .i64 (8 * (l.length : Int) - b) = 8 * (l.length : Int) - b := wi64 (by omega) (by omega)
  unfold g93_s0
  simp only [GT.gt, hn, decide_true, cond_true, Int.ofNat_eq_natCast, e1, e2]
  obtain ⟨l1, f, hX, l2, l3, l4, f1, f2⟩ : ∃ (l1 : List Int) (f : Nat), (bif decide (8 * (l.length : Int) - b = 0) then (bif Nat.ble ((l.length + 1) * 1) 140737488355328 then some ((l ++ ((0 : Int) :: []), b, ()), (8 : Int), ()) else none) else some ((l, b, ()), 8 * (l.length : Int) - b, ())) = some ((l1, b, ()), (f : Int), ()) ∧
      8 * l1.length = b.toNat + f ∧ bytesOk l1 ∧ (∀ i, bitAt l1 i = bitAt l i) ∧ 0 < f ∧ f ≤ 8 := by
    rw [ble_t (by omega : (l.length + 1) * 1 ≤ 140737488355328)]
    by_cases h8 : 8 * (l.length : Int) - b = 0
    · exact ⟨l ++ [0], 8, by simp [h8], by simp; omega, bytesOk_app hb (bytesOk_one (by omega)), bitAt_app0 l, by omega, by omega⟩
    · exact ⟨l, 8 * l.length - b.toNat, by simp [h8]; omega, by omega, hb, fun _ => rfl, by omega, by omega⟩
  rw [hX]
  simp only [Option.bind_some]
  obtain ⟨k, hk, k1, k2, k3⟩ : ∃ k : Nat, (bif decide ((f : Int) < n) then (f : Int) else n) = (k : Int) ∧ 0 < k ∧ k ≤ n.toNat ∧ k ≤ f := by
    by_cases hfn : (f : Int) < n
    · exact ⟨f, by simp [hfn], f1, by omega, Nat.le_refl _⟩
    · exact ⟨n.toNat, by simp [hfn]; omega, by omega, Nat.le_refl _, by omega⟩
  refine ⟨k, k1, k2, ?_⟩
  rw [hk]
  have e3 : IntKind.wrap .i64 (n - k) = n - k := wi64 (by omega) (by omega)
  have e4 : IntKind.wrap .i64 ((l1.length : Int) - 1) = (l1.length : Int) - 1 := wi64 (by omega) (by omega)
  have e5 : IntKind.wrap .i64 ((f : Int) - k) = (f : Int) - k := wi64 (by omega) (by omega)
  have e6 : IntKind.wrap .i64 (b + k) = b + k := wi64 (by omega) (by omega)
  have c1 : (0 : Int) ≤ n - k := by omega
  have c2 : (0 : Int) ≤ (k : Int) := by omega
  have c3 : (0 : Int) ≤ (l1.length : Int) - 1 := by omega
  have c4 : (l1.length : Int) - 1 < (l1.length : Int) := by omega
  have c5 : (0 : Int) ≤ (f : Int) - k := by omega
  have n1 : ((l1.length : Int) - 1).toNat = l1.length - 1 := by omega
  have c6 : Nat.blt (l1.length - 1) l1.length = true := blt_t (by omega)
  have m1 : min (n - (k : Int)).toNat 64 = n.toNat - k := by omega
  have m2 : min (k : Int).toNat 64 = k := by omega
  have m3 : min ((f : Int) - k).toNat 64 = f - k := by omega
  simp only [e3, e4, e5, e6, c1, c2, c3, c4, c5, n1, c6, m1, m2, m3, decide_true, cond_true, Bool.and_self, pow2, fdiv_pow]
  rw [and_mask hv0 hv1 (by omega)]
  have hp : (V.toNat / 2 ^ (n.toNat - k)) % 2 ^ k < 2 ^ k := Nat.mod_lt _ (Nat.pos_of_ne_zero (by have := Nat.two_pow_pos k; omega))
  have hk8 : 2 ^ k ≤ 2 ^ 8 := Nat.pow_le_pow_right (by omega) (by omega)
  have hp2 : (V.toNat / 2 ^ (n.toNat - k)) % 2 ^ k * 2 ^ (f - k) < 2 ^ f := by
    have : 2 ^ f = 2 ^ k * 2 ^ (f - k) := by rw [← Nat.pow_add]; congr 1; omega
    rw [this]
    exact Nat.mul_lt_mul_of_pos_right hp (Nat.two_pow_pos _)
  have hf8 : 2 ^ f ≤ 2 ^ 8 := Nat.pow_le_pow_right (by omega) f2
  have w1 : IntKind.wrap .u64 ((V.toNat / 2 ^ (n.toNat - k) % 2 ^ k : Nat) : Int) = ((V.toNat / 2 ^ (n.toNat - k) % 2 ^ k : Nat) : Int) := wu64 (by omega) (by omega)
  have hy : ((V.toNat / 2 ^ (n.toNat - k) % 2 ^ k : Nat) : Int) * 2 ^ (f - k) = ((V.toNat / 2 ^ (n.toNat - k) % 2 ^ k * 2 ^ (f - k) : Nat) : Int) := by rw [pow_cast]; simp
  have w2 : IntKind.wrap .u64 (((V.toNat / 2 ^ (n.toNat - k) % 2 ^ k : Nat) : Int) * 2 ^ (f - k)) = ((V.toNat / 2 ^ (n.toNat - k) % 2 ^ k : Nat) : Int) * 2 ^ (f - k) := by rw [hy]; exact wu64 (by omega) (by omega)
  have w3 : IntKind.wrap .u8 (((V.toNat / 2 ^ (n.toNat - k) % 2 ^ k : Nat) : Int) * 2 ^ (f - k)) = ((V.toNat / 2 ^ (n.toNat - k) % 2 ^ k : Nat) : Int) * 2 ^ (f - k) := by rw [hy]; exact wu8 (by omega) (by omega)
  rw [w1, w2, w3]
  have hx := bytesOk_getD l3 (l1.length - 1)
  obtain ⟨o1, o2⟩ := or_byte (x := l1.getD (l1.length - 1) 0) (y := ((V.toNat / 2 ^ (n.toNat - k) % 2 ^ k : Nat) : Int) * 2 ^ (f - k)) hx.1 hx.2 (by rw [hy]; omega) (by rw [hy]; omega)
  rw [o1]
  congr 3
  have := chunk (n := n.toNat) (V := V.toNat) (bs := Sp07.bits (l, b, ())) l3 l2 f2 k3 k2 (by omega) (bits_length _) (fun i => by
    rw [bits_getD, l4]
    simp only
    split
    · rfl
    · exact v4 i (by omega)) k1
  rw [← this]
  congr 2
  omega

theorem vbits0 (v : Nat) : vbits v 0 = [] := rfl
theorem write_loop (V : Int) (hv0 : 0 ≤ V) (hv1 : V < 18446744073709551616) (s : S) (n : Int) (hb : bytesOk s.1) (hv : valid s = true) (h0 : 0 ≤ n) (hn2 : n ≤ 64) (hbn : s.2.1 + n ≤ 8192) :
    Loop (g93_s0 V) (s, n, ()) = some (Sp07.enc (Sp07.bits s ++ vbits V.toNat n.toNat), ()) := by
  refine Loop_inv (fun v : S × Int × Unit => bytesOk v.1.1 ∧ valid v.1 = true ∧ 0 ≤ v.2.1 ∧ v.2.1 ≤ 64 ∧ v.1.2.1 + v.2.1 ≤ 8192) (fun v : S × Int × Unit => v.2.1.toNat)
    (fun v : S × Int × Unit => (Sp07.enc (Sp07.bits v.1 ++ vbits V.toNat v.2.1.toNat), ())) ?_ (v := (s, n, ())) ⟨hb, hv, h0, hn2, hbn⟩
  rintro ⟨⟨l, b, ⟨⟩⟩, n, ⟨⟩⟩ ⟨i1, i2, i3, i4, i5⟩
  simp only at i1 i2 i3 i4 i5
  by_cases hn : 0 < n
  · right
    obtain ⟨k, k1, k2, k3⟩ := g93_step V l b n hv0 hv1 i1 i2 hn i4 i5
    obtain ⟨v1, v2, v3, v4⟩ := valid_iff.1 i2
    simp only at v1 v2 v3 v4
    have hlen : (Sp07.bits (l, b, ()) ++ (vbits V.toNat n.toNat).take k).length = b.toNat + k := by simp [bits_length, vbits_length]; omega
    refine ⟨_, k3, ⟨enc_ok _, valid_enc (by omega), by simp only; omega, by simp only; omega, ?_⟩, by simp only; omega, ?_⟩
    · show ((Sp07.bits (l, b, ()) ++ (vbits V.toNat n.toNat).take k).length : Int) + (n - k) ≤ 8192
      rw [hlen]; omega
    · simp only
      rw [bits_enc, show (n - (k : Int)).toNat = n.toNat - k by omega, List.append_assoc, ← vbits_split k2]
  · left
    have : n = 0 := by omega
    subst this
    simp only [Int.toNat_zero, vbits0, List.append_nil]
    rw [enc_bits i2 i1]
    rfl

theorem g93_ok (a0 : (List Int)) (a1 : Int) (a2 : Int) (a3 : Int) (r0 : (Ty.sl (.int .u8)).ok a0) (r1 : IntKind.i64.has a1) (r2 : IntKind.u64.has a2) (r3 : IntKind.i64.has a3) (h : (Sp07.valid (a0, a1, ()) && decide (0 ≤ a3) && decide (a3 ≤ 64) && decide (a1 + a3 ≤ 8192)) = true) : g93 a0 a1 a2 a3 = some ((), Sp07.enc (Sp07.bits (a0, a1, ()) ++ Sp07.vbits a2.toNat a3.toNat)) := by
  simp only [Bool.and_eq_true, decide_eq_true_eq] at h
  obtain ⟨hl, hb⟩ := dat r0
  have hv := has_u64 r2
  unfold g93
  rw [write_loop a2 hv.1 hv.2 (a0, a1, ()) a3 hb h.1.1.1 h.1.1.2 h.1.2 h.2]
  rfl

theorem or_snoc {a : Nat} {b : Bool} (h : a < 9223372036854775808) : IntKind.wrap .u64 ((BitVec.or (BitVec.ofInt 64 (IntKind.wrap .u64 ((a : Int) * 2))) (BitVec.ofInt 64 (b2i b))).toNat : Int) = ((2 * a + b.toNat : Nat) : Int) := by
  have hb := b2i_bound b
  rw [wu64 (n := (a : Int) * 2) (by omega) (by omega), bvor (by omega) (by omega) (by omega) (by omega)]
  have e1 : ((a : Int) * 2).toNat = 2 * a := by omega
  have e2 : (b2i b).toNat = b.toNat := by cases b <;> rfl
  have e3 : 2 * a ||| b.toNat = 2 * a + b.toNat := by
    have := Nat.two_pow_add_eq_or_of_lt (i := 1) (b := b.toNat) (by cases b <;> decide) a
    rw [Nat.pow_one] at this
    exact this.symm
  rw [e1, e2, e3]
  have : b.toNat ≤ 1 := by cases b <;> decide
  exact wu64 (by omega) (by omega)

theorem g95_ok (a0 : (List Int)) (a1 : Int) (a2 : Int) (a3 : Int) (r0 : (Ty.sl (.int .u8)).ok a0) (r1 : IntKind.i64.has a1) (r2 : IntKind.i64.has a2) (r3 : IntKind.i64.has a3) (h : (decide (0 ≤ a2) && decide (0 ≤ a3) && decide (a3 ≤ 64) && decide (a2 + a3 ≤ 8 * (a0.length : Int))) = true) : g95 a0 a1 a2 a3 = some ((Sp07.valOf (Sp07.bitsR a0 a2.toNat a3.toNat) : Int), ()) := by
  simp only [Bool.and_eq_true, decide_eq_true_eq] at h
  obtain ⟨⟨⟨h1, h2⟩, h3⟩, h4⟩ := h
  obtain ⟨hl, hb⟩ := dat r0
  have key : Loop (g95_s0 a0 a1 a2 a3) ((0 : Int), (0 : Int), ()) = some (((Sp07.valOf (bitsR a0 a2.toNat a3.toNat) : Nat) : Int), ()) := by
    refine Loop_inv (fun v : Int × Int × Unit => 0 ≤ v.1 ∧ v.1 ≤ a3 ∧ v.2.1 = ((Sp07.valOf (bitsR a0 a2.toNat v.1.toNat) : Nat) : Int)) (fun v : Int × Int × Unit => (a3 - v.1).toNat)
      (fun _ => (((Sp07.valOf (bitsR a0 a2.toNat a3.toNat) : Nat) : Int), ())) ?_ (v := (0, 0, ())) ⟨by simp, h2, rfl⟩
    rintro ⟨i, x, ⟨⟩⟩ ⟨k1, k2, k3⟩
    simp only at k1 k2 k3
    subst k3
    have e1 : IntKind.wrap .i64 (a2 + i) = a2 + i := wi64 (by omega) (by omega)
    have e2 : IntKind.wrap .i64 (i + 1) = i + 1 := wi64 (by omega) (by omega)
    unfold g95_s0
    simp only [Int.ofNat_eq_natCast, e1, e2]
    by_cases h5 : i < a3
    · right
      have c1 : (0 : Int) ≤ a2 + i := by omega
      have c2 : a2 + i < 8 * (a0.length : Int) := by omega
      have hlt := valOf_lt (bitsR a0 a2.toNat i.toNat)
      rw [bitsR_length] at hlt
      have hp : 2 ^ i.toNat ≤ 2 ^ 63 := Nat.pow_le_pow_right (by omega) (by omega)
      simp only [h5, c1, c2, decide_true, cond_true, Bool.and_self, on_true, Option.bind_some]
      rw [or_snoc (by omega)]
      refine ⟨_, rfl, ⟨by simp only; omega, by simp only; omega, ?_⟩, by simp only; omega, trivial⟩
      simp only
      rw [show (i + 1).toNat = i.toNat + 1 by omega, bitsR_snoc, valOf_snoc, show (a2 + i).toNat = a2.toNat + i.toNat by omega]
    · left
      have : i = a3 := by omega
      subst this
      simp only [h5, decide_false, cond_false]
  unfold g95
  rw [key]
  rfl
end Go.Abs.C07

namespace Go.Abs.C07
open Go Go.Proofs Sp07

theorem bitsR0 (l : List Int) (i : Nat) : bitsR l i 0 = [] := rfl
theorem copy_loop (l : List Int) (x : Int) (e : Int) (hl : l.length ≤ 140737488355328) (s : S) (i : Int) (hb : bytesOk s.1) (hv : valid s = true) (h0 : 0 ≤ i) (he : e ≤ 8 * (l.length : Int)) (hbn : s.2.1 + (e - i) ≤ 8192) :
    Loop (g73_s0 l x e) (i, s, ()) = some (Sp07.enc (Sp07.bits s ++ bitsR l i.toNat (e - i).toNat), ()) := by
  refine Loop_inv (fun v : Int × S × Unit => bytesOk v.2.1.1 ∧ valid v.2.1 = true ∧ 0 ≤ v.1 ∧ v.2.1.2.1 + (e - v.1) ≤ 8192) (fun v : Int × S × Unit => (e - v.1).toNat)
    (fun v : Int × S × Unit => (Sp07.enc (Sp07.bits v.2.1 ++ bitsR l v.1.toNat (e - v.1).toNat), ())) ?_ (v := (i, s, ())) ⟨hb, hv, h0, hbn⟩
  rintro ⟨i, s, ⟨⟩⟩ ⟨i1, i2, i3, i4⟩
  simp only at i1 i2 i3 i4
  obtain ⟨v1, v2, v3, v4⟩ := valid_iff.1 i2
  by_cases hi : i < e
  · right
    have e1 : IntKind.wrap .i64 (e - i) = e - i := wi64 (by omega) (by omega)
    unfold g73_s0
    simp only [hi, decide_true, cond_true, Int.ofNat_eq_natCast, e1]
    obtain ⟨k, hk, k1, k2, k3⟩ : ∃ k : Nat, (bif decide (e - i < 64) then e - i else (64 : Int)) = (k : Int) ∧ 0 < k ∧ k ≤ 64 ∧ (k : Int) ≤ e - i := by
      by_cases h : e - i < 64
      · exact ⟨(e - i).toNat, by simp [h]; omega, by omega, by omega, by omega⟩
      · exact ⟨64, by simp [h], by omega, by omega, by omega⟩
    rw [hk]
    have c1 : (0 : Int) ≤ (k : Int) := by omega
    have c2 : (k : Int) ≤ 64 := by omega
    have c3 : i + (k : Int) ≤ 8 * (l.length : Int) := by omega
    have c4 : s.2.1 + (k : Int) ≤ 8192 := by omega
    have e2 : IntKind.wrap .i64 (i + k) = i + k := wi64 (by omega) (by omega)
    simp only [i3, c1, c2, c3, c4, i2, decide_true, Bool.and_self, on_true, Option.bind_some, e2, Int.toNat_natCast]
    have hvb : vbits (Sp07.valOf (bitsR l i.toNat k)) k = bitsR l i.toNat k := by
      have := vbits_valOf (bitsR l i.toNat k)
      rwa [bitsR_length] at this
    rw [hvb]
    have hlen : (Sp07.bits s ++ bitsR l i.toNat k).length = s.2.1.toNat + k := by simp [bits_length, bitsR_length]
    refine ⟨_, rfl, ⟨enc_ok _, valid_enc (by omega), by simp only; omega, ?_⟩, by simp only; omega, ?_⟩
    · show ((Sp07.bits s ++ bitsR l i.toNat k).length : Int) + (e - (i + k)) ≤ 8192
      rw [hlen]; omega
    · simp only
      rw [bits_enc, List.append_assoc, show (i + (k : Int)).toNat = i.toNat + k by omega, ← bitsR_add]
      congr 4; omega
  · left
    unfold g73_s0
    simp only [hi, decide_false, cond_false]
    rw [show (e - i).toNat = 0 by omega, bitsR0, List.append_nil, enc_bits i2 i1]

theorem g73_ok (a0 : (List Int)) (a1 : Int) (a2 : (List Int)) (a3 : Int) (a4 : Int) (a5 : Int) (r0 : (Ty.sl (.int .u8)).ok a0) (r1 : IntKind.i64.has a1) (r2 : (Ty.sl (.int .u8)).ok a2) (r3 : IntKind.i64.has a3) (r4 : IntKind.i64.has a4) (r5 : IntKind.i64.has a5) (h : (Sp07.valid (a0, a1, ()) && decide (0 ≤ a4) && decide (a5 ≤ 8 * (a2.length : Int)) && decide (a1 + (a5 - a4) ≤ 8192)) = true) : g73 a0 a1 a2 a3 a4 a5 = some ((), Sp07.enc (Sp07.bits (a0, a1, ()) ++ Sp07.bitsR a2 a4.toNat (a5 - a4).toNat)) := by
  simp only [Bool.and_eq_true, decide_eq_true_eq] at h
  obtain ⟨hl, hb⟩ := dat r0
  obtain ⟨hl2, hb2⟩ := dat r2
  unfold g73
  rw [copy_loop a2 a3 a5 hl2 (a0, a1, ()) a4 hb h.1.1.1 h.1.1.2 h.1.2 h.2]
  rfl

theorem g69_ok (a0 : (List Int)) (a1 : Int) (a2 : Int) (a3 : Int) (r0 : (Ty.sl (.int .u8)).ok a0) (r1 : IntKind.i64.has a1) (r2 : IntKind.u64.has a2) (r3 : IntKind.i64.has a3) : g69 a0 a1 a2 a3 = some (Sp07.append (a0, a1, ()) a2 a3, ()) := by
  obtain ⟨hl, hb⟩ := dat r0
  have hu := has_u64 r2
  unfold g69 Sp07.append
  cases hv : valid (a0, a1, ()) with
  | false => simp only [Bool.not_false, cond_true]; rfl
  | true =>
    obtain ⟨v1, v2, v3, v4⟩ := valid_iff.1 hv
    simp only at v1 v2 v3 v4
    simp only [Bool.not_true, cond_false]
    by_cases h1 : a3 < 0
    · simp [h1, zs]
    by_cases h2 : 64 < a3
    · simp [h1, h2, zs, GT.gt]
    have c0 : (0 : Int) ≤ a3 := by omega
    have c1 : a3 ≤ 64 := by omega
    have e1 : min a3.toNat 64 = a3.toNat := by omega
    have e2 : IntKind.wrap .i64 (a1 + a3) = a1 + a3 := wi64 (by omega) (by omega)
    simp only [GT.gt, h1, h2, c0, c1, e1, e2, decide_false, decide_true, Bool.not_false, cond_true, pow2, fdiv_pow, Bool.false_or, Bool.true_and, Bool.and_true]
    have fin : (bif decide (8192 < a1 + a3) then some ((([], (0 : Int), ()), (3 : Int), ()), ()) else (on (decide (a1 + a3 ≤ 8192)) ((), Sp07.enc (Sp07.bits (a0, a1, ()) ++ vbits a2.toNat a3.toNat))).bind fun y5 => some ((y5.2, (0 : Int), ()), ())) =
        some (bif decide (8192 < a1 + a3) then (zs, (3 : Int), ()) else (Sp07.enc (Sp07.bits (a0, a1, ()) ++ vbits a2.toNat a3.toNat), 0, ()), ()) := by
      by_cases h5 : 8192 < a1 + a3
      · simp [h5, zs]
      · have : a1 + a3 ≤ 8192 := by omega
        simp [h5, this, on]
    by_cases h3 : a3 < 64
    · by_cases h4 : a2 / 2 ^ a3.toNat = 0
      · simp only [h3, h4, decide_true, Bool.not_true, Bool.and_false, cond_true, cond_false, Option.bind_some]; exact fin
      · simp only [h3, h4, decide_true, decide_false, Bool.not_false, Bool.and_true, cond_true, cond_false, Option.bind_some]; rfl
    · simp only [h3, decide_false, Bool.false_and, cond_true, cond_false, Option.bind_some]; exact fin

theorem and1 {V : Int} {n : Nat} (h1 : 0 ≤ V) (h2 : V < 18446744073709551616) : decide (IntKind.wrap .u64 ((BitVec.and (BitVec.ofInt 64 (V / 2 ^ n)) (BitVec.ofInt 64 1)).toNat : Int) = 1) = V.toNat.testBit n := by
  have k1 : 0 ≤ V / 2 ^ n := Int.ediv_nonneg h1 (Int.le_of_lt (pow2_pos n))
  have k2 : V / 2 ^ n ≤ V := Int.ediv_le_self _ h1
  rw [bvand k1 (by omega) (by omega) (by omega), toNat_div_pow h1, show Int.toNat 1 = 1 from rfl, Nat.and_one_is_mod, wu64 (by omega) (by omega), Nat.testBit_eq_decide_div_mod_eq]
  congr 1; apply propext; omega

theorem append_loop (V : Int) (h1 : 0 ≤ V) (h2 : V < 18446744073709551616) (s : S) (i : Int) (hb : bytesOk s.1) (hv : valid s = true) (h0 : -1 ≤ i) (h63 : i ≤ 63) (hbn : s.2.1 + (i + 1) ≤ 8192) :
    Loop (g49_s0 V) (s, i, ()) = some (Sp07.enc (Sp07.bits s ++ vbits V.toNat (i + 1).toNat), ()) := by
  refine Loop_inv (fun v : S × Int × Unit => bytesOk v.1.1 ∧ valid v.1 = true ∧ -1 ≤ v.2.1 ∧ v.2.1 ≤ 63 ∧ v.1.2.1 + (v.2.1 + 1) ≤ 8192) (fun v : S × Int × Unit => (v.2.1 + 1).toNat)
    (fun v : S × Int × Unit => (Sp07.enc (Sp07.bits v.1 ++ vbits V.toNat (v.2.1 + 1).toNat), ())) ?_ (v := (s, i, ())) ⟨hb, hv, h0, h63, hbn⟩
  rintro ⟨s, i, ⟨⟩⟩ ⟨i1, i2, i3, i4, i5⟩
  simp only at i1 i2 i3 i4 i5
  obtain ⟨v1, v2, v3, v4⟩ := valid_iff.1 i2
  unfold g49_s0
  by_cases hi : 0 ≤ i
  · right
    have e1 : IntKind.wrap .u64 i = i := wu64 (by omega) (by omega)
    have e2 : IntKind.wrap .i64 (i - 1) = i - 1 := wi64 (by omega) (by omega)
    have e3 : min i.toNat 64 = i.toNat := by omega
    simp only [GE.ge, hi, decide_true, cond_true, e1, e2, e3, pow2, fdiv_pow, i2, on_true, Option.bind_some, Int.ofNat_eq_natCast, and1 h1 h2]
    have hlen : (Sp07.bits s ++ [V.toNat.testBit i.toNat]).length = s.2.1.toNat + 1 := by simp [bits_length]
    refine ⟨_, rfl, ⟨enc_ok _, valid_enc (by omega), by simp only; omega, by simp only; omega, ?_⟩, by simp only; omega, ?_⟩
    · show ((Sp07.bits s ++ [V.toNat.testBit i.toNat]).length : Int) + (i - 1 + 1) ≤ 8192
      rw [hlen]; omega
    · simp only
      rw [bits_enc, List.append_assoc]
      have := vbits_split (v := V.toNat) (n := (i + 1).toNat) (k := 1) (by omega)
      rw [this]
      have t1 : (vbits V.toNat (i + 1).toNat).take 1 = [V.toNat.testBit i.toNat] := by
        have h := vbits_getD V.toNat (i + 1).toNat 0
        rw [if_pos (by omega), show (i + 1).toNat - 1 - 0 = i.toNat by omega] at h
        have hl := vbits_length V.toNat (i + 1).toNat
        cases hc : vbits V.toNat (i + 1).toNat with
        | nil => rw [hc] at hl; simp at hl; omega
        | cons x r => rw [hc] at h; simp at h; subst h; rfl
      rw [t1, show (i - 1 + 1).toNat = (i + 1).toNat - 1 by omega]
  · left
    simp only [GE.ge, hi, decide_false, cond_false]
    rw [show (i + 1).toNat = 0 by omega, vbits0, List.append_nil, enc_bits i2 i1]

theorem g49_ok (a0 : (List Int)) (a1 : Int) (a2 : Int) (a3 : Int) (r0 : (Ty.sl (.int .u8)).ok a0) (r1 : IntKind.i64.has a1) (r2 : IntKind.u64.has a2) (r3 : IntKind.i64.has a3) : g49 a0 a1 a2 a3 = some (Sp07.append (a0, a1, ()) a2 a3, ()) := by
  obtain ⟨hl, hb⟩ := dat r0
  have hu := has_u64 r2
  unfold g49 Sp07.append
  cases hv : valid (a0, a1, ()) with
  | false => simp only [Bool.not_false, cond_true]; rfl
  | true =>
    obtain ⟨v1, v2, v3, v4⟩ := valid_iff.1 hv
    simp only at v1 v2 v3 v4
    simp only [Bool.not_true, cond_false]
    by_cases h1 : a3 < 0
    · simp [h1, zs]
    by_cases h2 : 64 < a3
    · simp [h1, h2, zs, GT.gt]
    have e0 : IntKind.wrap .u64 a3 = a3 := wu64 (by omega) (by omega)
    have c0 : (0 : Int) ≤ a3 := by omega
    have e1 : min a3.toNat 64 = a3.toNat := by omega
    have e2 : IntKind.wrap .i64 (a1 + a3) = a1 + a3 := wi64 (by omega) (by omega)
    have e3 : IntKind.wrap .i64 (a3 - 1) = a3 - 1 := wi64 (by omega) (by omega)
    simp only [GT.gt, h1, h2, c0, e0, e1, e2, e3, decide_false, decide_true, Bool.not_false, cond_true, pow2, fdiv_pow, Bool.false_or]
    have fin : (bif decide (8192 < a1 + a3) then some ((([], (0 : Int), ()), (3 : Int), ()), ()) else (Loop (g49_s0 a2) ((a0, a1, ()), a3 - 1, ())).bind fun y5 => some ((y5.1, (0 : Int), ()), ())) =
        some (bif decide (8192 < a1 + a3) then (zs, (3 : Int), ()) else (Sp07.enc (Sp07.bits (a0, a1, ()) ++ vbits a2.toNat a3.toNat), 0, ()), ()) := by
      by_cases h5 : 8192 < a1 + a3
      · simp [h5, zs]
      · rw [append_loop a2 hu.1 hu.2 (a0, a1, ()) (a3 - 1) hb hv (by omega) (by omega) (by simp only; omega)]
        simp [h5, show a3 - 1 + 1 = a3 by omega]
    by_cases h3 : a3 < 64
    · by_cases h4 : a2 / 2 ^ a3.toNat = 0
      · simp only [h3, h4, decide_true, Bool.not_true, Bool.and_false, cond_true, cond_false, Option.bind_some]; exact fin
      · simp only [h3, h4, decide_true, decide_false, Bool.not_false, Bool.and_true, cond_true, cond_false, Option.bind_some]; rfl
    · simp only [h3, decide_false, Bool.false_and, cond_true, cond_false, Option.bind_some]; exact fin

theorem g72_ok (a0 : (List Int)) (a1 : Int) (a2 : Int) (a3 : Int) (r0 : (Ty.sl (.int .u8)).ok a0) (r1 : IntKind.i64.has a1) (r2 : IntKind.i64.has a2) (r3 : IntKind.i64.has a3) : g72 a0 a1 a2 a3 = some (Sp07.take (a0, a1, ()) a2 a3, ()) := by
  obtain ⟨hl, hb⟩ := dat r0
  unfold g72 Sp07.take
  cases hv : valid (a0, a1, ()) with
  | false => simp only [Bool.not_false, cond_true]
  | true =>
    obtain ⟨v1, v2, v3, v4⟩ := valid_iff.1 hv
    simp only at v1 v2 v3 v4
    simp only [Bool.not_true, cond_false]
    by_cases h1 : a3 < 0
    · simp [h1]
    by_cases h2 : 64 < a3
    · simp [h1, h2, GT.gt]
    by_cases h3 : a2 < 0
    · simp [h1, h2, h3, GT.gt]
    simp only [GT.gt, h1, h2, h3, decide_false, Bool.not_false, cond_true, cond_false, Option.bind_some, Bool.or_self]
    by_cases h4 : a1 < a2
    · have : a1 - a3 < a2 := by omega
      simp [h4, this]
    · have e1 : IntKind.wrap .i64 (a1 - a2) = a1 - a2 := wi64 (by omega) (by omega)
      simp only [h4, e1, decide_false, Bool.not_false, cond_true, Option.bind_some]
      by_cases h5 : a1 - a2 < a3
      · have : a1 - a3 < a2 := by omega
        simp [h5, this]
      · have k : ¬ a1 - a3 < a2 := by omega
        have c1 : (0 : Int) ≤ a2 := by omega
        have c2 : (0 : Int) ≤ a3 := by omega
        have c3 : a3 ≤ 64 := by omega
        have c4 : a2 + a3 ≤ 8 * (a0.length : Int) := by omega
        simp only [h5, k, c1, c2, c3, c4, decide_true, decide_false, cond_false, Bool.and_self, on_true, Option.bind_some, Int.ofNat_eq_natCast]

theorem g74_ok (a0 : (List Int)) (a1 : Int) (a2 : Int) (a3 : Int) (r0 : (Ty.sl (.int .u8)).ok a0) (r1 : IntKind.i64.has a1) (r2 : IntKind.i64.has a2) (r3 : IntKind.i64.has a3) : g74 a0 a1 a2 a3 = some (Sp07.take (a0, a1, ()) a2 a3, ()) := by
  obtain ⟨hl, hb⟩ := dat r0
  unfold g74 Sp07.take
  cases hv : valid (a0, a1, ()) with
  | false => simp only [Bool.not_false, cond_true]
  | true =>
    obtain ⟨v1, v2, v3, v4⟩ := valid_iff.1 hv
    simp only at v1 v2 v3 v4
    simp only [Bool.not_true, cond_false]
    by_cases h1 : a3 < 0
    · simp [h1]
    by_cases h2 : 64 < a3
    · simp [h1, h2, GT.gt]
    by_cases h3 : a2 < 0
    · simp [h1, h2, h3, GT.gt]
    have e1 : IntKind.wrap .i64 (a1 - a3) = a1 - a3 := wi64 (by omega) (by omega)
    simp only [GT.gt, h1, h2, h3, e1, decide_false, Bool.not_false, cond_true, cond_false, Option.bind_some, Bool.or_self]
    by_cases h4 : a1 - a3 < a2
    · simp [h4]
    · simp only [h4, decide_false, cond_false]
      have e5 : IntKind.wrap .i64 (a2 + a3) = a2 + a3 := wi64 (by omega) (by omega)
      have key : Loop (g74_s0 a0 a2 a3) (a2, (0 : Int), ()) = some (((Sp07.valOf (bitsR a0 a2.toNat a3.toNat) : Nat) : Int), ()) := by
        refine Loop_inv (fun v : Int × Int × Unit => a2 ≤ v.1 ∧ v.1 ≤ a2 + a3 ∧ v.2.1 = ((Sp07.valOf (bitsR a0 a2.toNat (v.1 - a2).toNat) : Nat) : Int)) (fun v : Int × Int × Unit => (a2 + a3 - v.1).toNat)
          (fun _ => (((Sp07.valOf (bitsR a0 a2.toNat a3.toNat) : Nat) : Int), ())) ?_ (v := (a2, 0, ())) ⟨by simp, by simp only; omega, by simp [bitsR0]; rfl⟩
        rintro ⟨i, x, ⟨⟩⟩ ⟨k1, k2, k3⟩
        simp only at k1 k2 k3
        subst k3
        have e2 : IntKind.wrap .i64 (i + 1) = i + 1 := wi64 (by omega) (by omega)
        unfold g74_s0
        simp only [Int.ofNat_eq_natCast, e5, e2]
        by_cases h5 : i < a2 + a3
        · right
          have c1 : (0 : Int) ≤ i := by omega
          have c2 : i < 8 * (a0.length : Int) := by omega
          have hlt := valOf_lt (bitsR a0 a2.toNat (i - a2).toNat)
          rw [bitsR_length] at hlt
          have hp : 2 ^ (i - a2).toNat ≤ 2 ^ 63 := Nat.pow_le_pow_right (by omega) (by omega)
          simp only [h5, c1, c2, decide_true, cond_true, Bool.and_self, on_true, Option.bind_some]
          rw [or_snoc (by omega)]
          refine ⟨_, rfl, ⟨by simp only; omega, by simp only; omega, ?_⟩, by simp only; omega, trivial⟩
          simp only
          rw [show (i + 1 - a2).toNat = (i - a2).toNat + 1 by omega, bitsR_snoc, valOf_snoc, show a2.toNat + (i - a2).toNat = i.toNat by omega]
        · left
          have : i = a2 + a3 := by omega
          subst this
          simp only [h5, decide_false, cond_false]
          rw [show (a2 + a3 - a2).toNat = a3.toNat by omega]
      rw [key]
      rfl

theorem crc_lt (r : Nat) (b : Bool) : crcB r b < 65536 := by
  unfold crcB
  cases hb : (Nat.testBit r 15 == b) with
  | true => simp only [cond_true]; omega
  | false => exact Nat.xor_lt_two_pow (n := 16) (by omega) (by omega)
theorem top_bit {r : Nat} (h : r < 65536) : (r : Int).fdiv 32768 = b2i (Nat.testBit r 15) := by
  rw [Int.fdiv_eq_ediv_of_nonneg _ (by omega), Nat.testBit_eq_decide_div_mod_eq]
  unfold b2i
  by_cases k : r / 2 ^ 15 % 2 = 1
  · rw [decide_eq_true k, cond_true]; omega
  · rw [decide_eq_false k, cond_false]; omega
theorem shl_and {r : Nat} (h : r < 65536) : IntKind.wrap .u64 ((BitVec.and (BitVec.ofInt 64 (IntKind.wrap .u64 ((r : Int) * 2))) (BitVec.ofInt 64 65535)).toNat : Int) = ((2 * r % 65536 : Nat) : Int) := by
  rw [wu64 (n := (r : Int) * 2) (by omega) (by omega), bvand (by omega) (by omega) (by omega) (by omega)]
  have : ((r : Int) * 2).toNat &&& Int.toNat 65535 = 2 * r % 65536 := by
    rw [show ((r : Int) * 2).toNat = 2 * r by omega]
    exact Nat.and_two_pow_sub_one_eq_mod (2 * r) 16
  rw [this]
  exact wu64 (by omega) (by omega)
theorem xor_poly {r : Nat} (h : r < 65536) : IntKind.wrap .u64 ((BitVec.xor (BitVec.ofInt 64 (r : Int)) (BitVec.ofInt 64 4129)).toNat : Int) = ((Nat.xor r 4129 : Nat) : Int) := by
  rw [bvxor (by omega) (by omega) (by omega) (by omega)]
  have : Nat.xor r 4129 < 2 ^ 16 := Nat.xor_lt_two_pow (by omega) (by omega)
  exact wu64 (by omega) (by show ((Nat.xor r 4129 : Nat) : Int) < _; omega)
theorem crc_step {r : Nat} {b : Bool} (h : r < 65536) : (b2i (Nat.testBit r 15) = b2i b) = ((Nat.testBit r 15 == b) = true) := by
  cases Nat.testBit r 15 <;> cases b <;> simp [b2i]
theorem crc_bits (l : List Int) (n : Nat) : crc (bitsR l 0 n) < 65536 := by
  cases n with
  | zero => rw [bitsR0]; decide
  | succ n => rw [bitsR_snoc]; unfold crc; rw [List.foldl_append]; exact crc_lt _ _
theorem crc_snoc (l : List Int) (n : Nat) : crc (bitsR l 0 (n + 1)) = crcB (crc (bitsR l 0 n)) (bitAt l n) := by
  rw [bitsR_snoc]; unfold crc; rw [List.foldl_append, Nat.zero_add]; rfl

theorem check_loop1 (l : List Int) (n : Int) (h0 : 0 ≤ n) (hn : n ≤ 8192) (hl : n ≤ 8 * (l.length : Int)) : Loop (g39_s0 l n) ((0 : Int), (65535 : Int), ()) = some (((crc (bitsR l 0 n.toNat) : Nat) : Int), ()) := by
  refine Loop_inv (fun v : Int × Int × Unit => 0 ≤ v.1 ∧ v.1 ≤ n ∧ v.2.1 = ((crc (bitsR l 0 v.1.toNat) : Nat) : Int)) (fun v : Int × Int × Unit => (n - v.1).toNat)
    (fun _ => (((crc (bitsR l 0 n.toNat) : Nat) : Int), ())) ?_ (v := (0, 65535, ())) ⟨by simp, h0, rfl⟩
  rintro ⟨i, x, ⟨⟩⟩ ⟨k1, k2, k3⟩
  simp only at k1 k2 k3
  subst k3
  have e1 : IntKind.wrap .i64 (i + 1) = i + 1 := wi64 (by omega) (by omega)
  have hr := crc_bits l i.toNat
  unfold g39_s0
  by_cases h5 : i < n
  · right
    have c2 : i < 8 * (l.length : Int) := by omega
    have hm : 2 * crc (bitsR l 0 i.toNat) % 65536 < 65536 := Nat.mod_lt _ (by omega)
    simp only [h5, k1, c2, e1, decide_true, cond_true, Bool.and_self, on_true, Option.bind_some, Int.ofNat_eq_natCast, top_bit hr, shl_and hr, xor_poly hm, crc_step hr]
    have hs := crc_snoc l i.toNat
    cases hb : (Nat.testBit (crc (bitsR l 0 i.toNat)) 15 == bitAt l i.toNat) with
    | true =>
      refine ⟨_, by simp only [decide_true, cond_true]; rfl, ⟨by simp only; omega, by simp only; omega, ?_⟩, by simp only; omega, trivial⟩
      simp only
      rw [show (i + 1).toNat = i.toNat + 1 by omega, hs, crcB, hb, cond_true]
    | false =>
      refine ⟨_, by simp only [Bool.false_eq_true, decide_false, cond_false]; rfl, ⟨by simp only; omega, by simp only; omega, ?_⟩, by simp only; omega, trivial⟩
      simp only
      rw [show (i + 1).toNat = i.toNat + 1 by omega, hs, crcB, hb, cond_false]
  · left
    have : i = n := by omega
    subst this
    simp only [h5, decide_false, cond_false]
theorem check_loop2 (l : List Int) (n : Int) (h0 : 0 ≤ n) (hn : n ≤ 8192) (hl : n ≤ 8 * (l.length : Int)) : Loop (g23_s0 l n) ((0 : Int), (65535 : Int), ()) = some (((crc (bitsR l 0 n.toNat) : Nat) : Int), ()) := by
  refine Loop_inv (fun v : Int × Int × Unit => 0 ≤ v.1 ∧ v.1 ≤ n ∧ v.2.1 = ((crc (bitsR l 0 v.1.toNat) : Nat) : Int)) (fun v : Int × Int × Unit => (n - v.1).toNat)
    (fun _ => (((crc (bitsR l 0 n.toNat) : Nat) : Int), ())) ?_ (v := (0, 65535, ())) ⟨by simp, h0, rfl⟩
  rintro ⟨i, x, ⟨⟩⟩ ⟨k1, k2, k3⟩
  simp only at k1 k2 k3
  subst k3
  have e1 : IntKind.wrap .i64 (i + 1) = i + 1 := wi64 (by omega) (by omega)
  have hr := crc_bits l i.toNat
  unfold g23_s0
  by_cases h5 : i < n
  · right
    have c2 : i < 8 * (l.length : Int) := by omega
    have hm : 2 * crc (bitsR l 0 i.toNat) % 65536 < 65536 := Nat.mod_lt _ (by omega)
    simp only [h5, k1, c2, e1, decide_true, cond_true, Bool.and_self, on_true, Option.bind_some, Int.ofNat_eq_natCast, top_bit hr, shl_and hr, xor_poly hm, crc_step hr]
    have hs := crc_snoc l i.toNat
    cases hb : (Nat.testBit (crc (bitsR l 0 i.toNat)) 15 == bitAt l i.toNat) with
    | true =>
      refine ⟨_, by simp only [decide_true, Bool.not_true, cond_false, Option.bind_some]; rfl, ⟨by simp only; omega, by simp only; omega, ?_⟩, by simp only; omega, trivial⟩
      simp only
      rw [show (i + 1).toNat = i.toNat + 1 by omega, hs, crcB, hb, cond_true]
    | false =>
      refine ⟨_, by simp only [Bool.false_eq_true, decide_false, Bool.not_false, cond_true, Option.bind_some]; rfl, ⟨by simp only; omega, by simp only; omega, ?_⟩, by simp only; omega, trivial⟩
      simp only
      rw [show (i + 1).toNat = i.toNat + 1 by omega, hs, crcB, hb, cond_false]
  · left
    have : i = n := by omega
    subst this
    simp only [h5, decide_false, cond_false]

theorem g39_ok (a0 : (List Int)) (a1 : Int) (r0 : (Ty.sl (.int .u8)).ok a0) (r1 : IntKind.i64.has a1) : g39 a0 a1 = some (Sp07.check (a0, a1, ()), ()) := by
  obtain ⟨hl, hb⟩ := dat r0
  unfold g39 Sp07.check
  cases hv : valid (a0, a1, ()) with
  | false => simp only [Bool.not_false, cond_true]
  | true =>
    obtain ⟨v1, v2, v3, v4⟩ := valid_iff.1 hv
    simp only at v1 v2 v3 v4
    rw [check_loop1 a0 a1 v1 v2 (by omega)]
    rfl

theorem g23_ok (a0 : (List Int)) (a1 : Int) (r0 : (Ty.sl (.int .u8)).ok a0) (r1 : IntKind.i64.has a1) : g23 a0 a1 = some (Sp07.check (a0, a1, ()), ()) := by
  obtain ⟨hl, hb⟩ := dat r0
  unfold g23 Sp07.check
  cases hv : valid (a0, a1, ()) with
  | false => simp only [Bool.not_false, cond_true]
  | true =>
    obtain ⟨v1, v2, v3, v4⟩ := valid_iff.1 hv
    simp only at v1 v2 v3 v4
    rw [check_loop2 a0 a1 v1 v2 (by omega)]
    rfl

end Go.Abs.C07

namespace Go.Abs.C07
open Go Go.Proofs Sp07

theorem b2i_one (b : Bool) : decide (b2i b = 1) = b := by cases b <;> decide
theorem put_loop (l : List Int) (e : Int) (he : e ≤ 8 * (l.length : Int)) (hl : l.length ≤ 140737488355328) (s : S) (i : Int) (hb : bytesOk s.1) (hv : valid s = true) (h0 : 0 ≤ i) (hbn : s.2.1 + (e - i) ≤ 8192) :
    Loop (g48_s0 l e) (i, s, ()) = some (Sp07.enc (Sp07.bits s ++ bitsR l i.toNat (e - i).toNat), ()) := by
  refine Loop_inv (fun v : Int × S × Unit => bytesOk v.2.1.1 ∧ valid v.2.1 = true ∧ 0 ≤ v.1 ∧ v.2.1.2.1 + (e - v.1) ≤ 8192) (fun v : Int × S × Unit => (e - v.1).toNat)
    (fun v : Int × S × Unit => (Sp07.enc (Sp07.bits v.2.1 ++ bitsR l v.1.toNat (e - v.1).toNat), ())) ?_ (v := (i, s, ())) ⟨hb, hv, h0, hbn⟩
  rintro ⟨i, s, ⟨⟩⟩ ⟨i1, i2, i3, i4⟩
  simp only at i1 i2 i3 i4
  obtain ⟨v1, v2, v3, v4⟩ := valid_iff.1 i2
  unfold g48_s0
  by_cases hi : i < e
  · right
    have c1 : i < 8 * (l.length : Int) := by omega
    have e1 : IntKind.wrap .i64 (i + 1) = i + 1 := wi64 (by omega) (by omega)
    simp only [hi, i3, c1, i2, e1, decide_true, cond_true, Bool.and_self, on_true, Option.bind_some, Int.ofNat_eq_natCast, b2i_one]
    have hlen : (Sp07.bits s ++ [bitAt l i.toNat]).length = s.2.1.toNat + 1 := by simp [bits_length]
    refine ⟨_, rfl, ⟨enc_ok _, valid_enc (by omega), by simp only; omega, ?_⟩, by simp only; omega, ?_⟩
    · show ((Sp07.bits s ++ [bitAt l i.toNat]).length : Int) + (e - (i + 1)) ≤ 8192
      rw [hlen]; omega
    · simp only
      rw [bits_enc, List.append_assoc, show (e - i).toNat = 1 + (e - (i + 1)).toNat by omega, bitsR_add, show (i + 1).toNat = i.toNat + 1 by omega]
      rfl
  · left
    simp only [hi, decide_false, cond_false]
    rw [show (e - i).toNat = 0 by omega, bitsR0, List.append_nil, enc_bits i2 i1]

theorem align_loop (s : S) (hb : bytesOk s.1) (hv : valid s = true) : Loop g24_s0 (s, ()) = some ((s.1, 8 * (s.1.length : Int), ()), ()) := by
  refine Loop_inv (fun v : S × Unit => bytesOk v.1.1 ∧ valid v.1 = true) (fun v : S × Unit => (8 * v.1.1.length - v.1.2.1.toNat))
    (fun v : S × Unit => ((v.1.1, 8 * (v.1.1.length : Int), ()), ())) ?_ (v := (s, ())) ⟨hb, hv⟩
  rintro ⟨⟨l, n, ⟨⟩⟩, ⟨⟩⟩ ⟨i1, i2⟩
  simp only at i1 i2
  obtain ⟨v1, v2, v3, v4⟩ := valid_iff.1 i2
  simp only at v1 v2 v3 v4
  unfold g24_s0
  have e1 : Int.tmod n 8 = n % 8 := tmod_nn v1
  simp only [e1]
  by_cases h : n % 8 = 0
  · left
    have : 8 * (l.length : Int) = n := by omega
    simp only [h, decide_true, Bool.not_true, cond_false, this]
  · right
    have k : ((l, n + 1, ()) : S) = Sp07.enc (Sp07.bits (l, n, ()) ++ [false]) := by
      refine eq_enc i1 (by simp [bits_length]; omega) (by omega) fun i hi => ?_
      rw [getD_append, bits_length, bits_getD]
      simp only
      split
      · rfl
      · rw [v4 i (by omega)]
        cases hk : i - n.toNat with
        | zero => rfl
        | succ m => rfl
    have hd : decide ((0 : Int) = 1) = false := rfl
    simp only [h, decide_false, Bool.not_false, cond_true, i2, on_true, Option.bind_some, hd]
    rw [← k]
    refine ⟨_, rfl, ⟨i1, ?_⟩, by simp only; omega, rfl⟩
    rw [k]
    exact valid_enc (by simp [bits_length]; omega)

theorem g24_ok (a0 : (List Int)) (a1 : Int) (r0 : (Ty.sl (.int .u8)).ok a0) (r1 : IntKind.i64.has a1) : g24 a0 a1 = some (Sp07.align (a0, a1, ()), ()) := by
  obtain ⟨hl, hb⟩ := dat r0
  unfold g24 Sp07.align
  cases hv : valid (a0, a1, ()) with
  | false => rfl
  | true =>
    rw [align_loop _ hb hv]
    rfl

theorem valid_nil : valid ([], (0 : Int), ()) = true := by decide
theorem bits_nil : Sp07.bits ([], (0 : Int), ()) = [] := rfl

theorem g43_ok (a0 : (List Int)) (a1 : Int) (a2 : Int) (a3 : Int) (r0 : (Ty.sl (.int .u8)).ok a0) (r1 : IntKind.i64.has a1) (r2 : IntKind.i64.has a2) (r3 : IntKind.i64.has a3) : g43 a0 a1 a2 a3 = some (Sp07.slice (a0, a1, ()) a2 a3, ()) := by
  unfold g43 Sp07.slice
  cases hv : valid (a0, a1, ()) with
  | false => rfl
  | true =>
    obtain ⟨v1, v2, v3, v4⟩ := valid_iff.1 hv
    simp only at v1 v2 v3 v4
    simp only [Bool.not_true, cond_false, GT.gt]
    by_cases h1 : a2 < 0
    · simp [h1, zs]
    by_cases h2 : a3 < a2
    · simp [h1, h2, zs]
    by_cases h3 : a1 < a3
    · simp [h1, h2, h3, zs]
    have c1 : 0 ≤ a2 := by omega
    have c2 : a3 ≤ 8 * (a0.length : Int) := by omega
    have c3 : 0 + (a3 - a2) ≤ 8192 := by omega
    simp only [h1, h2, h3, c1, c2, c3, valid_nil, bits_nil, List.nil_append, decide_true, decide_false, Bool.not_false, cond_true, cond_false, Bool.and_self, Bool.or_self, on_true, Option.bind_some, Int.ofNat_eq_natCast]

theorem g48_ok (a0 : (List Int)) (a1 : Int) (a2 : Int) (a3 : Int) (r0 : (Ty.sl (.int .u8)).ok a0) (r1 : IntKind.i64.has a1) (r2 : IntKind.i64.has a2) (r3 : IntKind.i64.has a3) : g48 a0 a1 a2 a3 = some (Sp07.slice (a0, a1, ()) a2 a3, ()) := by
  obtain ⟨hl, hb⟩ := dat r0
  unfold g48 Sp07.slice
  cases hv : valid (a0, a1, ()) with
  | false => rfl
  | true =>
    obtain ⟨v1, v2, v3, v4⟩ := valid_iff.1 hv
    simp only at v1 v2 v3 v4
    simp only [Bool.not_true, cond_false, GT.gt]
    by_cases h1 : a2 < 0
    · simp [h1, zs]
    by_cases h2 : a3 < a2
    · simp [h1, h2, zs]
    by_cases h3 : a1 < a3
    · simp [h1, h2, h3, zs]
    simp only [h1, h2, h3, decide_false, Bool.not_false, cond_true, cond_false, Bool.or_self, Option.bind_some]
    rw [put_loop a0 a3 (by omega) hl ([], 0, ()) a2 (fun x hx => by cases hx) valid_nil (by omega) (by simp only; omega), bits_nil, List.nil_append]
    rfl

end Go.Abs.C07

namespace Go.Abs.C07
open Go Go.Proofs Sp07

theorem recs {l : List Rc} (h : (Ty.sl rc).ok l) : l.length ≤ 5864062014805 := by
  have h1 : l.length * 24 ≤ 140737488355328 := h.1
  omega
theorem all_any (n : Nat) (bad : Nat → Bool) : ((List.range n).all fun i => !bad i) = !(List.range n).any bad := by
  rw [List.not_any_eq_all_not]
theorem orI (a b : Bool) : (bif a then (some (b, ()) : Option (Bool × Unit)) else some (false, ())) = some (a && b, ()) := by cases a <;> rfl

theorem g54_ok (a0 : Int) (a1 : Int) (a2 : Int) (r0 : IntKind.i64.has a0) (r1 : IntKind.i64.has a1) (r2 : IntKind.i64.has a2) : g54 a0 a1 a2 = some (Sp07.inside a0 a1 a2, ()) := by
  unfold g54 Sp07.inside
  rw [orI]
  rfl

theorem g56_ok (a0 : Int) (a1 : Int) (a2 : Int) (r0 : IntKind.i64.has a0) (r1 : IntKind.i64.has a1) (r2 : IntKind.i64.has a2) : g56 a0 a1 a2 = some (Sp07.inside a0 a1 a2, ()) := by
  unfold g56 Sp07.inside
  rw [orI]
  rfl

theorem g55_ok (a0 : Int) (r0 : IntKind.i64.has a0) : g55 a0 = some (Sp07.vlen a0, ()) := by
  unfold g55 Sp07.vlen
  cases decide (a0 = 8) <;> cases decide (a0 = 16) <;> cases decide (a0 = 32) <;> rfl

theorem g76_ok (a0 : Int) (r0 : IntKind.i64.has a0) : g76 a0 = some (Sp07.vlen a0, ()) := by
  unfold g76 Sp07.vlen
  cases decide (a0 = 8) <;> cases decide (a0 = 16) <;> cases decide (a0 = 32) <;> rfl

theorem claims_step (l : List Rc) (i : Int) (hl : l.length ≤ 5864062014805) (h0 : 0 ≤ i) (hi : i < (l.length : Int)) :
    g57_s0 l (i, ()) = some (bif badC l i.toNat then .inr (true, (false, ()), ()) else .inl (i + 1, ())) := by
  have e1 : IntKind.wrap .i64 (i + 1) = i + 1 := wi64 (by omega) (by omega)
  have e2 : IntKind.wrap .i64 (i - 1) = i - 1 := wi64 (by omega) (by omega)
  have e3 : (i - 1).toNat = i.toNat - 1 := by omega
  have c3 : i - 1 < (l.length : Int) := by omega
  unfold g57_s0 badC zr
  simp only [hi, h0, e1, e2, e3, c3, decide_true, cond_true, Bool.and_self, Int.ofNat_eq_natCast, Bool.and_true, ge_iff_le, gt_iff_lt]
  generalize l.getD i.toNat (0, 0, 0, ()) = x
  generalize l.getD (i.toNat - 1) (0, 0, 0, ()) = y
  generalize Sp07.inside x.1 0 7 = b1
  generalize Sp07.inside x.2.1 1 256 = b2
  generalize Sp07.vlen x.2.2.1 = b3
  by_cases hp : 0 < i
  · have c1 : 0 ≤ i - 1 := by omega
    have c2 : 0 < i.toNat := by omega
    simp only [hp, c1, c2, decide_true, cond_true, Bool.true_and]
    generalize decide (x.1 ≤ y.1) = b4
    cases b1 <;> cases b2 <;> cases b3 <;> cases b4 <;> rfl
  · have c2 : ¬ 0 < i.toNat := by omega
    simp only [hp, c2, decide_false, Bool.false_and]
    cases b1 <;> cases b2 <;> cases b3 <;> rfl
theorem claims_end (l : List Rc) : g57_s0 l ((l.length : Int), ()) = some (.inr (false, (false, ()), ())) := by
  unfold g57_s0
  simp
theorem claims_loop (l : List Rc) (hl : l.length ≤ 5864062014805) : Loop (g57_s0 l) ((0 : Int), ()) = some (bif (List.range l.length).any (badC l) then (true, (false, ()), ()) else (false, (false, ()), ())) :=
  Loop_scanI l.length (badC l) _ _ (fun i h0 hi => claims_step l i hl h0 hi) (claims_end l)

theorem g57_ok (a0 : (List (Int × (Int × (Int × Unit))))) (r0 : (Ty.sl (rc)).ok a0) : g57 a0 = some (Sp07.validC a0, ()) := by
  unfold g57 Sp07.validC
  rw [claims_loop a0 (recs r0), all_any]
  by_cases h : 8 < (a0.length : Int)
  · have h' : ¬ a0.length ≤ 8 := by omega
    simp [h, h']
  · have h' : a0.length ≤ 8 := by omega
    simp only [gt_iff_lt, Int.ofNat_eq_natCast, h, h', decide_true, decide_false, cond_false, Bool.true_and, Option.bind_some]
    cases (List.range a0.length).any (badC a0) <;> rfl

theorem links_step (r : Int) (l : List Rc) (i : Int) (hl : l.length ≤ 5864062014805) (h0 : 0 ≤ i) (hi : i < (l.length : Int)) :
    g27_s0 r l (i, ()) = some (bif badL r l i.toNat then .inr (true, (false, ()), ()) else .inl (i + 1, ())) := by
  have e1 : IntKind.wrap .i64 (i + 1) = i + 1 := wi64 (by omega) (by omega)
  have e2 : IntKind.wrap .i64 (i - 1) = i - 1 := wi64 (by omega) (by omega)
  have e3 : (i - 1).toNat = i.toNat - 1 := by omega
  have c3 : i - 1 < (l.length : Int) := by omega
  unfold g27_s0 badL zr
  simp only [hi, h0, e1, e2, e3, c3, decide_true, cond_true, Bool.and_self, Int.ofNat_eq_natCast, Bool.and_true, ge_iff_le, gt_iff_lt]
  generalize l.getD i.toNat (0, 0, 0, ()) = x
  generalize l.getD (i.toNat - 1) (0, 0, 0, ()) = y
  generalize Sp07.inside x.1 1 99 = b1
  generalize Sp07.inside x.2.1 1 1000 = b2
  generalize Sp07.inside x.2.2.1 0 1000 = b3
  generalize decide (x.1 = r) = b5
  by_cases hp : 0 < i
  · have c1 : 0 ≤ i - 1 := by omega
    have c2 : 0 < i.toNat := by omega
    simp only [hp, c1, c2, decide_true, cond_true, Bool.true_and]
    generalize decide (x.1 ≤ y.1) = b4
    cases b1 <;> cases b5 <;> cases b2 <;> cases b3 <;> cases b4 <;> rfl
  · have c2 : ¬ 0 < i.toNat := by omega
    simp only [hp, c2, decide_false, Bool.false_and]
    cases b1 <;> cases b5 <;> cases b2 <;> cases b3 <;> rfl
theorem links_loop (r : Int) (l : List Rc) (hl : l.length ≤ 5864062014805) : Loop (g27_s0 r l) ((0 : Int), ()) = some (bif (List.range l.length).any (badL r l) then (true, (false, ()), ()) else (false, (false, ()), ())) :=
  Loop_scanI l.length (badL r l) _ _ (fun i h0 hi => links_step r l i hl h0 hi) (by unfold g27_s0; simp)
theorem claims2_step (l : List Rc) (i : Int) (hl : l.length ≤ 5864062014805) (h0 : 0 ≤ i) (hi : i < (l.length : Int)) :
    g27_s1 l (i, ()) = some (bif badC l i.toNat then .inr (true, (false, ()), ()) else .inl (i + 1, ())) := by
  have e1 : IntKind.wrap .i64 (i + 1) = i + 1 := wi64 (by omega) (by omega)
  have e2 : IntKind.wrap .i64 (i - 1) = i - 1 := wi64 (by omega) (by omega)
  have e3 : (i - 1).toNat = i.toNat - 1 := by omega
  have c3 : i - 1 < (l.length : Int) := by omega
  unfold g27_s1 badC zr
  simp only [hi, h0, e1, e2, e3, c3, decide_true, cond_true, Bool.and_self, Int.ofNat_eq_natCast, Bool.and_true, ge_iff_le, gt_iff_lt]
  generalize l.getD i.toNat (0, 0, 0, ()) = x
  generalize l.getD (i.toNat - 1) (0, 0, 0, ()) = y
  generalize Sp07.inside x.1 0 7 = b1
  generalize Sp07.inside x.2.1 1 256 = b2
  generalize Sp07.vlen x.2.2.1 = b3
  by_cases hp : 0 < i
  · have c1 : 0 ≤ i - 1 := by omega
    have c2 : 0 < i.toNat := by omega
    simp only [hp, c1, c2, decide_true, cond_true, Bool.true_and]
    generalize decide (x.1 ≤ y.1) = b4
    cases b1 <;> cases b2 <;> cases b3 <;> cases b4 <;> rfl
  · have c2 : ¬ 0 < i.toNat := by omega
    simp only [hp, c2, decide_false, Bool.false_and]
    cases b1 <;> cases b2 <;> cases b3 <;> rfl
theorem claims2_loop (l : List Rc) (hl : l.length ≤ 5864062014805) : Loop (g27_s1 l) ((0 : Int), ()) = some (bif (List.range l.length).any (badC l) then (true, (false, ()), ()) else (false, (false, ()), ())) :=
  Loop_scanI l.length (badC l) _ _ (fun i h0 hi => claims2_step l i hl h0 hi) (by unfold g27_s1; simp)

theorem g27_ok (a0 : Int) (a1 : Int) (a2 : Bool) (a3 : (List (Int × (Int × (Int × Unit))))) (a4 : (List (Int × (Int × (Int × Unit))))) (r0 : IntKind.i64.has a0) (r1 : IntKind.i64.has a1) (r3 : (Ty.sl (rc)).ok a3) (r4 : (Ty.sl (rc)).ok a4) : g27 a0 a1 a2 a3 a4 = some (Sp07.validA (a0, a1, a2, a3, a4, ()), ()) := by
  unfold g27 Sp07.validA Sp07.validC
  rw [links_loop a0 a3 (recs r3), claims2_loop a4 (recs r4), all_any, all_any]
  have e1 : decide (a3.length ≤ 23) = !decide ((a3.length : Int) > 23) := by
    by_cases h : a3.length ≤ 23 <;> simp [h] <;> omega
  have e2 : decide (a4.length ≤ 8) = !decide ((a4.length : Int) > 8) := by
    by_cases h : a4.length ≤ 8 <;> simp [h] <;> omega
  simp only [e1, e2, Int.ofNat_eq_natCast, Option.bind_some]
  generalize Sp07.inside a0 1 99 = b1
  generalize Sp07.inside a1 1 1000000 = b2
  generalize decide ((a3.length : Int) > 23) = b3
  generalize decide ((a4.length : Int) > 8) = b4
  generalize (List.range a3.length).any (badL a0 a3) = b5
  generalize (List.range a4.length).any (badC a4) = b6
  cases b1 <;> cases b2 <;> cases b3 <;> cases b4 <;> cases b5 <;> cases b6 <;> rfl

theorem links2_step (r : Int) (l : List Rc) (i : Int) (hl : l.length ≤ 5864062014805) (h0 : 0 ≤ i) (hi : i < (l.length : Int)) :
    g28_s0 r l (i, ()) = some (bif badL r l i.toNat then .inr (true, (false, ()), ()) else .inl (i + 1, ())) := by
  have e1 : IntKind.wrap .i64 (i + 1) = i + 1 := wi64 (by omega) (by omega)
  have e2 : IntKind.wrap .i64 (i - 1) = i - 1 := wi64 (by omega) (by omega)
  have e3 : (i - 1).toNat = i.toNat - 1 := by omega
  have c3 : i - 1 < (l.length : Int) := by omega
  unfold g28_s0 badL zr
  simp only [hi, h0, e1, e2, e3, c3, decide_true, cond_true, Bool.and_self, Int.ofNat_eq_natCast, Bool.and_true, ge_iff_le, gt_iff_lt]
  generalize l.getD i.toNat (0, 0, 0, ()) = x
  generalize l.getD (i.toNat - 1) (0, 0, 0, ()) = y
  generalize Sp07.inside x.1 1 99 = b1
  generalize Sp07.inside x.2.1 1 1000 = b2
  generalize Sp07.inside x.2.2.1 0 1000 = b3
  generalize decide (x.1 = r) = b5
  by_cases hp : 0 < i
  · have c1 : 0 ≤ i - 1 := by omega
    have c2 : 0 < i.toNat := by omega
    simp only [hp, c1, c2, decide_true, cond_true, Bool.true_and]
    generalize decide (x.1 ≤ y.1) = b4
    cases b1 <;> cases b5 <;> cases b2 <;> cases b3 <;> cases b4 <;> rfl
  · have c2 : ¬ 0 < i.toNat := by omega
    simp only [hp, c2, decide_false, Bool.false_and]
    cases b1 <;> cases b5 <;> cases b2 <;> cases b3 <;> rfl
theorem links2_loop (r : Int) (l : List Rc) (hl : l.length ≤ 5864062014805) : Loop (g28_s0 r l) ((0 : Int), ()) = some (bif (List.range l.length).any (badL r l) then (true, (false, ()), ()) else (false, (false, ()), ())) :=
  Loop_scanI l.length (badL r l) _ _ (fun i h0 hi => links2_step r l i hl h0 hi) (by unfold g28_s0; simp)

theorem g28_ok (a0 : Int) (a1 : Int) (a2 : Bool) (a3 : (List (Int × (Int × (Int × Unit))))) (a4 : (List (Int × (Int × (Int × Unit))))) (r0 : IntKind.i64.has a0) (r1 : IntKind.i64.has a1) (r3 : (Ty.sl (rc)).ok a3) (r4 : (Ty.sl (rc)).ok a4) : g28 a0 a1 a2 a3 a4 = some (Sp07.validA (a0, a1, a2, a3, a4, ()), ()) := by
  unfold g28 Sp07.validA
  rw [links2_loop a0 a3 (recs r3), all_any]
  have e1 : decide (a3.length ≤ 23) = !decide ((a3.length : Int) > 23) := by
    by_cases h : a3.length ≤ 23 <;> simp [h] <;> omega
  simp only [e1, Int.ofNat_eq_natCast, Option.bind_some]
  generalize Sp07.inside a0 1 99 = b1
  generalize Sp07.inside a1 1 1000000 = b2
  generalize decide ((a3.length : Int) > 23) = b3
  generalize (List.range a3.length).any (badL a0 a3) = b5
  generalize Sp07.validC a4 = b6
  cases b1 <;> cases b2 <;> cases b3 <;> cases b5 <;> cases b6 <;> rfl

def diff (a b : List Rc) (i : Nat) : Bool := !(decide ((a.getD i zr).1 = (b.getD i zr).1) && (decide ((a.getD i zr).2.1 = (b.getD i zr).2.1) && (decide ((a.getD i zr).2.2.1 = (b.getD i zr).2.2.1) && true)))
theorem sameR_len : ∀ {a b : List Rc}, sameR a b = true → a.length = b.length
  | [], [], _ => rfl
  | [], _ :: _, h => by cases h
  | _ :: _, [], h => by cases h
  | x :: a, y :: b, h => by
    simp only [sameR, Bool.and_eq_true] at h
    simp [sameR_len h.2]
theorem any_succ (n : Nat) (f : Nat → Bool) : (List.range (n + 1)).any f = (f 0 || (List.range n).any fun i => f (i + 1)) := by
  rw [List.range_succ_eq_map, List.any_cons, List.any_map]
  rfl
theorem sameR_diff : ∀ (a b : List Rc), a.length = b.length → sameR a b = !(List.range a.length).any (diff a b)
  | [], [], _ => rfl
  | [], _ :: _, h => by simp at h
  | _ :: _, [], h => by simp at h
  | x :: a, y :: b, h => by
    have ih := sameR_diff a b (by simpa using h)
    rw [List.length_cons, any_succ]
    simp only [sameR, ih]
    have e : (fun i => diff (x :: a) (y :: b) (i + 1)) = diff a b := rfl
    have e0 : diff (x :: a) (y :: b) 0 = !(decide (x.1 = y.1) && (decide (x.2.1 = y.2.1) && (decide (x.2.2.1 = y.2.2.1) && true))) := rfl
    rw [e, e0]
    cases decide (x.1 = y.1) <;> cases decide (x.2.1 = y.2.1) <;> cases decide (x.2.2.1 = y.2.2.1) <;> cases (List.range a.length).any (diff a b) <;> rfl

theorem same_step {step : List Rc → List Rc → Int × Unit → Option (Sum (Int × Unit) (Bool × (Bool × Unit) × Unit))} (hs : step = g58_s0) (a b : List Rc) (h : a.length = b.length) (hl : a.length ≤ 5864062014805) :
    Loop (step a b) ((0 : Int), ()) = some (bif sameR a b then (false, (false, ()), ()) else (true, (false, ()), ())) := by
  subst hs
  have hb : (a.length : Int) = (b.length : Int) := by omega
  rw [Loop_scanI a.length (diff a b) (true, (false, ()), ()) (false, (false, ()), ()) (fun i h0 hi => ?_) (by unfold g58_s0; simp), sameR_diff a b h]
  · cases (List.range a.length).any (diff a b) <;> rfl
  · have e1 : IntKind.wrap .i64 (i + 1) = i + 1 := wi64 (by omega) (by omega)
    have hi2 : i < (b.length : Int) := by omega
    unfold g58_s0 diff zr
    simp only [hi, hi2, h0, e1, decide_true, cond_true, Bool.and_self, Int.ofNat_eq_natCast]
    generalize (!(decide ((a.getD i.toNat (0, 0, 0, ())).1 = (b.getD i.toNat (0, 0, 0, ())).1) && (decide ((a.getD i.toNat (0, 0, 0, ())).2.1 = (b.getD i.toNat (0, 0, 0, ())).2.1) && (decide ((a.getD i.toNat (0, 0, 0, ())).2.2.1 = (b.getD i.toNat (0, 0, 0, ())).2.2.1) && true)))) = q
    cases q <;> rfl

theorem g58_ok (a0 : (List (Int × (Int × (Int × Unit))))) (a1 : (List (Int × (Int × (Int × Unit))))) (r0 : (Ty.sl (rc)).ok a0) (r1 : (Ty.sl (rc)).ok a1) : g58 a0 a1 = some (Sp07.sameR a0 a1, ()) := by
  unfold g58
  by_cases h : a0.length = a1.length
  · have h' : (a0.length : Int) = (a1.length : Int) := by omega
    rw [same_step (step := g58_s0) rfl a0 a1 h (recs r0)]
    simp only [Int.ofNat_eq_natCast, h', decide_true, Bool.not_true, cond_false, Option.bind_some]
    cases sameR a0 a1 <;> rfl
  · have h' : ¬ (a0.length : Int) = (a1.length : Int) := by omega
    have hs : sameR a0 a1 = false := by
      cases hq : sameR a0 a1 with
      | false => rfl
      | true => exact absurd (sameR_len hq) h
    rw [hs]
    simp only [Int.ofNat_eq_natCast, h', decide_false, Bool.not_false, cond_true]

theorem g59_ok (a0 : (List (Int × (Int × (Int × Unit))))) (a1 : (List (Int × (Int × (Int × Unit))))) (r0 : (Ty.sl (rc)).ok a0) (r1 : (Ty.sl (rc)).ok a1) : g59 a0 a1 = some (Sp07.sameR a0 a1, ()) := by
  unfold g59
  by_cases h : a0.length = a1.length
  · have h' : (a0.length : Int) = (a1.length : Int) := by omega
    rw [same_step (step := g59_s0) rfl a0 a1 h (recs r0)]
    simp only [Int.ofNat_eq_natCast, h', decide_true, Bool.not_true, cond_false, Option.bind_some]
    cases sameR a0 a1 <;> rfl
  · have h' : ¬ (a0.length : Int) = (a1.length : Int) := by omega
    have hs : sameR a0 a1 = false := by
      cases hq : sameR a0 a1 with
      | false => rfl
      | true => exact absurd (sameR_len hq) h
    rw [hs]
    simp only [Int.ofNat_eq_natCast, h', decide_false, Bool.not_false, cond_true]

theorem g29_ok (a0 : Int) (a1 : Int) (a2 : Bool) (a3 : (List (Int × (Int × (Int × Unit))))) (a4 : (List (Int × (Int × (Int × Unit))))) (a5 : Int) (a6 : Int) (a7 : Bool) (a8 : (List (Int × (Int × (Int × Unit))))) (a9 : (List (Int × (Int × (Int × Unit))))) (r0 : IntKind.i64.has a0) (r1 : IntKind.i64.has a1) (r3 : (Ty.sl (rc)).ok a3) (r4 : (Ty.sl (rc)).ok a4) (r5 : IntKind.i64.has a5) (r6 : IntKind.i64.has a6) (r8 : (Ty.sl (rc)).ok a8) (r9 : (Ty.sl (rc)).ok a9) : g29 a0 a1 a2 a3 a4 a5 a6 a7 a8 a9 = some (Sp07.sameA (a0, a1, a2, a3, a4, ()) (a5, a6, a7, a8, a9, ()), ()) := by
  unfold g29 Sp07.sameA
  have e : (a2 == a7) = decide (a2 = a7) := by cases a2 <;> cases a7 <;> rfl
  simp only [e]
  cases decide (a0 = a5) <;> cases decide (a1 = a6) <;> cases decide (a2 = a7) <;> cases sameR a3 a8 <;> rfl

theorem g17_ok (a0 : Int) (a1 : Int) (a2 : Bool) (a3 : (List (Int × (Int × (Int × Unit))))) (a4 : (List (Int × (Int × (Int × Unit))))) (a5 : Int) (a6 : Int) (a7 : Bool) (a8 : (List (Int × (Int × (Int × Unit))))) (a9 : (List (Int × (Int × (Int × Unit))))) (r0 : IntKind.i64.has a0) (r1 : IntKind.i64.has a1) (r3 : (Ty.sl (rc)).ok a3) (r4 : (Ty.sl (rc)).ok a4) (r5 : IntKind.i64.has a5) (r6 : IntKind.i64.has a6) (r8 : (Ty.sl (rc)).ok a8) (r9 : (Ty.sl (rc)).ok a9) : g17 a0 a1 a2 a3 a4 a5 a6 a7 a8 a9 = some (Sp07.sameA (a0, a1, a2, a3, a4, ()) (a5, a6, a7, a8, a9, ()), ()) := by
  unfold g17 Sp07.sameA
  have e : (a2 == a7) = decide (a2 = a7) := by cases a2 <;> cases a7 <;> rfl
  have k : ∀ {a b : List Rc}, ¬ (a.length : Int) = (b.length : Int) → sameR a b = false := by
    intro a b h
    cases hq : sameR a b with
    | false => rfl
    | true => exact absurd (by rw [sameR_len hq]) h
  simp only [e, Int.ofNat_eq_natCast]
  by_cases h1 : (a3.length : Int) = (a8.length : Int)
  · by_cases h2 : (a4.length : Int) = (a9.length : Int)
    · rw [same_step (step := g17_s0) rfl a3 a8 (by omega) (recs r3), same_step (step := g17_s1) rfl a4 a9 (by omega) (recs r4)]
      simp only [h1, h2, decide_true, Option.bind_some]
      cases decide (a0 = a5) <;> cases decide (a1 = a6) <;> cases decide (a2 = a7) <;> cases sameR a3 a8 <;> cases sameR a4 a9 <;> rfl
    · rw [k h2]
      simp only [h1, h2, decide_true, decide_false]
      cases decide (a0 = a5) <;> cases decide (a1 = a6) <;> cases decide (a2 = a7) <;> cases sameR a3 a8 <;> rfl
  · rw [k h1]
    simp only [h1, decide_false]
    cases decide (a0 = a5) <;> cases decide (a1 = a6) <;> cases decide (a2 = a7) <;> rfl

theorem g13_ok (a0 : Int) (a1 : Int) (a2 : Bool) (a3 : (List (Int × (Int × (Int × Unit))))) (a4 : (List (Int × (Int × (Int × Unit))))) (r0 : IntKind.i64.has a0) (r1 : IntKind.i64.has a1) (r3 : (Ty.sl (rc)).ok a3) (r4 : (Ty.sl (rc)).ok a4) : g13 a0 a1 a2 a3 a4 = some (Sp07.big (a0, a1, a2, a3, a4, ()), ()) := by
  unfold g13 Sp07.big
  have e1 : decide (100 < a3.length) = decide ((a3.length : Int) > 100) := by
    by_cases h : 100 < a3.length <;> simp [h] <;> omega
  have e2 : decide (100 < a4.length) = decide ((a4.length : Int) > 100) := by
    by_cases h : 100 < a4.length <;> simp [h] <;> omega
  simp only [e1, e2, Int.ofNat_eq_natCast]
  cases decide ((a3.length : Int) > 100) <;> rfl

theorem g38_ok (a0 : (List Int)) (a1 : Int) (a2 : Int) (a3 : Int) (r0 : (Ty.sl (.int .u8)).ok a0) (r1 : IntKind.i64.has a1) (r2 : IntKind.i64.has a2) (r3 : IntKind.i64.has a3) : g38 a0 a1 a2 a3 = some ((), (Sp07.append (a0, a1, ()) (Go.IntKind.wrap .u64 a2) a3).1) := by
  rfl

theorem g40_ok (a0 : (List Int)) (a1 : Int) (a2 : Int) (a3 : Int) (r0 : (Ty.sl (.int .u8)).ok a0) (r1 : IntKind.i64.has a1) (r2 : IntKind.i64.has a2) (r3 : IntKind.i64.has a3) : g40 a0 a1 a2 a3 = some ((Sp07.append (a0, a1, ()) (Go.IntKind.wrap .u64 a2) a3).1, ()) := by
  rfl

theorem g21_ok (a0 : (List Int)) (a1 : Int) (a2 : Int) (a3 : Int) (r0 : (Ty.sl (.int .u8)).ok a0) (r1 : IntKind.i64.has a1) (r2 : IntKind.i64.has a2) (r3 : IntKind.i64.has a3) : g21 a0 a1 a2 a3 = some ((Sp07.append (a0, a1, ()) (Go.IntKind.wrap .u64 a2) a3).1, ()) := by
  rfl

theorem vlen_iff {n : Int} (h : vlen n = true) : n = 8 ∨ n = 16 ∨ n = 32 ∨ n = 64 := by
  simpa [vlen, or_assoc] using h

theorem g41_ok (a0 : Int) (r0 : IntKind.i64.has a0) (h : (Sp07.vlen a0) = true) : g41 a0 = some (Sp07.code a0, ()) := by
  have k : ∀ n : Int, n = 8 ∨ n = 16 ∨ n = 32 ∨ n = 64 → Loop g41_s0 ((0 : Int), (n, ())) = some (Sp07.code n, ()) := by
    intro n hn
    rcases hn with rfl | rfl | rfl | rfl
    · exact Loop_of (n := 1) rfl
    · exact Loop_of (n := 2) rfl
    · exact Loop_of (n := 3) rfl
    · exact Loop_of (n := 4) rfl
  unfold g41
  rw [k a0 (vlen_iff h)]
  rfl

theorem g47_ok (a0 : Int) (r0 : IntKind.i64.has a0) (h : (Sp07.inside a0 0 3) = true) : g47 a0 = some (Sp07.decoded a0, ()) := by
  have h1 : 0 ≤ a0 ∧ a0 ≤ 3 := by simpa [Sp07.inside] using h
  have : a0 = 0 ∨ a0 = 1 ∨ a0 = 2 ∨ a0 = 3 := by omega
  rcases this with rfl | rfl | rfl | rfl <;> rfl

end Go.Abs.C07

namespace Go.Abs.C07
open Go Go.Proofs Sp07
set_option maxRecDepth 20000

theorem append_good {bs : List Bool} {v w : Int} (h1 : bs.length ≤ 8000) (hw : 0 ≤ w ∧ w ≤ 64 ∧ 0 ≤ v ∧ v < 2 ^ w.toNat) : Sp07.append (Sp07.enc bs) v w = (Sp07.enc (bs ++ vbits v.toNat w.toNat), 0, ()) := by
  unfold Sp07.append
  have d1 : ¬ w < 0 := by omega
  have d2 : ¬ 64 < w := by omega
  have d3 : v / 2 ^ w.toNat = 0 := Int.ediv_eq_zero_of_lt hw.2.2.1 hw.2.2.2
  have d4 : ¬ 8192 < (Sp07.enc bs).2.1 + w := by
    have : (Sp07.enc bs).2.1 = (bs.length : Int) := rfl
    omega
  simp only [valid_enc (show bs.length ≤ 8192 by omega), d1, d2, d3, d4, bits_enc, Bool.not_true, decide_true, decide_false, Bool.or_self, Bool.and_false, cond_false]
theorem enc_nil : Sp07.enc [] = ([], 0, ()) := by unfold Sp07.enc pack; simp
def put1 (s : S) (v w : Int) : S := (Sp07.append s (IntKind.wrap .u64 v) w).1
theorem put_good {bs : List Bool} {v : Int} (n : Nat) (hn : n ≤ 20) (h1 : bs.length ≤ 8000) (hv : 0 ≤ v) (h2 : v < 2 ^ n) : put1 (Sp07.enc bs) v (n : Int) = Sp07.enc (bs ++ vbits v.toNat n) := by
  have h3 : (2 : Int) ^ n ≤ 2 ^ 20 := by
    rw [pow_cast, pow_cast]
    exact Int.ofNat_le.2 (Nat.pow_le_pow_right (by decide) hn)
  have h4 : (2 : Int) ^ 20 = 1048576 := by decide
  unfold put1
  rw [wu64 hv (by omega), append_good h1 ⟨by omega, by omega, hv, by simpa using h2⟩]
  simp

theorem inside_iff {n a b : Int} : inside n a b = true ↔ a ≤ n ∧ n ≤ b := by simp [inside]
theorem badL_false {r : Int} {l : List Rc} {i : Nat} (h : badL r l i = false) : (1 ≤ (l.getD i zr).1 ∧ (l.getD i zr).1 ≤ 99) ∧ (l.getD i zr).1 ≠ r ∧ (1 ≤ (l.getD i zr).2.1 ∧ (l.getD i zr).2.1 ≤ 1000) ∧ (0 ≤ (l.getD i zr).2.2.1 ∧ (l.getD i zr).2.2.1 ≤ 1000) := by
  unfold badL at h
  simp only [Bool.or_eq_false_iff, Bool.not_eq_false', decide_eq_false_iff_not, inside_iff] at h
  exact ⟨h.1.1.1.1, h.1.1.1.2, h.1.1.2, h.1.2⟩
theorem badC_false {l : List Rc} {i : Nat} (h : badC l i = false) : (0 ≤ (l.getD i zr).1 ∧ (l.getD i zr).1 ≤ 7) ∧ (1 ≤ (l.getD i zr).2.1 ∧ (l.getD i zr).2.1 ≤ 256) ∧ vlen (l.getD i zr).2.2.1 = true := by
  unfold badC at h
  simp only [Bool.or_eq_false_iff, Bool.not_eq_false', inside_iff] at h
  exact ⟨h.1.1.1, h.1.1.2, h.1.2⟩
structure Good (a : Ad) : Prop where
  r : 1 ≤ a.1 ∧ a.1 ≤ 99
  q : 1 ≤ a.2.1 ∧ a.2.1 ≤ 1000000
  ln : a.2.2.2.1.length ≤ 23
  ls : ∀ i, i < a.2.2.2.1.length → badL a.1 a.2.2.2.1 i = false
  cn : a.2.2.2.2.1.length ≤ 8
  cs : ∀ i, i < a.2.2.2.2.1.length → badC a.2.2.2.2.1 i = false
theorem validA_iff {a : Ad} : validA a = true ↔ Good a := by
  simp only [validA, validC, Bool.and_eq_true, decide_eq_true_eq, inside_iff, List.all_eq_true, List.mem_range, Bool.not_eq_true']
  constructor
  · rintro ⟨⟨⟨⟨h1, h2⟩, h3⟩, h4⟩, h5, h6⟩
    exact ⟨h1, h2, h3, h4, h5, h6⟩
  · rintro ⟨h1, h2, h3, h4, h5, h6⟩
    exact ⟨⟨⟨⟨h1, h2⟩, h3⟩, h4⟩, h5, h6⟩

theorem bitsL_length (r : Rc) : (bitsL r).length = 27 := by simp [bitsL, vbits_length]
theorem bitsC_length (r : Rc) : (bitsC r).length = 14 := by simp [bitsC, vbits_length]
theorem flat_length {f : Rc → List Bool} {k : Nat} (hf : ∀ r, (f r).length = k) : ∀ l : List Rc, (l.flatMap f).length = k * l.length
  | [] => by simp
  | x :: l => by rw [List.flatMap_cons, List.length_append, hf, flat_length hf l, List.length_cons, Nat.mul_add]; omega
theorem flat_take {f : Rc → List Bool} {l : List Rc} {i : Nat} (h : i < l.length) : (l.take (i + 1)).flatMap f = (l.take i).flatMap f ++ f (l.getD i zr) := by
  rw [take_succ_getD l i zr h, List.flatMap_append]
  simp

theorem fold_loop {f : Rc → List Bool} {k : Nat} (hf : ∀ r, (f r).length = k) (hk : k ≤ 27) (l : List Rc) (hl : l.length ≤ 23) (g : S → Rc → S) {step : S × Int × Unit → Option (Sum (S × Int × Unit) (S × Unit))}
    (h1 : ∀ (s : S) (i : Int), 0 ≤ i → i < (l.length : Int) → step (s, i, ()) = some (.inl (g s (l.getD i.toNat zr), i + 1, ())))
    (h0 : ∀ s : S, step (s, (l.length : Int), ()) = some (.inr (s, ())))
    (hg : ∀ (bs : List Bool) (i : Nat), bs.length ≤ 2000 → i < l.length → g (Sp07.enc bs) (l.getD i zr) = Sp07.enc (bs ++ f (l.getD i zr)))
    (bs : List Bool) (hb : bs.length ≤ 1000) : Loop step (Sp07.enc bs, (0 : Int), ()) = some (Sp07.enc (bs ++ l.flatMap f), ()) := by
  refine Loop_inv (fun v : S × Int × Unit => 0 ≤ v.2.1 ∧ v.2.1 ≤ (l.length : Int) ∧ v.1 = Sp07.enc (bs ++ (l.take v.2.1.toNat).flatMap f)) (fun v : S × Int × Unit => ((l.length : Int) - v.2.1).toNat)
    (fun _ : S × Int × Unit => (Sp07.enc (bs ++ l.flatMap f), ())) ?_ (v := (Sp07.enc bs, 0, ())) ⟨by simp, by simp, by simp⟩
  rintro ⟨s, i, ⟨⟩⟩ ⟨k1, k2, k3⟩
  simp only at k1 k2 k3
  by_cases h : i < (l.length : Int)
  · right
    have hi : i.toNat < l.length := by omega
    have hlen : (bs ++ (l.take i.toNat).flatMap f).length ≤ 2000 := by
      rw [List.length_append, flat_length hf]
      have e1 : (l.take i.toNat).length ≤ 23 := by simp; omega
      have e2 : k * (l.take i.toNat).length ≤ 27 * 23 := Nat.mul_le_mul hk e1
      omega
    refine ⟨_, h1 s i k1 h, ⟨by simp only; omega, by simp only; omega, ?_⟩, by simp only; omega, rfl⟩
    simp only
    rw [k3, hg _ _ hlen hi, show (i + 1).toNat = i.toNat + 1 by omega, flat_take hi, List.append_assoc]
  · left
    have : i = (l.length : Int) := by omega
    subst this
    rw [h0, k3, Int.toNat_natCast, List.take_length]

def putL (s : S) (x : Rc) : S := put1 (put1 (put1 s x.1 7) x.2.1 10) x.2.2.1 10
def putC (s : S) (x : Rc) : S := put1 (put1 (put1 s x.1 3) x.2.1 9) (code x.2.2.1) 2
theorem code_lt {n : Int} : 0 ≤ code n ∧ code n < 4 := by
  unfold code
  by_cases h1 : n = 64 <;> by_cases h2 : n = 32 <;> by_cases h3 : n = 16 <;> simp [h1, h2, h3]
theorem putL_good {a : Ad} (ha : Good a) (bs : List Bool) (i : Nat) (hb : bs.length ≤ 2000) (hi : i < a.2.2.2.1.length) : putL (Sp07.enc bs) (a.2.2.2.1.getD i zr) = Sp07.enc (bs ++ bitsL (a.2.2.2.1.getD i zr)) := by
  obtain ⟨g1, _, g2, g3⟩ := badL_false (ha.ls i hi)
  generalize a.2.2.2.1.getD i zr = x at g1 g2 g3
  unfold putL bitsL
  have p1 : (2 : Int) ^ 7 = 128 := by decide
  have p2 : (2 : Int) ^ 10 = 1024 := by decide
  have e1 := put_good (bs := bs) (v := x.1) 7 (by omega) (by omega) (by omega) (by omega)
  have e2 := put_good (bs := bs ++ vbits x.1.toNat 7) (v := x.2.1) 10 (by omega) (by rw [List.length_append, vbits_length]; omega) (by omega) (by omega)
  have e3 := put_good (bs := (bs ++ vbits x.1.toNat 7) ++ vbits x.2.1.toNat 10) (v := x.2.2.1) 10 (by omega) (by simp only [List.length_append, vbits_length]; omega) (by omega) (by omega)
  simp only [Int.cast_ofNat_Int] at e1 e2 e3
  rw [e1, e2, e3]
  simp only [List.append_assoc]
theorem putC_good {a : Ad} (ha : Good a) (bs : List Bool) (i : Nat) (hb : bs.length ≤ 2000) (hi : i < a.2.2.2.2.1.length) : putC (Sp07.enc bs) (a.2.2.2.2.1.getD i zr) = Sp07.enc (bs ++ bitsC (a.2.2.2.2.1.getD i zr)) := by
  obtain ⟨g1, g2, g3⟩ := badC_false (ha.cs i hi)
  generalize a.2.2.2.2.1.getD i zr = x at g1 g2 g3
  unfold putC bitsC
  have p1 : (2 : Int) ^ 3 = 8 := by decide
  have p2 : (2 : Int) ^ 9 = 512 := by decide
  have p3 : (2 : Int) ^ 2 = 4 := by decide
  have g4 := code_lt (n := x.2.2.1)
  have e1 := put_good (bs := bs) (v := x.1) 3 (by omega) (by omega) (by omega) (by omega)
  have e2 := put_good (bs := bs ++ vbits x.1.toNat 3) (v := x.2.1) 9 (by omega) (by rw [List.length_append, vbits_length]; omega) (by omega) (by omega)
  have e3 := put_good (bs := (bs ++ vbits x.1.toNat 3) ++ vbits x.2.1.toNat 9) (v := code x.2.2.1) 2 (by omega) (by simp only [List.length_append, vbits_length]; omega) (by omega) (by omega)
  simp only [Int.cast_ofNat_Int] at e1 e2 e3
  rw [e1, e2, e3]
  simp only [List.append_assoc]

theorem head_length (a : Ad) : (head a).length = 33 := by simp [head, vbits_length]
theorem head_good {a : Ad} (ha : Good a) : put1 (put1 (put1 (put1 ([], (0 : Int), ()) a.1 7) a.2.1 20) (bif a.2.2.1 then 1 else 0) 1) (a.2.2.2.1.length : Int) 5 = Sp07.enc (head a) := by
  have g1 := ha.r
  have g2 := ha.q
  have g3 := ha.ln
  have p1 : (2 : Int) ^ 7 = 128 := by decide
  have p2 : (2 : Int) ^ 20 = 1048576 := by decide
  have p3 : (2 : Int) ^ 1 = 2 := by decide
  have p4 : (2 : Int) ^ 5 = 32 := by decide
  have g4 : 0 ≤ (bif a.2.2.1 then (1 : Int) else 0) ∧ (bif a.2.2.1 then (1 : Int) else 0) < 2 := by cases a.2.2.1 <;> simp
  have g5 : vbits (bif a.2.2.1 then (1 : Int) else 0).toNat 1 = [a.2.2.1] := by cases a.2.2.1 <;> rfl
  have e1 := put_good (bs := []) (v := a.1) 7 (by omega) (by simp) (by omega) (by omega)
  have e2 := put_good (bs := [] ++ vbits a.1.toNat 7) (v := a.2.1) 20 (by omega) (by simp [vbits_length]) (by omega) (by omega)
  have e3 := put_good (bs := ([] ++ vbits a.1.toNat 7) ++ vbits a.2.1.toNat 20) (v := bif a.2.2.1 then 1 else 0) 1 (by omega) (by simp [vbits_length]) (by omega) (by omega)
  have e4 := put_good (bs := (([] ++ vbits a.1.toNat 7) ++ vbits a.2.1.toNat 20) ++ vbits (bif a.2.2.1 then (1 : Int) else 0).toNat 1) (v := (a.2.2.2.1.length : Int)) 5 (by omega) (by simp [vbits_length]) (by omega) (by omega)
  simp only [Int.cast_ofNat_Int] at e1 e2 e3 e4
  rw [← enc_nil, e1, e2, e3, e4, g5]
  simp only [head, List.nil_append, List.append_assoc, Int.toNat_natCast]
theorem crc_small (bs : List Bool) : crc bs < 65536 := by
  suffices h : ∀ (bs : List Bool) (r : Nat), r < 65536 → bs.foldl crcB r < 65536 from h bs 65535 (by omega)
  intro bs
  induction bs with
  | nil => intro r h; exact h
  | cons b l ih => intro r _; exact ih _ (crc_lt r b)
theorem body_length {a : Ad} (ha : Good a) : (body a).length ≤ 1000 := by
  have g1 := ha.ln
  have g2 := ha.cn
  unfold body
  simp only [List.length_append, head_length, flat_length bitsL_length, flat_length bitsC_length, vbits_length]
  omega
theorem seal_good {bs : List Bool} (h : bs.length ≤ 1000) : put1 (Sp07.enc bs) (IntKind.wrap .i64 (Sp07.check (Sp07.enc bs)).1) 16 = Sp07.enc (sealed bs) := by
  have h1 := crc_small bs
  have hc : (Sp07.check (Sp07.enc bs)).1 = (crc bs : Nat) := by
    unfold Sp07.check
    rw [valid_enc (by omega), bits_enc]
    rfl
  have p1 : (2 : Int) ^ 16 = 65536 := by decide
  have e1 := put_good (bs := bs) (v := ((crc bs : Nat) : Int)) 16 (by omega) (by omega) (by omega) (by omega)
  rw [hc, wi64 (by omega) (by omega)]
  simp only [Int.cast_ofNat_Int] at e1
  rw [e1, Int.toNat_natCast]
  rfl

def stepK (n : Int) (a2 : Int × Unit) : Option (Sum (Int × Unit) (Int × Unit)) :=
  bif decide ((0 : Int) ≤ a2.1) then (bif decide (IntKind.wrap Go.IntKind.i64 ((8 : Int) * Int.pow (2 : Int) (Min.min (Int.toNat a2.1) 64)) < n) then some (.inl (IntKind.wrap Go.IntKind.i64 (a2.1 + 1), ())) else some (.inr a2)) else none
theorem stepK_loop {n : Int} (h : vlen n = true) : Loop (stepK n) ((0 : Int), ()) = some (code n, ()) := by
  rcases vlen_iff h with rfl | rfl | rfl | rfl
  · exact Loop_of (n := 1) rfl
  · exact Loop_of (n := 2) rfl
  · exact Loop_of (n := 3) rfl
  · exact Loop_of (n := 4) rfl

theorem w1 {i : Int} (h0 : 0 ≤ i) (h : i < 100) : IntKind.wrap .i64 (i + 1) = i + 1 := wi64 (by omega) (by omega)

theorem g14_ok (a0 : Int) (a1 : Int) (a2 : Bool) (a3 : (List (Int × (Int × (Int × Unit))))) (a4 : (List (Int × (Int × (Int × Unit))))) (r0 : IntKind.i64.has a0) (r1 : IntKind.i64.has a1) (r3 : (Ty.sl (rc)).ok a3) (r4 : (Ty.sl (rc)).ok a4) : g14 a0 a1 a2 a3 a4 = some (Sp07.encode (a0, a1, a2, a3, a4, ()), ()) := by
  unfold g14 Sp07.encode
  cases hv : Sp07.validA (a0, a1, a2, a3, a4, ()) with
  | false => rfl
  | true =>
    have ha := validA_iff.1 hv
    have g1 := ha.ln
    have g2 := ha.cn
    simp only at g1 g2
    have hh := head_good ha
    simp only [put1] at hh
    have hb : ∀ b : Bool, (bif b then (some ((1 : Int), ()) : Option (Int × Unit)) else some ((0 : Int), ())) = some (bif b then 1 else 0, ()) := by intro b; cases b <;> rfl
    simp only [Bool.not_true, cond_false, hb, Option.bind_some, Int.ofNat_eq_natCast]
    rw [hh]
    rw [fold_loop bitsL_length (by omega) a3 g1 putL (step := g14_s0 a3) (fun s i h0 hi => by
      unfold g14_s0 putL put1 zr
      simp only [hi, h0, decide_true, Bool.and_self, cond_true, Int.ofNat_eq_natCast, w1 h0 (show i < 100 by omega)]) (fun s => by unfold g14_s0; simp) (fun bs i hb hi => putL_good ha bs i hb hi) (head (a0, a1, a2, a3, a4, ())) (by rw [head_length]; omega)]
    simp only [Option.bind_some]
    have p4 : (2 : Int) ^ 4 = 16 := by decide
    have e4 := put_good (bs := head (a0, a1, a2, a3, a4, ()) ++ a3.flatMap bitsL) (v := (a4.length : Int)) 4 (by omega) (by rw [List.length_append, head_length, flat_length bitsL_length]; omega) (by omega) (by omega)
    simp only [put1, Int.cast_ofNat_Int] at e4
    rw [e4]
    rw [fold_loop bitsC_length (by omega) a4 (by omega) putC (step := g14_s2 a4) (fun s i h0 hi => by
      have hi' : i.toNat < a4.length := by omega
      have hk := (badC_false (ha.cs i.toNat hi')).2.2
      have hs : g14_s1 a4 (s, i, ()) = stepK (a4.getD i.toNat zr).2.2.1 := rfl
      unfold g14_s2
      rw [hs]
      unfold putC put1
      simp only at hk
      rw [stepK_loop hk]
      unfold zr
      simp only [hi, h0, decide_true, Bool.and_self, cond_true, Int.ofNat_eq_natCast, w1 h0 (show i < 100 by omega), Option.bind_some]) (fun s => by unfold g14_s2; simp) (fun bs i hb hi => putC_good ha bs i hb hi) _ (by
        simp only [List.length_append, head_length, flat_length bitsL_length, vbits_length]; omega)]
    simp only [Option.bind_some, Int.toNat_natCast]
    have e5 : (head (a0, a1, a2, a3, a4, ()) ++ a3.flatMap bitsL ++ vbits a4.length 4) ++ a4.flatMap bitsC = body (a0, a1, a2, a3, a4, ()) := by
      simp only [body, List.append_assoc]
    rw [e5]
    have e6 := seal_good (body_length ha)
    simp only [put1] at e6
    rw [e6]
    rfl

theorem g15_ok (a0 : Int) (a1 : Int) (a2 : Bool) (a3 : (List (Int × (Int × (Int × Unit))))) (a4 : (List (Int × (Int × (Int × Unit))))) (r0 : IntKind.i64.has a0) (r1 : IntKind.i64.has a1) (r3 : (Ty.sl (rc)).ok a3) (r4 : (Ty.sl (rc)).ok a4) : g15 a0 a1 a2 a3 a4 = some (Sp07.encode (a0, a1, a2, a3, a4, ()), ()) := by
  unfold g15 Sp07.encode
  cases hv : Sp07.validA (a0, a1, a2, a3, a4, ()) with
  | false => rfl
  | true =>
    have ha := validA_iff.1 hv
    have g1 := ha.ln
    have g2 := ha.cn
    simp only at g1 g2
    have hh := head_good ha
    simp only [put1] at hh
    have hb : ∀ b : Bool, (bif b then (some ((1 : Int), ()) : Option (Int × Unit)) else some ((0 : Int), ())) = some (bif b then 1 else 0, ()) := by intro b; cases b <;> rfl
    simp only [Bool.not_true, cond_false, hb, Option.bind_some, Int.ofNat_eq_natCast]
    rw [hh]
    rw [fold_loop bitsL_length (by omega) a3 g1 putL (step := g15_s0 a3) (fun s i h0 hi => by
      unfold g15_s0 putL put1 zr
      simp only [hi, h0, decide_true, Bool.and_self, cond_true, Int.ofNat_eq_natCast, w1 h0 (show i < 100 by omega)]) (fun s => by unfold g15_s0; simp) (fun bs i hb hi => putL_good ha bs i hb hi) (head (a0, a1, a2, a3, a4, ())) (by rw [head_length]; omega)]
    simp only [Option.bind_some]
    have p4 : (2 : Int) ^ 4 = 16 := by decide
    have e4 := put_good (bs := head (a0, a1, a2, a3, a4, ()) ++ a3.flatMap bitsL) (v := (a4.length : Int)) 4 (by omega) (by rw [List.length_append, head_length, flat_length bitsL_length]; omega) (by omega) (by omega)
    simp only [put1, Int.cast_ofNat_Int] at e4
    rw [e4]
    rw [fold_loop bitsC_length (by omega) a4 (by omega) putC (step := g15_s1 a4) (fun s i h0 hi => by
      have hi' : i.toNat < a4.length := by omega
      have hk := (badC_false (ha.cs i.toNat hi')).2.2
      simp only [zr] at hk
      unfold g15_s1 putC put1 zr
      simp only [hi, h0, decide_true, Bool.and_self, cond_true, Int.ofNat_eq_natCast, w1 h0 (show i < 100 by omega), hk, on_true, Option.bind_some]) (fun s => by unfold g15_s1; simp) (fun bs i hb hi => putC_good ha bs i hb hi) _ (by
        simp only [List.length_append, head_length, flat_length bitsL_length, vbits_length]; omega)]
    simp only [Option.bind_some, Int.toNat_natCast]
    have e5 : (head (a0, a1, a2, a3, a4, ()) ++ a3.flatMap bitsL ++ vbits a4.length 4) ++ a4.flatMap bitsC = body (a0, a1, a2, a3, a4, ()) := by
      simp only [body, List.append_assoc]
    rw [e5]
    have e6 := seal_good (body_length ha)
    simp only [put1] at e6
    rw [e6]
    have hl : (sealed (body (a0, a1, a2, a3, a4, ()))).length ≤ 8192 := by
      have := body_length ha
      simp only [sealed, List.length_append, vbits_length]
      omega
    unfold Sp07.align
    rw [valid_enc hl]
    rfl

end Go.Abs.C07

namespace Go.Abs.C07
open Go Go.Proofs Sp07
set_option maxRecDepth 100000

theorem take_range (s : S) (p n : Int) (h : n ≤ 63) : 0 ≤ (Sp07.take s p n).1 ∧ (Sp07.take s p n).1 < 9223372036854775808 := by
  unfold Sp07.take
  cases Sp07.valid s with
  | false => simp
  | true =>
    by_cases h1 : (decide (n < 0) || decide (64 < n) || decide (p < 0)) = true
    · simp [h1]
    · by_cases h2 : s.2.1 - n < p
      · simp [h1, h2]
      · simp only [Bool.not_eq_true] at h1
        simp only [h1, h2, decide_false, cond_false, Bool.not_true]
        have k := valOf_lt (bitsR s.1 p.toNat n.toNat)
        rw [bitsR_length] at k
        have k2 : 2 ^ n.toNat ≤ 2 ^ 63 := Nat.pow_le_pow_right (by decide) (by omega)
        have k3 : (2 : Nat) ^ 63 = 9223372036854775808 := by decide
        omega

theorem g42_ok (a0 : (List Int)) (a1 : Int) (a2 : Int) (a3 : Bool) (a4 : Int) (r0 : (Ty.sl (.int .u8)).ok a0) (r1 : IntKind.i64.has a1) (r2 : IntKind.i64.has a2) (r4 : IntKind.i64.has a4) (h : (Sp07.inside a4 0 63 && Sp07.inside a2 0 100000) = true) : g42 a0 a1 a2 a3 a4 = some (Sp07.rtake (a0, a1, a2, a3, ()) a4) := by
  rw [Bool.and_eq_true, inside_iff, inside_iff] at h
  have k := take_range (a0, a1, ()) a2 a4 h.1.2
  have e1 : IntKind.wrap .i64 (Sp07.take (a0, a1, ()) a2 a4).1 = (Sp07.take (a0, a1, ()) a2 a4).1 := wi64 (by omega) (by omega)
  have e2 : IntKind.wrap .i64 (a2 + a4) = a2 + a4 := wi64 (by omega) (by omega)
  unfold g42 rtake
  simp only [e1]
  cases a3 <;> simp [e2]

theorem g46_ok (a0 : (List Int)) (a1 : Int) (a2 : Int) (a3 : Int) (r0 : (Ty.sl (.int .u8)).ok a0) (r1 : IntKind.i64.has a1) (r2 : IntKind.i64.has a2) (r3 : IntKind.i64.has a3) (h : (Sp07.inside a3 0 63) = true) : g46 a0 a1 a2 a3 = some (Sp07.getR (a0, a1, ()) a2 a3, ()) := by
  rw [inside_iff] at h
  have k := take_range (a0, a1, ()) a2 a3 h.2
  have e1 : IntKind.wrap .i64 (Sp07.take (a0, a1, ()) a2 a3).1 = (Sp07.take (a0, a1, ()) a2 a3).1 := wi64 (by omega) (by omega)
  unfold g46 getR
  rw [e1]
  by_cases hq : (Sp07.take (a0, a1, ()) a2 a3).2.1 = 0 <;> simp [hq]

theorem valid_bytes {l : List Int} (h : l.length ≤ 1024) : valid (l, 8 * (l.length : Int), ()) = true := by
  refine valid_iff.2 ⟨by simp only; omega, by simp only; omega, by simp only; omega, fun i hi => bitAt_ge ?_⟩
  simp only at hi ⊢
  omega
theorem take_bytes {l : List Int} (h : l.length ≤ 1024) (p n : Nat) (hn : n ≤ 64) : Sp07.take (l, 8 * (l.length : Int), ()) p n = bif decide (p + n ≤ 8 * l.length) then (gv l p n, 0, ()) else (0, 20, ()) := by
  unfold Sp07.take
  have c1 : ¬ (n : Int) < 0 := by omega
  have c2 : ¬ 64 < (n : Int) := by omega
  have c3 : ¬ (p : Int) < 0 := by omega
  rw [valid_bytes h]
  by_cases hq : p + n ≤ 8 * l.length
  · have c4 : ¬ 8 * (l.length : Int) - n < p := by omega
    simp only [c1, c2, c3, c4, decide_false, Bool.not_true, cond_false, Bool.or_self, hq, decide_true, cond_true, gv, Int.toNat_natCast]
  · have c4 : 8 * (l.length : Int) - n < p := by omega
    simp only [c1, c2, c3, c4, decide_false, Bool.not_true, cond_false, Bool.or_self, hq, decide_true, cond_true]

theorem gv_range (l : List Int) (p w : Nat) : 0 ≤ gv l p w ∧ gv l p w < (2 ^ w : Nat) := by
  unfold gv
  by_cases h : p + w ≤ 8 * l.length
  · have k := valOf_lt (bitsR l p w)
    rw [bitsR_length] at k
    simp only [h, decide_true, cond_true]
    omega
  · have := Nat.two_pow_pos w
    simp only [h, decide_false, cond_false]
    omega
theorem nL_lt (l : List Int) : nL l < 32 := by
  have := gv_range l 28 5
  unfold nL
  have k : 2 ^ 5 = 32 := by decide
  omega
theorem nC_lt (l : List Int) : nC l < 16 := by
  have := gv_range l (atC l) 4
  unfold nC
  have k : 2 ^ 4 = 16 := by decide
  omega
theorem atC_le (l : List Int) : 33 ≤ atC l ∧ atC l ≤ 870 := by
  have := nL_lt l
  unfold atC
  omega
theorem end_le (l : List Int) : 37 ≤ endB l ∧ endB l ≤ 1084 := by
  have := nC_lt l
  have := atC_le l
  unfold endB
  omega

def rst (l : List Int) (p : Nat) : Rd := (l, 8 * (l.length : Int), p, decide (8 * l.length < p), ())
theorem rd {l : List Int} (h : l.length ≤ 1024) (p n : Nat) (hn : n ≤ 64) : rtake (rst l p) n = (gv l p n, rst l (p + n)) := by
  unfold rtake rst
  simp only
  rw [take_bytes h p n hn]
  by_cases hq : p + n ≤ 8 * l.length
  · have c1 : ¬ 8 * l.length < p := by omega
    have c2 : ¬ 8 * l.length < p + n := by omega
    simp [hq, c1, c2]
  · have c2 : 8 * l.length < p + n := by omega
    simp [hq, c2, gv]
theorem on_rd {l : List Int} (h : l.length ≤ 1024) (p n : Nat) (w : Int) (hw : w = n) (hn : n ≤ 63) (hp : p ≤ 100000) : on (inside w 0 63 && inside (rst l p).2.2.1 0 100000) (rtake (rst l p) w) = some (gv l p n, rst l (p + n)) := by
  subst hw
  rw [rd h p n (by omega)]
  exact on_true (by rw [Bool.and_eq_true, inside_iff, inside_iff]; simp only [rst]; omega)

theorem bitAt_take (l : List Int) (m i : Nat) (h : i < 8 * m) : bitAt (l.take m) i = bitAt l i := by
  unfold bitAt
  congr 1
  simp only [List.getD_eq_getElem?_getD]
  rw [List.getElem?_take_of_lt (by omega)]
theorem bitsR_take (l : List Int) (m p n : Nat) (h : p + n ≤ 8 * m) : bitsR (l.take m) p n = bitsR l p n := by
  unfold bitsR
  refine List.map_congr_left fun j hj => ?_
  rw [List.mem_range] at hj
  exact bitAt_take l m _ (by omega)
theorem gv_cut (l : List Int) (m p n : Nat) (h : p + n ≤ 8 * m) : gv (l.take m) p n = gv l p n := by
  unfold gv
  rw [bitsR_take l m p n h, List.length_take]
  have : (p + n ≤ 8 * min m l.length) = (p + n ≤ 8 * l.length) := propext (by omega)
  simp only [this]
theorem nL_cut (l : List Int) (m : Nat) (h : 200 ≤ m) : nL (l.take m) = nL l := by
  unfold nL
  rw [gv_cut _ _ _ _ (by omega)]
theorem atC_cut (l : List Int) (m : Nat) (h : 200 ≤ m) : atC (l.take m) = atC l := by
  unfold atC
  rw [nL_cut l m h]
theorem nC_cut (l : List Int) (m : Nat) (h : 200 ≤ m) : nC (l.take m) = nC l := by
  have := atC_le l
  unfold nC
  rw [atC_cut l m h, gv_cut _ _ _ _ (by omega)]
theorem end_cut (l : List Int) (m : Nat) (h : 200 ≤ m) : endB (l.take m) = endB l := by
  unfold endB
  rw [atC_cut l m h, nC_cut l m h]
theorem fields_cut (l : List Int) (m : Nat) (h : 200 ≤ m) : fields (l.take m) = fields l := by
  have h1 := nL_lt l
  have h2 := nC_lt l
  have h3 := atC_le l
  unfold fields
  rw [nL_cut l m h, nC_cut l m h, atC_cut l m h, gv_cut _ _ _ _ (by omega), gv_cut _ _ _ _ (by omega), gv_cut _ _ _ _ (by omega)]
  have e1 : (List.range (nL l)).map (fun i => rdL (l.take m) (33 + 27 * i)) = (List.range (nL l)).map (fun i => rdL l (33 + 27 * i)) := by
    refine List.map_congr_left fun j hj => ?_
    rw [List.mem_range] at hj
    unfold rdL
    rw [gv_cut _ _ _ _ (by omega), gv_cut _ _ _ _ (by omega), gv_cut _ _ _ _ (by omega)]
  have e2 : (List.range (nC l)).map (fun i => rdC (l.take m) (atC l + 4 + 14 * i)) = (List.range (nC l)).map (fun i => rdC l (atC l + 4 + 14 * i)) := by
    refine List.map_congr_left fun j hj => ?_
    rw [List.mem_range] at hj
    unfold rdC
    rw [gv_cut _ _ _ _ (by omega), gv_cut _ _ _ _ (by omega), gv_cut _ _ _ _ (by omega)]
  rw [e1, e2]

theorem room {n : Nat} (h : n ≤ 1000) : Nat.ble ((n + 1) * 24) 140737488355328 = true := ble_t (by omega)
theorem rlinks {l : List Int} (h : l.length ≤ 1024) : ∀ (k p : Nat) (ad : Ad), p + 27 * k ≤ 5000 → ad.2.2.2.1.length + k ≤ 100 →
    Loop g16_s0 (rst l p, ad, (k : Int), ()) = some (rst l (p + 27 * k), (ad.1, ad.2.1, ad.2.2.1, ad.2.2.2.1 ++ (List.range k).map (fun i => rdL l (p + 27 * i)), ad.2.2.2.2), ()) := by
  intro k
  induction k with
  | zero =>
    intro p ad h1 h2
    rw [Loop_step]
    have : g16_s0 (rst l p, ad, ((0 : Nat) : Int), ()) = some (.inr (rst l p, ad, ())) := rfl
    rw [this]
    simp
  | succ k ih =>
    intro p ad h1 h2
    have hs : g16_s0 (rst l p, ad, ((k + 1 : Nat) : Int), ()) = some (.inl (rst l (p + 27), (ad.1, ad.2.1, ad.2.2.1, ad.2.2.2.1 ++ [rdL l p], ad.2.2.2.2), (k : Int), ())) := by
      have c : ((k + 1 : Nat) : Int) > 0 := by omega
      have e : IntKind.wrap .i64 (((k + 1 : Nat) : Int) - 1) = (k : Int) := by rw [wi64 (by omega) (by omega)]; omega
      unfold g16_s0
      simp only [c, decide_true, cond_true, on_rd h p 7 7 rfl (by decide) (by omega), Option.bind_some, on_rd h (p + 7) 10 10 rfl (by decide) (by omega), on_rd h (p + 7 + 10) 10 10 rfl (by decide) (by omega), e, room (n := ad.2.2.2.1.length) (by omega)]
      rfl
    rw [Loop_step, hs]
    simp only
    rw [ih (p + 27) _ (by omega) (by simp only [List.length_append, List.length_singleton]; omega)]
    simp only [List.append_assoc, List.singleton_append]
    rw [List.range_succ_eq_map, List.map_cons, List.map_map]
    have e1 : p + 27 + 27 * k = p + 27 * (k + 1) := by omega
    have e2 : (fun i => rdL l (p + 27 + 27 * i)) = (fun i => rdL l (p + 27 * i)) ∘ Nat.succ := by
      funext i
      simp only [Function.comp]
      congr 1
      omega
    rw [e1, e2]
    simp
theorem dec_run {y : Int} (h0 : 0 ≤ y) (h : y < 4) : IntKind.wrap .i64 (8 * Int.pow 2 (min y.toNat 64)) = decoded y := by
  have : y = 0 ∨ y = 1 ∨ y = 2 ∨ y = 3 := by omega
  rcases this with rfl | rfl | rfl | rfl <;> rfl
theorem gv2 (l : List Int) (p : Nat) : 0 ≤ gv l p 2 ∧ gv l p 2 < 4 := gv_range l p 2
theorem rclaims {l : List Int} (h : l.length ≤ 1024) : ∀ (k p : Nat) (ad : Ad), p + 14 * k ≤ 5000 → ad.2.2.2.2.1.length + k ≤ 100 →
    Loop g16_s1 ((k : Int), ad, rst l p, ()) = some ((ad.1, ad.2.1, ad.2.2.1, ad.2.2.2.1, ad.2.2.2.2.1 ++ (List.range k).map (fun i => rdC l (p + 14 * i)), ()), rst l (p + 14 * k), ()) := by
  intro k
  induction k with
  | zero =>
    intro p ad h1 h2
    rw [Loop_step]
    have : g16_s1 (((0 : Nat) : Int), ad, rst l p, ()) = some (.inr (ad, rst l p, ())) := rfl
    rw [this]
    simp
  | succ k ih =>
    intro p ad h1 h2
    have hs : g16_s1 (((k + 1 : Nat) : Int), ad, rst l p, ()) = some (.inl ((k : Int), (ad.1, ad.2.1, ad.2.2.1, ad.2.2.2.1, ad.2.2.2.2.1 ++ [rdC l p], ()), rst l (p + 14), ())) := by
      have c : ((k + 1 : Nat) : Int) > 0 := by omega
      have e : IntKind.wrap .i64 (((k + 1 : Nat) : Int) - 1) = (k : Int) := by rw [wi64 (by omega) (by omega)]; omega
      have g := gv2 l (p + 3 + 9)
      unfold g16_s1
      simp only [c, decide_true, cond_true, on_rd h p 3 3 rfl (by decide) (by omega), Option.bind_some, on_rd h (p + 3) 9 9 rfl (by decide) (by omega), on_rd h (p + 3 + 9) 2 2 rfl (by decide) (by omega), e, room (n := ad.2.2.2.2.1.length) (by omega), dec_run g.1 g.2, g.1]
      rfl
    rw [Loop_step, hs]
    simp only
    rw [ih (p + 14) _ (by omega) (by simp only [List.length_append, List.length_singleton]; omega)]
    simp only [List.append_assoc, List.singleton_append]
    rw [List.range_succ_eq_map, List.map_cons, List.map_map]
    have e1 : p + 14 + 14 * k = p + 14 * (k + 1) := by omega
    have e2 : (fun i => rdC l (p + 14 + 14 * i)) = (fun i => rdC l (p + 14 * i)) ∘ Nat.succ := by
      funext i
      simp only [Function.comp]
      congr 1
      omega
    rw [e1, e2]
    simp
theorem check_slice {l : List Int} (h : l.length ≤ 1024) {e : Nat} (he : e ≤ 8 * l.length) : IntKind.wrap .i64 (Sp07.check (Sp07.slice (l, 8 * (l.length : Int), ()) 0 e).1).1 = (crc (bitsR l 0 e) : Nat) := by
  have hs : (Sp07.slice (l, 8 * (l.length : Int), ()) 0 e).1 = Sp07.enc (bitsR l 0 e) := by
    unfold Sp07.slice
    have c1 : ¬ (0 : Int) < 0 := by omega
    have c2 : ¬ (e : Int) < 0 := by omega
    have c3 : ¬ 8 * (l.length : Int) < e := by omega
    rw [valid_bytes h]
    simp only [c1, c2, c3, decide_false, Bool.not_true, cond_false, Bool.or_self]
    simp
  have hl : (bitsR l 0 e).length ≤ 8192 := by rw [bitsR_length]; omega
  rw [hs]
  unfold Sp07.check
  rw [valid_enc hl, bits_enc]
  have := crc_small (bitsR l 0 e)
  simp only [Bool.not_true, cond_false]
  exact wi64 (by omega) (by omega)
theorem free_end : ∀ e : Fin 1100, IntKind.wrap .i64 (Int.ofNat (BitVec.and (BitVec.ofInt 64 (IntKind.wrap .i64 (0 - (((e.val + 16 : Nat)) : Int)))) (BitVec.ofInt 64 7)).toNat) = ((free e.val : Nat) : Int) := by decide +kernel
theorem free_le (e : Nat) : free e ≤ 7 ∧ e + 16 + free e = 8 * ((e + 23) / 8) := by unfold free; omega
theorem gvN (l : List Int) (p w : Nat) : gv l p w = ((gv l p w).toNat : Nat) := (Int.toNat_of_nonneg (gv_range l p w).1).symm
end Go.Abs.C07

namespace Go.Abs.C07
open Go Go.Proofs Sp07
set_option maxRecDepth 100000

theorem front (l : List Int) : List.drop 0 (List.take (Int.toNat (bif decide ((1024 : Int) < Int.ofNat l.length) then (1024 : Int) else Int.ofNat l.length)) l) = l.take 1024 := by
  rw [List.drop_zero]
  by_cases h : (1024 : Int) < Int.ofNat l.length
  · simp only [h, decide_true, cond_true]; rfl
  · have h' : l.length ≤ 1024 := by simp only [Int.ofNat_eq_natCast] at h; omega
    rw [decide_eq_false h]
    simp only [cond_false, Int.ofNat_eq_natCast, Int.toNat_natCast]
    rw [List.take_of_length_le (Nat.le_refl _), List.take_of_length_le h']

theorem nL_cast (l : List Int) : gv l 28 5 = (nL l : Int) := gvN l 28 5
theorem nC_cast (l : List Int) : gv l (atC l) 4 = (nC l : Int) := gvN l _ 4

theorem g16_ok (a0 : (List Int)) (r0 : (Ty.sl (.int .u8)).ok a0) : g16 a0 = some (Sp07.decode a0, ()) := by
  have hlen := (dat r0).1
  have hb : (a0.take 1024).length ≤ 1024 := by rw [List.length_take]; omega
  have e0 : IntKind.wrap .i64 (8 * Int.ofNat (a0.take 1024).length) = 8 * ((a0.take 1024).length : Int) := wi64 (by simp only [Int.ofNat_eq_natCast]; omega) (by simp only [Int.ofNat_eq_natCast]; omega)
  have c0 : (true && (decide ((0 : Int) ≤ (bif (decide ((1024 : Int) < (Int.ofNat a0.length))) then (1024 : Int) else (Int.ofNat a0.length)))) && (decide ((bif (decide ((1024 : Int) < (Int.ofNat a0.length))) then (1024 : Int) else (Int.ofNat a0.length)) ≤ (Int.ofNat a0.length)))) = true := by
    by_cases h : (1024 : Int) < Int.ofNat a0.length
    · simp only [h, decide_true, cond_true, Bool.true_and, Bool.and_eq_true, decide_eq_true_eq]
      simp only [Int.ofNat_eq_natCast] at h ⊢
      omega
    · simp only [h, decide_false, cond_false, Bool.true_and, Bool.and_eq_true, decide_eq_true_eq]
      simp only [Int.ofNat_eq_natCast] at h ⊢
      omega
  have st : ((a0.take 1024), 8 * ((a0.take 1024).length : Int), (0 : Int), false, ()) = rst (a0.take 1024) 0 := by
    unfold rst
    simp
  unfold g16
  rw [c0]
  simp only [cond_true, front, e0]
  rw [st]
  have e1 := nL_lt (a0.take 1024)
  have e2 := nC_lt (a0.take 1024)
  have e3 := atC_le (a0.take 1024)
  have e4 := end_le (a0.take 1024)
  have f1 : 33 + 27 * nL (a0.take 1024) = atC (a0.take 1024) := rfl
  have f2 : atC (a0.take 1024) + 4 + 14 * nC (a0.take 1024) = endB (a0.take 1024) := rfl
  have i0 : on (inside 7 0 63 && inside (0 : Int) 0 100000) (rtake (rst (a0.take 1024) 0) 7) = some (gv (a0.take 1024) 0 7, rst (a0.take 1024) 7) := on_rd hb 0 7 7 rfl (by decide) (by omega)
  simp only [i0, Option.bind_some, on_rd hb 7 20 20 rfl (by decide) (by omega), on_rd hb (7 + 20) 1 1 rfl (by decide) (by omega), on_rd hb (7 + 20 + 1) 5 5 rfl (by decide) (by omega)]
  rw [nL_cast, rlinks hb _ _ _ (by omega) (by simp only [List.length_nil]; omega)]
  simp only [Option.bind_some, f1]
  rw [on_rd hb _ 4 4 rfl (by decide) (by omega)]
  simp only [Option.bind_some]
  rw [nC_cast, rclaims hb _ _ _ (by omega) (by simp only [List.length_nil]; omega)]
  simp only [Option.bind_some, f2]
  rw [on_rd hb _ 16 16 rfl (by decide) (by omega)]
  simp only [Option.bind_some]
  have hf : ((gv (a0.take 1024) 0 7, gv (a0.take 1024) 7 20, decide (gv (a0.take 1024) (7 + 20) 1 = 1), [] ++ (List.range (nL (a0.take 1024))).map (fun i => rdL (a0.take 1024) (7 + 20 + 1 + 5 + 27 * i)), [] ++ (List.range (nC (a0.take 1024))).map (fun i => rdC (a0.take 1024) (atC (a0.take 1024) + 4 + 14 * i)), ()) : Ad) = fields a0 := by
    rw [← fields_cut a0 1024 (by decide)]
    rfl
  rw [hf]
  have hfr : (rst (a0.take 1024) (endB (a0.take 1024) + 16)).2.2.1 = ((endB (a0.take 1024) + 16 : Nat) : Int) := rfl
  rw [hfr, free_end ⟨endB (a0.take 1024), by omega⟩]
  have hfl := free_le (endB (a0.take 1024))
  have hon := on_rd hb (endB (a0.take 1024) + 16) (free (endB (a0.take 1024))) _ rfl (by omega) (by omega)
  rw [hfr] at hon
  simp only
  rw [hon]
  simp only [Option.bind_some]
  have ec : endB (a0.take 1024) = endB a0 := end_cut a0 1024 (by decide)
  have hbad : (rst (a0.take 1024) (endB (a0.take 1024) + 16)).2.2.2.1 = decide (8 * a0.length < endB a0 + 16) := by
    show decide (8 * (a0.take 1024).length < endB (a0.take 1024) + 16) = _
    rw [List.length_take, ec]
    rw [ec] at e4
    congr 1
    exact propext (by omega)
  rw [hbad]
  unfold Sp07.decode
  by_cases hs : 8 * a0.length < endB a0 + 16
  · simp only [hs, decide_true, cond_true]
    rfl
  simp only [hs, decide_false, cond_false]
  rw [ec] at e4 hfl
  rw [ec]
  have hlb : endB a0 ≤ 8 * (a0.take 1024).length := by rw [List.length_take]; omega
  have hck := check_slice hb hlb
  rw [bitsR_take a0 1024 0 _ (by omega)] at hck
  have g1 : gv (a0.take 1024) (endB a0) 16 = gv a0 (endB a0) 16 := gv_cut _ _ _ _ (by omega)
  have g2 : gv (a0.take 1024) (endB a0 + 16) (free (endB a0)) = gv a0 (endB a0 + 16) (free (endB a0)) := gv_cut _ _ _ _ (by omega)
  have hck2 : IntKind.wrap .i64 (Sp07.check (Sp07.slice ((rst (a0.take 1024) (endB a0 + 16)).1, (rst (a0.take 1024) (endB a0 + 16)).2.1, ()) 0 (rst (a0.take 1024) (endB a0)).2.2.1).1).1 = (crc (bitsR a0 0 (endB a0)) : Nat) := hck
  rw [hck2, g1, g2]
  have hl8 : IntKind.wrap .i64 (8 * Int.ofNat a0.length) = 8 * (a0.length : Int) := wi64 (by simp only [Int.ofNat_eq_natCast]; omega) (by simp only [Int.ofNat_eq_natCast]; omega)
  rw [hl8]
  have hend : decide (8 * (a0.length : Int) > (rst (a0.take 1024) (endB a0 + 16 + free (endB a0))).2.2.1) = decide (8 * ((endB a0 + 23) / 8) < 8 * a0.length) := by
    show decide (8 * (a0.length : Int) > ((endB a0 + 16 + free (endB a0) : Nat) : Int)) = _
    congr 1
    exact propext (by omega)
  rw [hend]
  cases decide (gv a0 (endB a0) 16 = ((crc (bitsR a0 0 (endB a0)) : Nat) : Int)) with
  | false => rfl
  | true =>
    cases decide (gv a0 (endB a0 + 16) (free (endB a0)) = 0) with
    | false => rfl
    | true =>
      cases decide (8 * ((endB a0 + 23) / 8) < 8 * a0.length) with
      | true => rfl
      | false => cases Sp07.validA (fields a0) <;> rfl
end Go.Abs.C07

namespace Go.Abs.C07
open Go Go.Proofs Sp07
set_option maxRecDepth 100000

theorem wp {P : Int} (p : Nat) (h : P = p) (hp : p ≤ 1000000) : IntKind.wrap .i64 P = (p : Int) := by
  subst h
  exact wi64 (by omega) (by omega)
theorem get_bytes {l : List Int} (h : l.length ≤ 1024) (p n : Nat) (hn : n ≤ 64) : getR (l, 8 * (l.length : Int), ()) p n = bif decide (p + n ≤ 8 * l.length) then gv l p n else -1 := by
  unfold getR
  rw [take_bytes h p n hn]
  cases decide (p + n ≤ 8 * l.length) <;> rfl
theorem on_get {l : List Int} (h : l.length ≤ 1024) (p n : Nat) (w : Int) (hw : w = n) (hn : n ≤ 63) (hi : p + n ≤ 8 * l.length) : on (inside w 0 63) (getR (l, 8 * (l.length : Int), ()) p w, ()) = some (gv l p n, ()) := by
  subst hw
  rw [get_bytes h p n (by omega), decide_eq_true hi]
  exact on_true (inside_iff.2 (by omega))
theorem on_no {l : List Int} (h : l.length ≤ 1024) (p n : Nat) (w : Int) (hw : w = n) (hn : n ≤ 63) (hi : ¬ p + n ≤ 8 * l.length) : on (inside w 0 63) (getR (l, 8 * (l.length : Int), ()) p w, ()) = some (-1, ()) := by
  subst hw
  rw [get_bytes h p n (by omega), decide_eq_false hi]
  exact on_true (inside_iff.2 (by omega))
theorem len8 {l : List Int} (h : l.length ≤ 1024) : IntKind.wrap .i64 (8 * Int.ofNat l.length) = 8 * (l.length : Int) := wi64 (by simp only [Int.ofNat_eq_natCast]; omega) (by simp only [Int.ofNat_eq_natCast]; omega)

theorem rlinks2 {l : List Int} (h : l.length ≤ 1024) (x : Int) (N : Nat) (hN : N ≤ 100) (hl : 33 + 27 * N ≤ 8 * l.length) : ∀ (k i : Nat) (ad : Ad), i + k = N → ad.2.2.2.1.length + k ≤ 100 →
    Loop (g20_s0 (x, l, ()) ((N : Int), ())) (ad, (i : Int), ()) = some ((ad.1, ad.2.1, ad.2.2.1, ad.2.2.2.1 ++ (List.range k).map (fun j => rdL l (33 + 27 * (i + j))), ad.2.2.2.2), ()) := by
  intro k
  induction k with
  | zero =>
    intro i ad h1 h2
    rw [Loop_step]
    have c : ¬ (i : Int) < (N : Int) := by omega
    have : g20_s0 (x, l, ()) ((N : Int), ()) (ad, (i : Int), ()) = some (.inr (ad, ())) := by
      unfold g20_s0
      simp only [c, decide_false, cond_false]
    rw [this]
    simp
  | succ k ih =>
    intro i ad h1 h2
    have hs : g20_s0 (x, l, ()) ((N : Int), ()) (ad, (i : Int), ()) = some (.inl ((ad.1, ad.2.1, ad.2.2.1, ad.2.2.2.1 ++ [rdL l (33 + 27 * i)], ad.2.2.2.2), ((i + 1 : Nat) : Int), ())) := by
      have c : (i : Int) < (N : Int) := by omega
      have e : IntKind.wrap .i64 ((i : Int) + 1) = ((i + 1 : Nat) : Int) := wp _ (by omega) (by omega)
      have e1 : IntKind.wrap .i64 (27 * (i : Int)) = ((27 * i : Nat) : Int) := wp _ (by omega) (by omega)
      have e2 : IntKind.wrap .i64 (33 + ((27 * i : Nat) : Int)) = ((33 + 27 * i : Nat) : Int) := wp _ (by omega) (by omega)
      have e3 : IntKind.wrap .i64 (((33 + 27 * i : Nat) : Int) + 7) = ((33 + 27 * i + 7 : Nat) : Int) := wp _ (by omega) (by omega)
      have e4 : IntKind.wrap .i64 (((33 + 27 * i : Nat) : Int) + 17) = ((33 + 27 * i + 17 : Nat) : Int) := wp _ (by omega) (by omega)
      unfold g20_s0
      simp only [c, decide_true, cond_true, len8 h, e1, e2, e3, e4, e, on_get h (33 + 27 * i) 7 7 rfl (by decide) (by omega), Option.bind_some, on_get h (33 + 27 * i + 7) 10 10 rfl (by decide) (by omega), on_get h (33 + 27 * i + 17) 10 10 rfl (by decide) (by omega), room (n := ad.2.2.2.1.length) (by omega)]
      rfl
    rw [Loop_step, hs]
    simp only
    rw [ih (i + 1) _ (by omega) (by simp only [List.length_append, List.length_singleton]; omega)]
    simp only [List.append_assoc, List.singleton_append]
    rw [List.range_succ_eq_map, List.map_cons, List.map_map]
    have e2 : (fun j => rdL l (33 + 27 * (i + 1 + j))) = (fun j => rdL l (33 + 27 * (i + j))) ∘ Nat.succ := by
      funext j
      simp only [Function.comp]
      congr 3
      omega
    rw [e2]
    simp

theorem rclaims2 {l : List Int} (h : l.length ≤ 1024) (x : Int) (M N q : Nat) (hM : M ≤ 100) (hN : N ≤ 100) (hq : q = 33 + 27 * M + 4) (hl : q + 14 * N ≤ 8 * l.length) : ∀ (k i : Nat) (ad : Ad), i + k = N → ad.2.2.2.2.1.length + k ≤ 100 →
    Loop (g20_s1 (x, l, ()) ((M : Int), ()) ((N : Int), ())) (ad, (i : Int), ()) = some ((ad.1, ad.2.1, ad.2.2.1, ad.2.2.2.1, ad.2.2.2.2.1 ++ (List.range k).map (fun j => rdC l (q + 14 * (i + j))), ()), ()) := by
  intro k
  induction k with
  | zero =>
    intro i ad h1 h2
    rw [Loop_step]
    have c : ¬ (i : Int) < (N : Int) := by omega
    have : g20_s1 (x, l, ()) ((M : Int), ()) ((N : Int), ()) (ad, (i : Int), ()) = some (.inr (ad, ())) := by
      unfold g20_s1
      simp only [c, decide_false, cond_false]
    rw [this]
    simp
  | succ k ih =>
    intro i ad h1 h2
    have hs : g20_s1 (x, l, ()) ((M : Int), ()) ((N : Int), ()) (ad, (i : Int), ()) = some (.inl ((ad.1, ad.2.1, ad.2.2.1, ad.2.2.2.1, ad.2.2.2.2.1 ++ [rdC l (q + 14 * i)], ()), ((i + 1 : Nat) : Int), ())) := by
      have c : (i : Int) < (N : Int) := by omega
      have e : IntKind.wrap .i64 ((i : Int) + 1) = ((i + 1 : Nat) : Int) := wp _ (by omega) (by omega)
      have e1 : IntKind.wrap .i64 (27 * (M : Int)) = ((27 * M : Nat) : Int) := wp _ (by omega) (by omega)
      have e2 : IntKind.wrap .i64 (33 + ((27 * M : Nat) : Int)) = ((33 + 27 * M : Nat) : Int) := wp _ (by omega) (by omega)
      have e3 : IntKind.wrap .i64 (((33 + 27 * M : Nat) : Int) + 4) = ((q : Nat) : Int) := wp _ (by omega) (by omega)
      have e4 : IntKind.wrap .i64 (14 * (i : Int)) = ((14 * i : Nat) : Int) := wp _ (by omega) (by omega)
      have e5 : IntKind.wrap .i64 ((q : Int) + ((14 * i : Nat) : Int)) = ((q + 14 * i : Nat) : Int) := wp _ (by omega) (by omega)
      have e6 : IntKind.wrap .i64 (((q + 14 * i : Nat) : Int) + 3) = ((q + 14 * i + 3 : Nat) : Int) := wp _ (by omega) (by omega)
      have e7 : IntKind.wrap .i64 (((q + 14 * i : Nat) : Int) + 12) = ((q + 14 * i + 12 : Nat) : Int) := wp _ (by omega) (by omega)
      have g := gv2 l (q + 14 * i + 12)
      have hd : on (inside (gv l (q + 14 * i + 12) 2) 0 3) (decoded (gv l (q + 14 * i + 12) 2), ()) = some (decoded (gv l (q + 14 * i + 12) 2), ()) := on_true (inside_iff.2 (by omega))
      unfold g20_s1
      simp only [c, decide_true, cond_true, len8 h, e1, e2, e3, e4, e5, e6, e7, e, on_get h (q + 14 * i) 3 3 rfl (by decide) (by omega), Option.bind_some, on_get h (q + 14 * i + 3) 9 9 rfl (by decide) (by omega), on_get h (q + 14 * i + 12) 2 2 rfl (by decide) (by omega), hd, room (n := ad.2.2.2.2.1.length) (by omega)]
      rfl
    rw [Loop_step, hs]
    simp only
    rw [ih (i + 1) _ (by omega) (by simp only [List.length_append, List.length_singleton]; omega)]
    simp only [List.append_assoc, List.singleton_append]
    rw [List.range_succ_eq_map, List.map_cons, List.map_map]
    have e2 : (fun j => rdC l (q + 14 * (i + 1 + j))) = (fun j => rdC l (q + 14 * (i + j))) ∘ Nat.succ := by
      funext j
      simp only [Function.comp]
      congr 3
      omega
    rw [e2]
    simp

theorem front2 (l : List Int) (hl : l.length ≤ 140737488355328) : (bif (decide ((Int.ofNat l.length) > (200 : Int))) then (bif (true && (decide ((200 : Int) ≤ (Int.ofNat l.length)))) then (some ((IntKind.wrap Go.IntKind.i64 ((Int.ofNat l.length) - (200 : Int))), ((List.drop 0 (List.take 200 l)), ()))) else none) else (some ((0 : Int), (l, ())))) = some (((l.length - 200 : Nat) : Int), l.take 200, ()) := by
  by_cases h : 200 < l.length
  · have c1 : Int.ofNat l.length > 200 := by simp only [Int.ofNat_eq_natCast]; omega
    have c2 : (200 : Int) ≤ Int.ofNat l.length := by simp only [Int.ofNat_eq_natCast]; omega
    have e : IntKind.wrap .i64 (Int.ofNat l.length - 200) = ((l.length - 200 : Nat) : Int) := by
      rw [wi64 (by simp only [Int.ofNat_eq_natCast]; omega) (by simp only [Int.ofNat_eq_natCast]; omega)]
      simp only [Int.ofNat_eq_natCast]
      omega
    rw [decide_eq_true c1, decide_eq_true c2, e]
    rfl
  · have c1 : ¬ Int.ofNat l.length > 200 := by simp only [Int.ofNat_eq_natCast]; omega
    rw [decide_eq_false c1, List.take_of_length_le (by omega), show l.length - 200 = 0 by omega]
    rfl

theorem g20_ok (a0 : (List Int)) (r0 : (Ty.sl (.int .u8)).ok a0) : g20 a0 = some (Sp07.decode a0, ()) := by
  have hlen := (dat r0).1
  have hb : (a0.take 200).length ≤ 1024 := by rw [List.length_take]; omega
  have hbl : (a0.take 200).length = min 200 a0.length := List.length_take
  have e1 := nL_lt a0
  have e2 := nC_lt a0
  have e4 := end_le a0
  have f1 : 33 + 27 * nL a0 = atC a0 := rfl
  have f2 : atC a0 + 4 + 14 * nC a0 = endB a0 := rfl
  have e3 := atC_le a0
  unfold g20
  rw [front2 a0 hlen]
  simp only [Option.bind_some, len8 hb]
  have hdec : ¬ endB a0 + 16 ≤ 8 * (a0.take 200).length → Sp07.decode a0 = (za, 20, ()) := by
    intro k
    unfold Sp07.decode
    have : 8 * a0.length < endB a0 + 16 := by omega
    rw [decide_eq_true this]
    rfl
  by_cases h1 : 28 + 5 ≤ 8 * (a0.take 200).length
  rotate_left
  · have hr : on (inside 5 0 63) (getR (a0.take 200, 8 * ((a0.take 200).length : Int), ()) 28 5, ()) = some (-1, ()) := on_no hb 28 5 5 rfl (by decide) h1
    rw [hr, hdec (by omega)]
    rfl
  have hr : on (inside 5 0 63) (getR (a0.take 200, 8 * ((a0.take 200).length : Int), ()) 28 5, ()) = some ((nL a0 : Int), ()) := by
    rw [← nL_cut a0 200 (by decide), ← nL_cast]
    exact on_get hb 28 5 5 rfl (by decide) h1
  have w1 : IntKind.wrap .i64 (27 * (nL a0 : Int)) = ((27 * nL a0 : Nat) : Int) := wp _ (by omega) (by omega)
  have w2 : IntKind.wrap .i64 (33 + ((27 * nL a0 : Nat) : Int)) = ((atC a0 : Nat) : Int) := wp _ (by omega) (by omega)
  have p1 : ¬ (nL a0 : Int) < 0 := by omega
  simp only [hr, Option.bind_some, w1, w2, p1, decide_false, cond_false]
  by_cases h2 : atC a0 + 4 ≤ 8 * (a0.take 200).length
  rotate_left
  · have hr2 : on (inside 4 0 63) (getR (a0.take 200, 8 * ((a0.take 200).length : Int), ()) ((atC a0 : Nat) : Int) 4, ()) = some (-1, ()) := on_no hb _ 4 4 rfl (by decide) h2
    rw [hr2, hdec (by omega)]
    rfl
  have hr2 : on (inside 4 0 63) (getR (a0.take 200, 8 * ((a0.take 200).length : Int), ()) ((atC a0 : Nat) : Int) 4, ()) = some ((nC a0 : Int), ()) := by
    rw [← nC_cut a0 200 (by decide), ← nC_cast, atC_cut a0 200 (by decide)]
    exact on_get hb _ 4 4 rfl (by decide) h2
  have w3 : IntKind.wrap .i64 ((atC a0 : Int) + 4) = ((atC a0 + 4 : Nat) : Int) := wp _ (by omega) (by omega)
  have w4 : IntKind.wrap .i64 (14 * (nC a0 : Int)) = ((14 * nC a0 : Nat) : Int) := wp _ (by omega) (by omega)
  have w5 : IntKind.wrap .i64 (((atC a0 + 4 : Nat) : Int) + ((14 * nC a0 : Nat) : Int)) = ((endB a0 : Nat) : Int) := wp _ (by omega) (by omega)
  have p2 : ¬ (nC a0 : Int) < 0 := by omega
  simp only [hr2, Option.bind_some, w3, w4, w5, p2, decide_false, Bool.not_false, cond_true]
  by_cases h3 : endB a0 + 16 ≤ 8 * (a0.take 200).length
  rotate_left
  · have hr3 : on (inside 16 0 63) (getR (a0.take 200, 8 * ((a0.take 200).length : Int), ()) ((endB a0 : Nat) : Int) 16, ()) = some (-1, ()) := on_no hb _ 16 16 rfl (by decide) h3
    rw [hr3, hdec (by omega)]
    rfl
  have hr3 : on (inside 16 0 63) (getR (a0.take 200, 8 * ((a0.take 200).length : Int), ()) ((endB a0 : Nat) : Int) 16, ()) = some (gv a0 (endB a0) 16, ()) := by
    rw [← gv_cut a0 200 _ _ (by omega)]
    exact on_get hb _ 16 16 rfl (by decide) h3
  have p3 : ¬ gv a0 (endB a0) 16 < 0 := by
    have := (gv_range a0 (endB a0) 16).1
    omega
  have r1 : on (inside 7 0 63) (getR (a0.take 200, 8 * ((a0.take 200).length : Int), ()) 0 7, ()) = some (gv (a0.take 200) 0 7, ()) := on_get hb 0 7 7 rfl (by decide) (by omega)
  have r2 : on (inside 20 0 63) (getR (a0.take 200, 8 * ((a0.take 200).length : Int), ()) 7 20, ()) = some (gv (a0.take 200) 7 20, ()) := on_get hb 7 20 20 rfl (by decide) (by omega)
  have r3 : on (inside 1 0 63) (getR (a0.take 200, 8 * ((a0.take 200).length : Int), ()) 27 1, ()) = some (gv (a0.take 200) 27 1, ()) := on_get hb 27 1 1 rfl (by decide) (by omega)
  simp only [hr3, Option.bind_some, p3, decide_false, cond_false, r1, r2, r3]
  have l1 := rlinks2 hb ((a0.length - 200 : Nat) : Int) (nL a0) (by omega) (by omega) (nL a0) 0 (gv (a0.take 200) 0 7, gv (a0.take 200) 7 20, decide (gv (a0.take 200) 27 1 = 1), [], [], ()) (by omega) (by simp only [List.length_nil]; omega)
  simp only [Int.natCast_zero, Nat.zero_add] at l1
  simp only [l1, Option.bind_some]
  have l2 := rclaims2 hb ((a0.length - 200 : Nat) : Int) (nL a0) (nC a0) (atC a0 + 4) (by omega) (by omega) (by omega) (by omega) (nC a0) 0 (gv (a0.take 200) 0 7, gv (a0.take 200) 7 20, decide (gv (a0.take 200) 27 1 = 1), [] ++ (List.range (nL a0)).map (fun j => rdL (a0.take 200) (33 + 27 * j)), [], ()) (by omega) (by simp only [List.length_nil]; omega)
  simp only [Int.natCast_zero, Nat.zero_add] at l2
  simp only [l2, Option.bind_some]
  have hf : ((gv (a0.take 200) 0 7, gv (a0.take 200) 7 20, decide (gv (a0.take 200) 27 1 = 1), [] ++ (List.range (nL a0)).map (fun j => rdL (a0.take 200) (33 + 27 * j)), [] ++ (List.range (nC a0)).map (fun j => rdC (a0.take 200) (atC a0 + 4 + 14 * j)), ()) : Ad) = fields a0 := by
    rw [← fields_cut a0 200 (by decide)]
    unfold fields
    rw [nL_cut a0 200 (by decide), nC_cut a0 200 (by decide), atC_cut a0 200 (by decide)]
    rfl
  rw [hf]
  have hfl := free_le (endB a0)
  have w6 : IntKind.wrap .i64 ((endB a0 : Int) + 16) = ((endB a0 + 16 : Nat) : Int) := wp _ (by omega) (by omega)
  have w7 : IntKind.wrap .i64 (((endB a0 + 16 : Nat) : Int) + 7) = ((endB a0 + 23 : Nat) : Int) := wp _ (by omega) (by omega)
  have w8 : Int.tdiv ((endB a0 + 23 : Nat) : Int) 8 = (((endB a0 + 23) / 8 : Nat) : Int) := by rw [tdiv_nn (by omega)]; omega
  have w9 : IntKind.wrap .i64 (((endB a0 + 23) / 8 : Nat) : Int) = (((endB a0 + 23) / 8 : Nat) : Int) := wp _ rfl (by omega)
  have w10 : IntKind.wrap .i64 (8 * (((endB a0 + 23) / 8 : Nat) : Int)) = ((endB a0 + 16 + free (endB a0) : Nat) : Int) := wp _ (by omega) (by omega)
  have w11 : IntKind.wrap .i64 (((endB a0 + 16 + free (endB a0) : Nat) : Int) - (endB a0 : Int)) = ((16 + free (endB a0) : Nat) : Int) := wp _ (by omega) (by omega)
  have w12 : IntKind.wrap .i64 (((16 + free (endB a0) : Nat) : Int) - 16) = ((free (endB a0) : Nat) : Int) := wp _ (by omega) (by omega)
  have hck := check_slice hb (e := endB a0) (by omega)
  rw [bitsR_take a0 200 0 _ (by omega)] at hck
  have r4 : on (inside ((free (endB a0) : Nat) : Int) 0 63) (getR (a0.take 200, 8 * ((a0.take 200).length : Int), ()) ((endB a0 + 16 : Nat) : Int) ((free (endB a0) : Nat) : Int), ()) = some (gv a0 (endB a0 + 16) (free (endB a0)), ()) := by
    rw [← gv_cut a0 200 _ _ (by omega)]
    exact on_get hb _ _ _ rfl (by omega) (by omega)
  have w13 : IntKind.wrap .i64 (Int.ofNat (a0.take 200).length + ((a0.length - 200 : Nat) : Int)) = (a0.length : Int) := by
    rw [wi64 (by simp only [Int.ofNat_eq_natCast]; omega) (by simp only [Int.ofNat_eq_natCast]; omega)]
    simp only [Int.ofNat_eq_natCast]
    omega
  simp only [hck, w6, w7, w8, w9, w10, w11, w12, r4, w13, Option.bind_some]
  have hend : decide ((a0.length : Int) > (((endB a0 + 23) / 8 : Nat) : Int)) = decide (8 * ((endB a0 + 23) / 8) < 8 * a0.length) := by
    congr 1
    exact propext (by omega)
  rw [hend]
  unfold Sp07.decode
  rw [decide_eq_false (p := 8 * a0.length < endB a0 + 16) (by omega)]
  cases decide (gv a0 (endB a0) 16 = ((crc (bitsR a0 0 (endB a0)) : Nat) : Int)) with
  | false => rfl
  | true =>
    cases decide (gv a0 (endB a0 + 16) (free (endB a0)) = 0) with
    | false => rfl
    | true =>
      cases decide (8 * ((endB a0 + 23) / 8) < 8 * a0.length) with
      | true => rfl
      | false => cases Sp07.validA (fields a0) <;> rfl
end Go.Abs.C07

namespace Go.Abs.C07
open Go Go.Proofs Sp07
set_option maxRecDepth 100000

theorem pick_wf {t : Tp} {l : List Int} (h : wf t = true) : wf (Sp07.pick t l).2 = true := next_wf (n := (l.length : Int)) h

theorem g35_ok (a0 : (List Int)) (a1 : Int) (r0 : (Ty.sl (.int .i64)).ok a0) (r1 : IntKind.i64.has a1) (h : (Sp07.wf (a0, a1, ())) = true) : g35 a0 a1 = some (Sp07.length (a0, a1, ())) := by
  unfold g35 Sp07.length
  rw [on_true (by rw [h]; rfl)]
  rfl

theorem length_wf {t : Tp} (h : wf t = true) : wf (Sp07.length t).2 = true := pick_wf h

theorem g25_ok (a0 : Int) (a1 : Int) (a2 : Bool) (a3 : (List (Int × (Int × (Int × Unit))))) (a4 : (List (Int × (Int × (Int × Unit))))) (a5 : Int) (a6 : Int) (a7 : Bool) (a8 : (List (Int × (Int × (Int × Unit))))) (a9 : (List (Int × (Int × (Int × Unit))))) (r0 : IntKind.i64.has a0) (r1 : IntKind.i64.has a1) (r3 : (Ty.sl (rc)).ok a3) (r4 : (Ty.sl (rc)).ok a4) (r5 : IntKind.i64.has a5) (r6 : IntKind.i64.has a6) (r8 : (Ty.sl (rc)).ok a8) (r9 : (Ty.sl (rc)).ok a9) : g25 a0 a1 a2 a3 a4 a5 a6 a7 a8 a9 = some (Sp07.newer (a0, a1, a2, a3, a4, ()) (a5, a6, a7, a8, a9, ()), ()) := by
  have k : ∀ a : Ad, decide ((Sp07.encode a).2.1 = 0) = Sp07.validA a := by
    intro a
    unfold Sp07.encode
    cases Sp07.validA a <;> rfl
  have k2 : ∀ x y : List Int, decide (cmpB x y > 0) = gtB x y := by
    intro x y
    unfold cmpB gtB
    cases Go.Abs.ltBytes x y
    · cases x == y <;> rfl
    · rfl
  unfold g25 Sp07.newer
  simp only [k, k2, gt_iff_lt]
  cases Sp07.validA (a0, a1, a2, a3, a4, ()) <;> cases Sp07.validA (a5, a6, a7, a8, a9, ()) <;> cases decide (a0 = a5) <;> cases decide (a6 < a1) <;> cases decide (a1 = a6) <;> rfl

theorem g26_ok (a0 : Int) (a1 : Int) (a2 : Bool) (a3 : (List (Int × (Int × (Int × Unit))))) (a4 : (List (Int × (Int × (Int × Unit))))) (a5 : Int) (a6 : Int) (a7 : Bool) (a8 : (List (Int × (Int × (Int × Unit))))) (a9 : (List (Int × (Int × (Int × Unit))))) (r0 : IntKind.i64.has a0) (r1 : IntKind.i64.has a1) (r3 : (Ty.sl (rc)).ok a3) (r4 : (Ty.sl (rc)).ok a4) (r5 : IntKind.i64.has a5) (r6 : IntKind.i64.has a6) (r8 : (Ty.sl (rc)).ok a8) (r9 : (Ty.sl (rc)).ok a9) : g26 a0 a1 a2 a3 a4 a5 a6 a7 a8 a9 = some (Sp07.newer (a0, a1, a2, a3, a4, ()) (a5, a6, a7, a8, a9, ()), ()) := by
  unfold g26 Sp07.newer gtB
  simp only [gt_iff_lt]
  cases Sp07.validA (a0, a1, a2, a3, a4, ()) <;> cases Sp07.validA (a5, a6, a7, a8, a9, ()) <;> cases decide (a0 = a5) <;> cases decide (a6 < a1) <;> cases decide (a1 = a6) <;> rfl

theorem link_wf {r i : Int} {s : List Rc × Tp} (h : wf s.2 = true) : wf (linkS r i s).2 = true := by
  unfold linkS
  cases decide (i = r) with
  | true => exact h
  | false =>
    cases decide ((next s.2 2).1 = 0) with
    | true => exact next_wf (n := 3) (range_wf (next_wf h))
    | false => exact next_wf (n := 2) h
theorem link_len (r i : Int) (s : List Rc × Tp) : (linkS r i s).1.length ≤ s.1.length + 1 := by
  unfold linkS
  cases decide (i = r) with
  | true => simp
  | false => cases decide ((next s.2 2).1 = 0) <;> simp
theorem links_wf {r : Int} {t : Tp} (h : wf t = true) : ∀ k, wf (linksN r t k).2 = true ∧ (linksN r t k).1.length ≤ k
  | 0 => ⟨h, by simp [linksN]⟩
  | k + 1 => ⟨link_wf (links_wf h k).1, Nat.le_trans (link_len _ _ _) (by have := (links_wf (r := r) h k).2; omega)⟩
theorem link_step (r i : Int) (s : List Rc × Tp) (x q : Int) (c : Bool) (cl : List Rc) (h : wf s.2 = true) (hl : s.1.length ≤ 100) (h1 : 1 ≤ i) (h6 : i ≤ 6) :
    g11_s0 r (i, s.2, (x, q, c, s.1, cl, ()), ()) = some (.inl (i + 1, (linkS r i s).2, (x, q, c, (linkS r i s).1, cl, ()), ())) := by
  have e : IntKind.wrap .i64 (i + 1) = i + 1 := wi64 (by omega) (by omega)
  unfold g11_s0 linkS
  simp only [h6, decide_true, cond_true, e, on_true h, Option.bind_some]
  by_cases hr : i = r
  · rw [decide_eq_true hr]
    rfl
  · rw [decide_eq_false hr]
    have h2 : (wf (next s.2 2).2 && small 1 && small 3) = true := by rw [next_wf h]; decide
    have h3 : wf (range (next s.2 2).2 1 3).2 = true := range_wf (next_wf h)
    simp only [Bool.not_false, cond_true, Option.bind_some, on_true h2, on_true h3, room (n := s.1.length) (by omega), cond_false]
    cases decide ((next s.2 2).1 = 0) <;> rfl
theorem links_run (r : Int) (t : Tp) (x q : Int) (c : Bool) (cl : List Rc) (h : wf t = true) :
    Loop (g11_s0 r) (1, t, (x, q, c, [], cl, ()), ()) = some ((linksN r t 6).2, (x, q, c, (linksN r t 6).1, cl, ()), ()) := by
  have st : ∀ k : Nat, k < 6 → Loop (g11_s0 r) (((k + 1 : Nat) : Int), (linksN r t k).2, (x, q, c, (linksN r t k).1, cl, ()), ()) = Loop (g11_s0 r) (((k + 1 + 1 : Nat) : Int), (linksN r t (k + 1)).2, (x, q, c, (linksN r t (k + 1)).1, cl, ()), ()) := by
    intro k hk
    have hw := links_wf (r := r) h k
    rw [Loop_step, link_step r _ _ x q c cl hw.1 (by omega) (by omega) (by omega)]
    rfl
  have e0 := st 0 (by decide)
  rw [st 1 (by decide), st 2 (by decide), st 3 (by decide), st 4 (by decide), st 5 (by decide)] at e0
  have e1 : Loop (g11_s0 r) (1, t, (x, q, c, [], cl, ()), ()) = Loop (g11_s0 r) (((5 + 1 + 1 : Nat) : Int), (linksN r t 6).2, (x, q, c, (linksN r t 6).1, cl, ()), ()) := e0
  rw [e1, Loop_step]
  rfl

theorem claim_wf {i : Int} {s : List Rc × Tp} (h : wf s.2 = true) : wf (claimS i s).2 = true := by
  unfold claimS
  cases decide ((next s.2 2).1 = 0) with
  | true => exact length_wf (range_wf (next_wf h))
  | false => exact next_wf (n := 2) h
theorem claim_len (i : Int) (s : List Rc × Tp) : (claimS i s).1.length ≤ s.1.length + 1 := by
  unfold claimS
  cases decide ((next s.2 2).1 = 0) <;> simp
theorem claims_wf {t : Tp} (h : wf t = true) : ∀ k, wf (claimsN t k).2 = true ∧ (claimsN t k).1.length ≤ k
  | 0 => ⟨h, by simp [claimsN]⟩
  | k + 1 => ⟨claim_wf (claims_wf h k).1, Nat.le_trans (claim_len _ _) (by have := (claims_wf h k).2; omega)⟩
theorem claim_step (i : Int) (s : List Rc × Tp) (x q : Int) (c : Bool) (ls : List Rc) (h : wf s.2 = true) (hl : s.1.length ≤ 100) (h1 : 0 ≤ i) (h6 : i < 2) :
    g11_s1 (i, s.2, (x, q, c, ls, s.1, ()), ()) = some (.inl (i + 1, (claimS i s).2, (x, q, c, ls, (claimS i s).1, ()), ())) := by
  have e : IntKind.wrap .i64 (i + 1) = i + 1 := wi64 (by omega) (by omega)
  have h2 : (wf (next s.2 2).2 && small 1 && small 9) = true := by rw [next_wf h]; decide
  have h3 : wf (range (next s.2 2).2 1 9).2 = true := range_wf (next_wf h)
  unfold g11_s1 claimS
  simp only [h6, decide_true, cond_true, e, on_true h, on_true h2, on_true h3, Option.bind_some, room (n := s.1.length) (by omega)]
  cases decide ((next s.2 2).1 = 0) <;> rfl
theorem claims_run (t : Tp) (x q : Int) (c : Bool) (ls : List Rc) (h : wf t = true) :
    Loop g11_s1 (0, t, (x, q, c, ls, [], ()), ()) = some ((claimsN t 2).2, (x, q, c, ls, (claimsN t 2).1, ()), ()) := by
  have st : ∀ k : Nat, k < 2 → Loop g11_s1 (((k : Nat) : Int), (claimsN t k).2, (x, q, c, ls, (claimsN t k).1, ()), ()) = Loop g11_s1 (((k + 1 : Nat) : Int), (claimsN t (k + 1)).2, (x, q, c, ls, (claimsN t (k + 1)).1, ()), ()) := by
    intro k hk
    have hw := claims_wf h k
    rw [Loop_step, claim_step _ _ x q c ls hw.1 (by omega) (by omega) (by omega)]
    rfl
  have e0 := st 0 (by decide)
  rw [st 1 (by decide)] at e0
  have e1 : Loop g11_s1 (0, t, (x, q, c, ls, [], ()), ()) = Loop g11_s1 (((1 + 1 : Nat) : Int), (claimsN t 2).2, (x, q, c, ls, (claimsN t 2).1, ()), ()) := e0
  rw [e1, Loop_step]
  rfl

theorem many_len (l : List Rc) : ∀ k, (many l k).length = l.length + k
  | 0 => rfl
  | k + 1 => by rw [many, List.length_append, many_len l k]; rfl
theorem many_step (x q : Int) (c : Bool) (l cl : List Rc) (k : Nat) (hk : k < 24) (hl : l.length ≤ 100) :
    g11_s2 ((x, q, c, many l k, cl, ()), 30 + (k : Int), ()) = some (.inl ((x, q, c, many l (k + 1), cl, ()), 30 + ((k + 1 : Nat) : Int), ())) := by
  have c1 : 30 + (k : Int) < 54 := by omega
  have e : IntKind.wrap .i64 (30 + (k : Int) + 1) = 30 + ((k + 1 : Nat) : Int) := by rw [wi64 (by omega) (by omega)]; omega
  have hl2 : (many l k).length ≤ 1000 := by rw [many_len]; omega
  unfold g11_s2
  simp only [c1, decide_true, cond_true, e, room hl2]
  rfl
theorem many_run (x q : Int) (c : Bool) (l cl : List Rc) (hl : l.length ≤ 100) : Loop g11_s2 ((x, q, c, l, cl, ()), 30, ()) = some ((x, q, c, many l 24, cl, ()), ()) := by
  have key : ∀ k, k ≤ 24 → Loop g11_s2 ((x, q, c, many l (24 - k), cl, ()), 30 + ((24 - k : Nat) : Int), ()) = some ((x, q, c, many l 24, cl, ()), ()) := by
    intro k
    induction k with
    | zero => intro _; rw [Loop_step]; rfl
    | succ k ih =>
      intro hk
      rw [Loop_step, many_step x q c l cl _ (by omega) hl]
      simp only
      have e : 24 - (k + 1) + 1 = 24 - k := by omega
      rw [e]
      exact ih (by omega)
  exact key 24 (by decide)

theorem g11_ok (a0 : (List Int)) (a1 : Int) (a2 : Int) (a3 : Int) (r0 : (Ty.sl (.int .i64)).ok a0) (r1 : IntKind.i64.has a1) (r2 : IntKind.i64.has a2) (r3 : IntKind.i64.has a3) (h : (Sp07.wf (a0, a1, ()) && Sp07.inside a3 0 1000) = true) : g11 a0 a1 a2 a3 = some (Sp07.advert (a0, a1, ()) a2 a3) := by
  simp only [Bool.and_eq_true, inside_iff] at h
  have h0 := h.1
  have h1 := h.2
  have o1 : (wf (a0, a1, ()) && decide (0 < 7) && decide (7 ≤ 1000)) = true := by rw [h0]; rfl
  have w1 : wf (Sp07.pick (a0, a1, ()) [1, 1, 2, 3, 3, 500000, 1000000]).2 = true := pick_wf h0
  unfold g11 Sp07.advert
  simp only [on_true o1, Option.bind_some, on_true w1]
  have w2 := next_wf (n := 3) w1
  rw [links_run _ _ _ _ _ _ w2]
  simp only [Option.bind_some]
  have w3 := links_wf (r := a2) w2 6
  rw [claims_run _ _ _ _ _ w3.1]
  have w4 := claims_wf w3.1 2
  simp only [Option.bind_some]
  have hp : plainA (a0, a1, ()) a2 = ((a2, (Sp07.pick (a0, a1, ()) [1, 1, 2, 3, 3, 500000, 1000000]).1, decide ((next (Sp07.pick (a0, a1, ()) [1, 1, 2, 3, 3, 500000, 1000000]).2 3).1 > 0), (linksN a2 (next (Sp07.pick (a0, a1, ()) [1, 1, 2, 3, 3, 500000, 1000000]).2 3).2 6).1, (claimsN (linksN a2 (next (Sp07.pick (a0, a1, ()) [1, 1, 2, 3, 3, 500000, 1000000]).2 3).2 6).2 2).1, ()), (claimsN (linksN a2 (next (Sp07.pick (a0, a1, ()) [1, 1, 2, 3, 3, 500000, 1000000]).2 3).2 6).2 2).2) := rfl
  rw [hp]
  have g1 := w3.2
  have g2 := w4.2
  have g3 := w4.1
  revert g1 g2 g3
  generalize (linksN a2 (next (Sp07.pick (a0, a1, ()) [1, 1, 2, 3, 3, 500000, 1000000]).2 3).2 6).1 = ls
  generalize claimsN (linksN a2 (next (Sp07.pick (a0, a1, ()) [1, 1, 2, 3, 3, 500000, 1000000]).2 3).2 6).2 2 = cs
  generalize decide ((next (Sp07.pick (a0, a1, ()) [1, 1, 2, 3, 3, 500000, 1000000]).2 3).1 > 0) = cc
  generalize (Sp07.pick (a0, a1, ()) [1, 1, 2, 3, 3, 500000, 1000000]).1 = q
  intro g1 g2 g3
  clear hp w1 w2 w3 w4 o1
  simp only [gt_iff_lt]
  by_cases hn : 0 < a3
  rotate_left
  · rw [decide_eq_false hn]
    rfl
  have o2 : (wf cs.2 && small a3) = true := by rw [g3, Bool.true_and]; exact small_iff.2 (by omega)
  have g4 : wf (Sp07.one cs.2 a3).2 = true := one_wf g3
  rw [decide_eq_true hn]
  simp only [cond_true, on_true o2, Option.bind_some]
  cases (Sp07.one cs.2 a3).1 with
  | false => rfl
  | true =>
    have g5 : wf (next (Sp07.one cs.2 a3).2 6).2 = true := next_wf g4
    simp only [cond_true, on_true g4, Option.bind_some]
    unfold spoilA
    generalize next (Sp07.one cs.2 a3).2 6 = k at g5
    simp only [on_true g5]
    by_cases k0 : k.1 = 0
    · simp only [k0, decide_true, cond_true, Option.bind_some]
    rw [decide_eq_false k0]
    by_cases k1 : k.1 = 1
    · simp only [k1, decide_true, cond_true, cond_false, Option.bind_some]
    rw [decide_eq_false k1]
    by_cases k2 : k.1 = 2
    · have o3 : ∀ l : List Int, (wf (Sp07.pick k.2 l).2 && decide (0 < 4) && decide (4 ≤ 1000)) = true := fun l => by rw [pick_wf g5]; rfl
      have o4 : ∀ l l' : List Int, (wf (Sp07.pick (Sp07.pick k.2 l).2 l').2 && decide (0 < 4) && decide (4 ≤ 1000)) = true := fun l l' => by rw [pick_wf (pick_wf g5)]; rfl
      have o5 : (wf k.2 && decide (0 < ([0, a2, 6, 99, 100] : List Int).length) && decide (([0, a2, 6, 99, 100] : List Int).length ≤ 1000)) = true := by rw [g5]; rfl
      simp only [k2, decide_true, cond_true, cond_false, on_true o5, on_true (o3 _), on_true (o4 _ _), Option.bind_some, room (n := ls.length) (by omega)]
      rfl
    rw [decide_eq_false k2]
    by_cases k3 : k.1 = 3
    · have o3 : ∀ l : List Int, (wf (Sp07.pick k.2 l).2 && decide (0 < 4) && decide (4 ≤ 1000)) = true := fun l => by rw [pick_wf g5]; rfl
      have o4 : ∀ l l' : List Int, (wf (Sp07.pick (Sp07.pick k.2 l).2 l').2 && decide (0 < 4) && decide (4 ≤ 1000)) = true := fun l l' => by rw [pick_wf (pick_wf g5)]; rfl
      have o5 : (wf k.2 && decide (0 < 4) && decide (4 ≤ 1000)) = true := by rw [g5]; rfl
      simp only [k3, decide_true, cond_true, cond_false, on_true o5, on_true (o3 _), on_true (o4 _ _), Option.bind_some, room (n := cs.1.length) (by omega)]
      rfl
    rw [decide_eq_false k3]
    by_cases k4 : k.1 = 4
    · simp only [k4, decide_true, cond_true, cond_false, many_run _ _ _ ls _ (by omega), Option.bind_some]
    rw [decide_eq_false k4]
    by_cases k5 : 0 < ls.length
    · have c1 : 0 < Int.ofNat ls.length := by simp only [Int.ofNat_eq_natCast]; omega
      have c3 : Nat.blt 0 ls.length = true := blt_t k5
      rw [decide_eq_true c1, c3, decide_eq_true k5]
      rfl
    · have c1 : ¬ 0 < Int.ofNat ls.length := by simp only [Int.ofNat_eq_natCast]; omega
      rw [decide_eq_false c1, decide_eq_false k5]
      rfl
end Go.Abs.C07

namespace Go.Abs.C07
open Go Go.Proofs Sp07

def u8 (l : List Int) : List UInt8 := l.map fun x => x.toNat.toUInt8
theorem load_bytes {P : Program} (w : World) : ∀ (xs : List Int) (b o : Nat) (acc : ByteArray), (∀ j (h : j < xs.length), w.cell? ⟨b, o + j, none⟩ = some (.int .u8 xs[j])) →
    (Extern.Bytes.loadBytes ⟨b, o, none⟩ xs.length acc).run P w = .ok ⟨acc.data ++ (u8 xs).toArray⟩ w
  | [], b, o, acc, _ => by simp [Extern.Bytes.loadBytes, u8]
  | x :: l, b, o, acc, h => by
    have h0 : w.cell? ⟨b, o, none⟩ = some (.int .u8 x) := h 0 (by simp)
    have ih := load_bytes (P := P) w l b (o + 1) (acc.push x.toNat.toUInt8) (fun j hj => by
      have := h (j + 1) (by simpa using hj)
      rw [show o + 1 + j = o + (j + 1) by omega]
      exact this)
    have ea : (⟨b, o, none⟩ : Addr).add 1 = ⟨b, o + 1, none⟩ := by simp [Addr.add]
    simp only [List.length_cons, Extern.Bytes.loadBytes, Sem.run_bind, run_load, h0, Result.andThen, ea]
    rw [ih]
    congr 1
    apply ByteArray.ext
    simp [ByteArray.push, u8]
def SlB (w : World) (a : Option Addr) (l : List Int) : Prop := l = [] ∨ ∃ b o, a = some ⟨b, o, none⟩ ∧ ∀ i (h : i < l.length), w.cell? ⟨b, o + i, none⟩ = some (.int .u8 l[i])
theorem bytesOf_run {P : Program} {w : World} {a : Option Addr} {l : List Int} (h : SlB w a l) (c : Nat) : (Extern.Bytes.bytesOf (.slice a l.length c)).run P w = .ok ⟨(u8 l).toArray⟩ w := by
  rcases h with rfl | ⟨b, o, rfl, h⟩
  · cases a with
    | none => rfl
    | some a => rfl
  · have := load_bytes (P := P) w l b o .empty h
    simp only [Extern.Bytes.bytesOf]
    rw [this]
    congr 1
    apply ByteArray.ext
    simp
theorem cmp_run {P : Program} {w : World} {a b : Option Addr} {x y : List Int} (h1 : SlB w a x) (h2 : SlB w b y) (c d : Nat) :
    (Extern.BytealgCompare.compare #[.slice a x.length c, .slice b y.length d]).run P w = .ok (.int .i64 (Lib.compareBytes (u8 x) (u8 y))) w := by
  change Sem.run P (do pure (goInt (Extern.BytealgCompare.cmp (← Extern.Bytes.bytesOf (.slice a x.length c)) (← Extern.Bytes.bytesOf (.slice b y.length d))))) w = _
  simp only [Sem.run_bind, Sem.run_pure, Result.andThen, bytesOf_run h1, bytesOf_run h2]
  rw [Lib.cmp_eq]
  rfl

set_option maxRecDepth 100000 in
set_option maxHeartbeats 1000000 in
theorem cmp_calls {w : World} {a b : Option Addr} {x y : List Int} (h1 : SlB w a x) (h2 : SlB w b y) (c d : Nat) :
    Calls Try.prog 53 #[.slice a x.length c, .slice b y.length d] w fun e w' => e = .returned (.int .i64 (Lib.compareBytes (u8 x) (u8 y))) ∧ w' = w := by
  go_enter Try.func53, Try.ntmps53
  go_wp2
  rw [run_callFunc_extern Try.func75 (by kernel_rfl) (by kernel_rfl) (by kernel_rfl) (e := Extern.BytealgCompare.compare) (by kernel_rfl), cmp_run h1 h2]
  simp only [Result.andThen]
  rw [Oper.upon_value]
  go_wp2
  go_ret
  exact ⟨rfl, rfl⟩

theorem cmp_plain : ∀ (x y : List Int), bytesOk x → bytesOk y → Lib.compareBytes (u8 x) (u8 y) = cmpB x y
  | [], [], _, _ => rfl
  | [], _ :: _, _, _ => rfl
  | _ :: _, [], _, _ => rfl
  | a :: x, b :: y, hx, hy => by
    have ih := cmp_plain x y (fun z hz => hx z (List.mem_cons_of_mem _ hz)) (fun z hz => hy z (List.mem_cons_of_mem _ hz))
    have ha := hx a (List.mem_cons_self ..)
    have hb := hy b (List.mem_cons_self ..)
    have lt : ∀ {a b : Int}, 0 ≤ a ∧ a < 256 → 0 ≤ b ∧ b < 256 → (a.toNat.toUInt8 < b.toNat.toUInt8 ↔ a < b) := by
      intro a b ha hb
      rw [UInt8.lt_iff_toNat_lt]
      simp only [Nat.toUInt8_eq, UInt8.toNat_ofNat']
      omega
    show (if a.toNat.toUInt8 < b.toNat.toUInt8 then (-1 : Int) else if b.toNat.toUInt8 < a.toNat.toUInt8 then 1 else Lib.compareBytes (u8 x) (u8 y)) = _
    rw [ih]
    unfold cmpB
    by_cases h1 : a < b
    · rw [if_pos ((lt ha hb).2 h1)]
      have : Go.Abs.ltBytes (a :: x) (b :: y) = true := by simp [Go.Abs.ltBytes, h1]
      rw [this]
      rfl
    · rw [if_neg (fun h => h1 ((lt ha hb).1 h))]
      by_cases h2 : b < a
      · rw [if_pos ((lt hb ha).2 h2)]
        have e1 : Go.Abs.ltBytes (a :: x) (b :: y) = false := by simp [Go.Abs.ltBytes, h1, h2]; try omega
        have e2 : (a :: x == b :: y) = false := by
          rw [beq_eq_false_iff_ne]
          intro h
          have := (List.cons.inj h).1
          omega
        rw [e1, e2]
        rfl
      · rw [if_neg (fun h => h2 ((lt hb ha).1 h))]
        have : a = b := by omega
        subst this
        have e1 : Go.Abs.ltBytes (a :: x) (a :: y) = Go.Abs.ltBytes x y := by simp [Go.Abs.ltBytes]
        have e2 : (a :: x == a :: y) = (x == y) := by simp
        rw [e1, e2]

theorem slB {w : World} {G : Nat → Nat} {l : List Int} {a : Option Addr} {c : Nat} (h : SlR w G 0 (.int .u8) l a c) : SlB w a l := by
  rcases h.2 with h | ⟨b, o, h1, _, h3⟩
  · exact .inl h
  · refine .inr ⟨b, o, h1, fun i hi => ?_⟩
    have := (h3 i hi).1
    simpa [Ty.nc] using this
theorem slBytes {w : World} {G : Nat → Nat} {l : List Int} {a : Option Addr} {c : Nat} (h : SlR w G 0 (.int .u8) l a c) : bytesOk l := by
  rcases h.2 with h | ⟨b, o, h1, _, h3⟩
  · have h : l = [] := h
    subst h
    intro x hx; simp at hx
  · intro x hx
    obtain ⟨i, hi, rfl⟩ := List.getElem_of_mem hx
    have := (h3 i hi).2
    have h1 : 0 ≤ l[i] := this.1
    have h2 : l[i] ≤ 255 := this.2
    omega
theorem cmpB_has (x y : List Int) : IntKind.i64.has (cmpB x y) := by
  have h : cmpB x y = -1 ∨ cmpB x y = 0 ∨ cmpB x y = 1 := by
    unfold cmpB
    cases Go.Abs.ltBytes x y
    · cases x == y
      · exact .inr (.inr rfl)
      · exact .inr (.inl rfl)
    · exact .inl rfl
  rcases h with h | h | h <;> rw [h] <;> exact ⟨by decide, by decide⟩

theorem nbeq_f {a b : Nat} (h : a ≠ b) : Nat.beq a b = false := by
  cases hb : Nat.beq a b with
  | false => rfl
  | true => exact absurd (Nat.eq_of_beq_eq_true hb) h
theorem sem53 {E : Env} : CallSem Try.prog E 53 c53 := by
  rintro ⟨⟨⟩, x0, x1, ⟨⟩⟩ y hy C args w G pt hm hpin hargs R K hK
  have hy : (cmpB x0 x1, ()) = y := Option.some.inj hy
  subst hy
  obtain ⟨v0, v1, rfl⟩ : ∃ v0 v1, args = #[v0, v1] := by
    have : args.size = 2 := hargs
    match args, this with
    | ⟨[v0, v1]⟩, _ => exact ⟨v0, v1, rfl⟩
  have t0 : RepL w G pt (.sl 0 (.int .u8) x0) v0 := R.tm 0
  have t1 : RepL w G pt (.sl 0 (.int .u8) x1) v1 := R.tm 1
  obtain ⟨a, n, c, rfl, rfl, _, s0⟩ := t0
  obtain ⟨b, m, d, rfl, rfl, _, s1⟩ := t1
  have key := cmp_calls (slB s0) (slB s1) c d
  rw [cmp_plain x0 x1 (slBytes s0) (slBytes s1)] at key
  refine key.mono ?_
  rintro e w' ⟨rfl, rfl⟩
  have g0 : ∀ id, get (entrySt c53 ((), x0, x1, ())) (2 * id + 1) = .undef := by
    intro id
    show get [(0, D.sl 0 (.int .u8) x0), (2, D.sl 0 (.int .u8) x1)] (2 * id + 1) = .undef
    have e0 : Nat.beq (2 * id + 1) 0 = false := nbeq_f (by omega)
    have e1 : Nat.beq (2 * id + 1) 2 = false := nbeq_f (by omega)
    simp only [get, e0, e1, cond_false]
  have g1 : ∀ id, get (ifOut c53 (cmpB x0 x1, ())) (2 * id + 1) = .undef := by
    intro id
    show get [(0, D.int .i64 (cmpB x0 x1))] (2 * id + 1) = .undef
    have e0 : Nat.beq (2 * id + 1) 0 = false := nbeq_f (by omega)
    simp only [get, e0, cond_false]
  have g2 : ∀ t, 1 ≤ t → get (ifOut c53 (cmpB x0 x1, ())) (2 * t) = .undef := by
    intro t ht
    show get [(0, D.int .i64 (cmpB x0 x1))] (2 * t) = .undef
    have e0 : Nat.beq (2 * t) 0 = false := nbeq_f (by omega)
    simp only [get, e0, cond_false]
  have R' : Rel (ifE E c53.rs.num c53.hasP) C (ifOut c53 (cmpB x0 x1, ())) { tmps := #[.int .i64 (cmpB x0 x1)], defers := [] } w' G pt := by
    refine R.make rfl rfl rfl rfl rfl rfl (fun t => ?_) (fun id => ?_) (fun t ht => g2 t ht) (fun id hid => g1 id) (fun b => ?_) (fun id st h => ?_) R.pn
    · cases t with
      | zero => exact ⟨rfl, cmpB_has _ _⟩
      | succ t => rw [g2 (t + 1) (by omega)]; trivial
    · rw [g1]; trivial
    · have z1 : sumN (ifE E c53.rs.num c53.hasP).n (cT (ifOut c53 (cmpB x0 x1, ())) { tmps := #[.int .i64 (cmpB x0 x1)], defers := [] } b) = 0 := sumN_zero fun i hi => by
        have : i = 0 := by have : i < 1 := hi; omega
        subst this
        rfl
      have z2 : sumN C.m (cB (ifOut c53 (cmpB x0 x1, ())) w' pt b) = 0 := sumN_zero fun i hi => by
        rw [cB, g1]
        rfl
      unfold TC
      rw [z1, z2]
      omega
    · rw [g1] at h
      have := R.pf id st
      rw [g0] at this
      exact this h
  exact hK _ _ _ _ R'
theorem ok53 : FunOk Try.prog B 53 c53 := ⟨by decide, fun _ => sem53, fun x h => (by cases h), Try.f53, Try.func53, by kernel_rfl, by kernel_rfl⟩
end Go.Abs.C07

namespace Go.Abs.C07
open Go Go.Proofs Sp07

theorem g18_ok   : g18  = some (true, ()) := by
  kernel_rfl
end Go.Abs.C07
