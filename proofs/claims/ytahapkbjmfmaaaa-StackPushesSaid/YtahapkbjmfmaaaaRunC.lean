/- Chapter 04: proved is that functions that the laws reach keep their contracts (the tape, packets, the library's slices); no conditions but those that each theorem states. -/
import Derived.Test.YtahapkbjmfmaaaaRunB
import Derived.RegionTactic
import Derived.WalkSpells
import Derived.Lib.SliceRun
import Derived.Laws.Cells
set_option linter.unusedVariables false
set_option linter.unusedSimpArgs false
namespace Go.Abs.C04
open Go Go.Proofs Sp04

theorem bitsR0 (l : List Int) (i : Nat) : bitsR l i 0 = [] := rfl
theorem copy_loop (l : List Int) (x : Int) (e : Int) (hl : l.length ≤ 140737488355328) (s : S) (i : Int) (hb : bytesOk s.1) (hv : valid s = true) (h0 : 0 ≤ i) (he : e ≤ 8 * (l.length : Int)) (hbn : s.2.1 + (e - i) ≤ 8192) :
    Loop (g105_s0 l x e) (i, s, ()) = some (Sp04.enc (Sp04.bits s ++ bitsR l i.toNat (e - i).toNat), ()) := by
  refine Loop_inv (fun v : Int × S × Unit => bytesOk v.2.1.1 ∧ valid v.2.1 = true ∧ 0 ≤ v.1 ∧ v.2.1.2.1 + (e - v.1) ≤ 8192) (fun v : Int × S × Unit => (e - v.1).toNat)
    (fun v : Int × S × Unit => (Sp04.enc (Sp04.bits v.2.1 ++ bitsR l v.1.toNat (e - v.1).toNat), ())) ?_ (v := (i, s, ())) ⟨hb, hv, h0, hbn⟩
  rintro ⟨i, s, ⟨⟩⟩ ⟨i1, i2, i3, i4⟩
  simp only at i1 i2 i3 i4
  obtain ⟨v1, v2, v3, v4⟩ := valid_iff.1 i2
  by_cases hi : i < e
  · right
    have e1 : IntKind.wrap .i64 (e - i) = e - i := wi64 (by omega) (by omega)
    unfold g105_s0
    simp only [hi, decide_true, cond_true, Int.ofNat_eq_natCast, e1]
    obtain ⟨k, hk, k1, k2, k3⟩ : ∃ k : Nat, (bif decide (e - i < 64) then e - i else (64 : Int)) = (k : Int) ∧ 0 < k ∧ k ≤ 64 ∧ (k : Int) ≤ e - i := by
      by_cases h : e - i < 64
      · exact ⟨(e - i).toNat, by simp [h]; omega, by omega, by omega, by omega⟩
      · exact ⟨64, by simp [h], by omega, by omega, by omega⟩
    rw [hk]
    have c1 : (0 : Int) ≤ (k : Int) := by omega
    have c2 : (k : Int) ≤ 64 := by omega
    have c3 : i + (k : Int) ≤ 8 * (l.length : Int) := by omega
    have c4 : s.2.1 + (k : Int) ≤ 8192 := by omega
    have e2 : IntKind.wrap .i64 (i + k) = i + k := wi64 (by omega) (by omega)
    simp only [i3, c1, c2, c3, c4, i2, decide_true, Bool.and_self, on_true, Option.bind_some, e2, Int.toNat_natCast]
    have hvb : vbits (Sp04.valOf (bitsR l i.toNat k)) k = bitsR l i.toNat k := by
      have := vbits_valOf (bitsR l i.toNat k)
      rwa [bitsR_length] at this
    rw [hvb]
    have hlen : (Sp04.bits s ++ bitsR l i.toNat k).length = s.2.1.toNat + k := by simp [bits_length, bitsR_length]
    refine ⟨_, rfl, ⟨enc_ok _, valid_enc (by omega), by simp only; omega, ?_⟩, by simp only; omega, ?_⟩
    · show ((Sp04.bits s ++ bitsR l i.toNat k).length : Int) + (e - (i + k)) ≤ 8192
      rw [hlen]; omega
    · simp only
      rw [bits_enc, List.append_assoc, show (i + (k : Int)).toNat = i.toNat + k by omega, ← bitsR_add]
      congr 4; omega
  · left
    unfold g105_s0
    simp only [hi, decide_false, cond_false]
    rw [show (e - i).toNat = 0 by omega, bitsR0, List.append_nil, enc_bits i2 i1]

theorem g105_ok (a0 : (List Int)) (a1 : Int) (a2 : (List Int)) (a3 : Int) (a4 : Int) (a5 : Int) (r0 : (Ty.sl (.int .u8)).ok a0) (r1 : IntKind.i64.has a1) (r2 : (Ty.sl (.int .u8)).ok a2) (r3 : IntKind.i64.has a3) (r4 : IntKind.i64.has a4) (r5 : IntKind.i64.has a5) (h : (Sp04.valid (a0, a1, ()) && decide (0 ≤ a4) && decide (a5 ≤ 8 * (a2.length : Int)) && decide (a1 + (a5 - a4) ≤ 8192)) = true) : g105 a0 a1 a2 a3 a4 a5 = some ((), Sp04.enc (Sp04.bits (a0, a1, ()) ++ Sp04.bitsR a2 a4.toNat (a5 - a4).toNat)) := by
  simp only [Bool.and_eq_true, decide_eq_true_eq] at h
  obtain ⟨hl, hb⟩ := dat r0
  obtain ⟨hl2, hb2⟩ := dat r2
  unfold g105
  rw [copy_loop a2 a3 a5 hl2 (a0, a1, ()) a4 hb h.1.1.1 h.1.1.2 h.1.2 h.2]
  rfl

theorem g75_ok (a0 : (List Int)) (a1 : Int) (a2 : Int) (a3 : Int) (r0 : (Ty.sl (.int .u8)).ok a0) (r1 : IntKind.i64.has a1) (r2 : IntKind.u64.has a2) (r3 : IntKind.i64.has a3) : g75 a0 a1 a2 a3 = some (Sp04.append (a0, a1, ()) a2 a3, ()) := by
  obtain ⟨hl, hb⟩ := dat r0
  have hu := has_u64 r2
  unfold g75 Sp04.append
  cases hv : valid (a0, a1, ()) with
  | false => simp only [Bool.not_false, cond_true]; rfl
  | true =>
    obtain ⟨v1, v2, v3, v4⟩ := valid_iff.1 hv
    simp only at v1 v2 v3 v4
    simp only [Bool.not_true, cond_false]
    by_cases h1 : a3 < 0
    · simp [h1, zs]
    by_cases h2 : 64 < a3
    · simp [h1, h2, zs, GT.gt]
    have c0 : (0 : Int) ≤ a3 := by omega
    have c1 : a3 ≤ 64 := by omega
    have e1 : min a3.toNat 64 = a3.toNat := by omega
    have e2 : IntKind.wrap .i64 (a1 + a3) = a1 + a3 := wi64 (by omega) (by omega)
    simp only [GT.gt, h1, h2, c0, c1, e1, e2, decide_false, decide_true, Bool.not_false, cond_true, pow2, fdiv_pow, Bool.false_or, Bool.true_and, Bool.and_true]
    have fin : (bif decide (8192 < a1 + a3) then some ((([], (0 : Int), ()), (3 : Int), ()), ()) else (on (decide (a1 + a3 ≤ 8192)) ((), Sp04.enc (Sp04.bits (a0, a1, ()) ++ vbits a2.toNat a3.toNat))).bind fun y5 => some ((y5.2, (0 : Int), ()), ())) =
        some (bif decide (8192 < a1 + a3) then (zs, (3 : Int), ()) else (Sp04.enc (Sp04.bits (a0, a1, ()) ++ vbits a2.toNat a3.toNat), 0, ()), ()) := by
      by_cases h5 : 8192 < a1 + a3
      · simp [h5, zs]
      · have : a1 + a3 ≤ 8192 := by omega
        simp [h5, this, on]
    by_cases h3 : a3 < 64
    · by_cases h4 : a2 / 2 ^ a3.toNat = 0
      · simp only [h3, h4, decide_true, Bool.not_true, Bool.and_false, cond_true, cond_false, Option.bind_some]; exact fin
      · simp only [h3, h4, decide_true, decide_false, Bool.not_false, Bool.and_true, cond_true, cond_false, Option.bind_some]; rfl
    · simp only [h3, decide_false, Bool.false_and, cond_true, cond_false, Option.bind_some]; exact fin

theorem and1 {V : Int} {n : Nat} (h1 : 0 ≤ V) (h2 : V < 18446744073709551616) : decide (IntKind.wrap .u64 ((BitVec.and (BitVec.ofInt 64 (V / 2 ^ n)) (BitVec.ofInt 64 1)).toNat : Int) = 1) = V.toNat.testBit n := by
  have k1 : 0 ≤ V / 2 ^ n := Int.ediv_nonneg h1 (Int.le_of_lt (pow2_pos n))
  have k2 : V / 2 ^ n ≤ V := Int.ediv_le_self _ h1
  rw [bvand k1 (by omega) (by omega) (by omega), toNat_div_pow h1, show Int.toNat 1 = 1 from rfl, Nat.and_one_is_mod, wu64 (by omega) (by omega), Nat.testBit_eq_decide_div_mod_eq]
  congr 1; apply propext; omega

theorem append_loop (V : Int) (h1 : 0 ≤ V) (h2 : V < 18446744073709551616) (s : S) (i : Int) (hb : bytesOk s.1) (hv : valid s = true) (h0 : -1 ≤ i) (h63 : i ≤ 63) (hbn : s.2.1 + (i + 1) ≤ 8192) :
    Loop (g80_s0 V) (s, i, ()) = some (Sp04.enc (Sp04.bits s ++ vbits V.toNat (i + 1).toNat), ()) := by
  refine Loop_inv (fun v : S × Int × Unit => bytesOk v.1.1 ∧ valid v.1 = true ∧ -1 ≤ v.2.1 ∧ v.2.1 ≤ 63 ∧ v.1.2.1 + (v.2.1 + 1) ≤ 8192) (fun v : S × Int × Unit => (v.2.1 + 1).toNat)
    (fun v : S × Int × Unit => (Sp04.enc (Sp04.bits v.1 ++ vbits V.toNat (v.2.1 + 1).toNat), ())) ?_ (v := (s, i, ())) ⟨hb, hv, h0, h63, hbn⟩
  rintro ⟨s, i, ⟨⟩⟩ ⟨i1, i2, i3, i4, i5⟩
  simp only at i1 i2 i3 i4 i5
  obtain ⟨v1, v2, v3, v4⟩ := valid_iff.1 i2
  unfold g80_s0
  by_cases hi : 0 ≤ i
  · right
    have e1 : IntKind.wrap .u64 i = i := wu64 (by omega) (by omega)
    have e2 : IntKind.wrap .i64 (i - 1) = i - 1 := wi64 (by omega) (by omega)
    have e3 : min i.toNat 64 = i.toNat := by omega
    simp only [GE.ge, hi, decide_true, cond_true, e1, e2, e3, pow2, fdiv_pow, i2, on_true, Option.bind_some, Int.ofNat_eq_natCast, and1 h1 h2]
    have hlen : (Sp04.bits s ++ [V.toNat.testBit i.toNat]).length = s.2.1.toNat + 1 := by simp [bits_length]
    refine ⟨_, rfl, ⟨enc_ok _, valid_enc (by omega), by simp only; omega, by simp only; omega, ?_⟩, by simp only; omega, ?_⟩
    · show ((Sp04.bits s ++ [V.toNat.testBit i.toNat]).length : Int) + (i - 1 + 1) ≤ 8192
      rw [hlen]; omega
    · simp only
      rw [bits_enc, List.append_assoc]
      have := vbits_split (v := V.toNat) (n := (i + 1).toNat) (k := 1) (by omega)
      rw [this]
      have t1 : (vbits V.toNat (i + 1).toNat).take 1 = [V.toNat.testBit i.toNat] := by
        have h := vbits_getD V.toNat (i + 1).toNat 0
        rw [if_pos (by omega), show (i + 1).toNat - 1 - 0 = i.toNat by omega] at h
        have hl := vbits_length V.toNat (i + 1).toNat
        cases hc : vbits V.toNat (i + 1).toNat with
        | nil => rw [hc] at hl; simp at hl; omega
        | cons x r => rw [hc] at h; simp at h; subst h; rfl
      rw [t1, show (i - 1 + 1).toNat = (i + 1).toNat - 1 by omega]
  · left
    simp only [GE.ge, hi, decide_false, cond_false]
    rw [show (i + 1).toNat = 0 by omega, vbits0, List.append_nil, enc_bits i2 i1]

theorem g80_ok (a0 : (List Int)) (a1 : Int) (a2 : Int) (a3 : Int) (r0 : (Ty.sl (.int .u8)).ok a0) (r1 : IntKind.i64.has a1) (r2 : IntKind.u64.has a2) (r3 : IntKind.i64.has a3) : g80 a0 a1 a2 a3 = some (Sp04.append (a0, a1, ()) a2 a3, ()) := by
  obtain ⟨hl, hb⟩ := dat r0
  have hu := has_u64 r2
  unfold g80 Sp04.append
  cases hv : valid (a0, a1, ()) with
  | false => simp only [Bool.not_false, cond_true]; rfl
  | true =>
    obtain ⟨v1, v2, v3, v4⟩ := valid_iff.1 hv
    simp only at v1 v2 v3 v4
    simp only [Bool.not_true, cond_false]
    by_cases h1 : a3 < 0
    · simp [h1, zs]
    by_cases h2 : 64 < a3
    · simp [h1, h2, zs, GT.gt]
    have e0 : IntKind.wrap .u64 a3 = a3 := wu64 (by omega) (by omega)
    have c0 : (0 : Int) ≤ a3 := by omega
    have e1 : min a3.toNat 64 = a3.toNat := by omega
    have e2 : IntKind.wrap .i64 (a1 + a3) = a1 + a3 := wi64 (by omega) (by omega)
    have e3 : IntKind.wrap .i64 (a3 - 1) = a3 - 1 := wi64 (by omega) (by omega)
    simp only [GT.gt, h1, h2, c0, e0, e1, e2, e3, decide_false, decide_true, Bool.not_false, cond_true, pow2, fdiv_pow, Bool.false_or]
    have fin : (bif decide (8192 < a1 + a3) then some ((([], (0 : Int), ()), (3 : Int), ()), ()) else (Loop (g80_s0 a2) ((a0, a1, ()), a3 - 1, ())).bind fun y5 => some ((y5.1, (0 : Int), ()), ())) =
        some (bif decide (8192 < a1 + a3) then (zs, (3 : Int), ()) else (Sp04.enc (Sp04.bits (a0, a1, ()) ++ vbits a2.toNat a3.toNat), 0, ()), ()) := by
      by_cases h5 : 8192 < a1 + a3
      · simp [h5, zs]
      · rw [append_loop a2 hu.1 hu.2 (a0, a1, ()) (a3 - 1) hb hv (by omega) (by omega) (by simp only; omega)]
        simp [h5, show a3 - 1 + 1 = a3 by omega]
    by_cases h3 : a3 < 64
    · by_cases h4 : a2 / 2 ^ a3.toNat = 0
      · simp only [h3, h4, decide_true, Bool.not_true, Bool.and_false, cond_true, cond_false, Option.bind_some]; exact fin
      · simp only [h3, h4, decide_true, decide_false, Bool.not_false, Bool.and_true, cond_true, cond_false, Option.bind_some]; rfl
    · simp only [h3, decide_false, Bool.false_and, cond_true, cond_false, Option.bind_some]; exact fin

theorem g83_ok (a0 : (List Int)) (a1 : Int) (a2 : Int) (a3 : Int) (r0 : (Ty.sl (.int .u8)).ok a0) (r1 : IntKind.i64.has a1) (r2 : IntKind.i64.has a2) (r3 : IntKind.i64.has a3) : g83 a0 a1 a2 a3 = some (Sp04.take (a0, a1, ()) a2 a3, ()) := by
  obtain ⟨hl, hb⟩ := dat r0
  unfold g83 Sp04.take
  cases hv : valid (a0, a1, ()) with
  | false => simp only [Bool.not_false, cond_true]
  | true =>
    obtain ⟨v1, v2, v3, v4⟩ := valid_iff.1 hv
    simp only at v1 v2 v3 v4
    simp only [Bool.not_true, cond_false]
    by_cases h1 : a3 < 0
    · simp [h1]
    by_cases h2 : 64 < a3
    · simp [h1, h2, GT.gt]
    by_cases h3 : a2 < 0
    · simp [h1, h2, h3, GT.gt]
    simp only [GT.gt, h1, h2, h3, decide_false, Bool.not_false, cond_true, cond_false, Option.bind_some, Bool.or_self]
    by_cases h4 : a1 < a2
    · have : a1 - a3 < a2 := by omega
      simp [h4, this]
    · have e1 : IntKind.wrap .i64 (a1 - a2) = a1 - a2 := wi64 (by omega) (by omega)
      simp only [h4, e1, decide_false, Bool.not_false, cond_true, Option.bind_some]
      by_cases h5 : a1 - a2 < a3
      · have : a1 - a3 < a2 := by omega
        simp [h5, this]
      · have k : ¬ a1 - a3 < a2 := by omega
        have c1 : (0 : Int) ≤ a2 := by omega
        have c2 : (0 : Int) ≤ a3 := by omega
        have c3 : a3 ≤ 64 := by omega
        have c4 : a2 + a3 ≤ 8 * (a0.length : Int) := by omega
        simp only [h5, k, c1, c2, c3, c4, decide_true, decide_false, cond_false, Bool.and_self, on_true, Option.bind_some, Int.ofNat_eq_natCast]

theorem g86_ok (a0 : (List Int)) (a1 : Int) (a2 : Int) (a3 : Int) (r0 : (Ty.sl (.int .u8)).ok a0) (r1 : IntKind.i64.has a1) (r2 : IntKind.i64.has a2) (r3 : IntKind.i64.has a3) : g86 a0 a1 a2 a3 = some (Sp04.take (a0, a1, ()) a2 a3, ()) := by
  obtain ⟨hl, hb⟩ := dat r0
  unfold g86 Sp04.take
  cases hv : valid (a0, a1, ()) with
  | false => simp only [Bool.not_false, cond_true]
  | true =>
    obtain ⟨v1, v2, v3, v4⟩ := valid_iff.1 hv
    simp only at v1 v2 v3 v4
    simp only [Bool.not_true, cond_false]
    by_cases h1 : a3 < 0
    · simp [h1]
    by_cases h2 : 64 < a3
    · simp [h1, h2, GT.gt]
    by_cases h3 : a2 < 0
    · simp [h1, h2, h3, GT.gt]
    have e1 : IntKind.wrap .i64 (a1 - a3) = a1 - a3 := wi64 (by omega) (by omega)
    simp only [GT.gt, h1, h2, h3, e1, decide_false, Bool.not_false, cond_true, cond_false, Option.bind_some, Bool.or_self]
    by_cases h4 : a1 - a3 < a2
    · simp [h4]
    · simp only [h4, decide_false, cond_false]
      have e5 : IntKind.wrap .i64 (a2 + a3) = a2 + a3 := wi64 (by omega) (by omega)
      have key : Loop (g86_s0 a0 a2 a3) (a2, (0 : Int), ()) = some (((Sp04.valOf (bitsR a0 a2.toNat a3.toNat) : Nat) : Int), ()) := by
        refine Loop_inv (fun v : Int × Int × Unit => a2 ≤ v.1 ∧ v.1 ≤ a2 + a3 ∧ v.2.1 = ((Sp04.valOf (bitsR a0 a2.toNat (v.1 - a2).toNat) : Nat) : Int)) (fun v : Int × Int × Unit => (a2 + a3 - v.1).toNat)
          (fun _ => (((Sp04.valOf (bitsR a0 a2.toNat a3.toNat) : Nat) : Int), ())) ?_ (v := (a2, 0, ())) ⟨by simp, by simp only; omega, by simp [bitsR0]; rfl⟩
        rintro ⟨i, x, ⟨⟩⟩ ⟨k1, k2, k3⟩
        simp only at k1 k2 k3
        subst k3
        have e2 : IntKind.wrap .i64 (i + 1) = i + 1 := wi64 (by omega) (by omega)
        unfold g86_s0
        simp only [Int.ofNat_eq_natCast, e5, e2]
        by_cases h5 : i < a2 + a3
        · right
          have c1 : (0 : Int) ≤ i := by omega
          have c2 : i < 8 * (a0.length : Int) := by omega
          have hlt := valOf_lt (bitsR a0 a2.toNat (i - a2).toNat)
          rw [bitsR_length] at hlt
          have hp : 2 ^ (i - a2).toNat ≤ 2 ^ 63 := Nat.pow_le_pow_right (by omega) (by omega)
          simp only [h5, c1, c2, decide_true, cond_true, Bool.and_self, on_true, Option.bind_some]
          rw [or_snoc (by omega)]
          refine ⟨_, rfl, ⟨by simp only; omega, by simp only; omega, ?_⟩, by simp only; omega, trivial⟩
          simp only
          rw [show (i + 1 - a2).toNat = (i - a2).toNat + 1 by omega, bitsR_snoc, valOf_snoc, show a2.toNat + (i - a2).toNat = i.toNat by omega]
        · left
          have : i = a2 + a3 := by omega
          subst this
          simp only [h5, decide_false, cond_false]
          rw [show (a2 + a3 - a2).toNat = a3.toNat by omega]
      rw [key]
      rfl

theorem crc_lt (r : Nat) (b : Bool) : crcB r b < 65536 := by
  unfold crcB
  cases hb : (Nat.testBit r 15 == b) with
  | true => simp only [cond_true]; omega
  | false => exact Nat.xor_lt_two_pow (n := 16) (by omega) (by omega)
theorem top_bit {r : Nat} (h : r < 65536) : (r : Int).fdiv 32768 = b2i (Nat.testBit r 15) := by
  rw [Int.fdiv_eq_ediv_of_nonneg _ (by omega), Nat.testBit_eq_decide_div_mod_eq]
  unfold b2i
  by_cases k : r / 2 ^ 15 % 2 = 1
  · rw [decide_eq_true k, cond_true]; omega
  · rw [decide_eq_false k, cond_false]; omega
theorem shl_and {r : Nat} (h : r < 65536) : IntKind.wrap .u64 ((BitVec.and (BitVec.ofInt 64 (IntKind.wrap .u64 ((r : Int) * 2))) (BitVec.ofInt 64 65535)).toNat : Int) = ((2 * r % 65536 : Nat) : Int) := by
  rw [wu64 (n := (r : Int) * 2) (by omega) (by omega), bvand (by omega) (by omega) (by omega) (by omega)]
  have : ((r : Int) * 2).toNat &&& Int.toNat 65535 = 2 * r % 65536 := by
    rw [show ((r : Int) * 2).toNat = 2 * r by omega]
    exact Nat.and_two_pow_sub_one_eq_mod (2 * r) 16
  rw [this]
  exact wu64 (by omega) (by omega)
theorem xor_poly {r : Nat} (h : r < 65536) : IntKind.wrap .u64 ((BitVec.xor (BitVec.ofInt 64 (r : Int)) (BitVec.ofInt 64 4129)).toNat : Int) = ((Nat.xor r 4129 : Nat) : Int) := by
  rw [bvxor (by omega) (by omega) (by omega) (by omega)]
  have : Nat.xor r 4129 < 2 ^ 16 := Nat.xor_lt_two_pow (by omega) (by omega)
  exact wu64 (by omega) (by show ((Nat.xor r 4129 : Nat) : Int) < _; omega)
theorem crc_step {r : Nat} {b : Bool} (h : r < 65536) : (b2i (Nat.testBit r 15) = b2i b) = ((Nat.testBit r 15 == b) = true) := by
  cases Nat.testBit r 15 <;> cases b <;> simp [b2i]
theorem crc_bits (l : List Int) (n : Nat) : crc (bitsR l 0 n) < 65536 := by
  cases n with
  | zero => rw [bitsR0]; decide
  | succ n => rw [bitsR_snoc]; unfold crc; rw [List.foldl_append]; exact crc_lt _ _
theorem crc_snoc (l : List Int) (n : Nat) : crc (bitsR l 0 (n + 1)) = crcB (crc (bitsR l 0 n)) (bitAt l n) := by
  rw [bitsR_snoc]; unfold crc; rw [List.foldl_append, Nat.zero_add]; rfl

theorem check_loop1 (l : List Int) (n : Int) (h0 : 0 ≤ n) (hn : n ≤ 8192) (hl : n ≤ 8 * (l.length : Int)) : Loop (g76_s0 l n) ((0 : Int), (65535 : Int), ()) = some (((crc (bitsR l 0 n.toNat) : Nat) : Int), ()) := by
  refine Loop_inv (fun v : Int × Int × Unit => 0 ≤ v.1 ∧ v.1 ≤ n ∧ v.2.1 = ((crc (bitsR l 0 v.1.toNat) : Nat) : Int)) (fun v : Int × Int × Unit => (n - v.1).toNat)
    (fun _ => (((crc (bitsR l 0 n.toNat) : Nat) : Int), ())) ?_ (v := (0, 65535, ())) ⟨by simp, h0, rfl⟩
  rintro ⟨i, x, ⟨⟩⟩ ⟨k1, k2, k3⟩
  simp only at k1 k2 k3
  subst k3
  have e1 : IntKind.wrap .i64 (i + 1) = i + 1 := wi64 (by omega) (by omega)
  have hr := crc_bits l i.toNat
  unfold g76_s0
  by_cases h5 : i < n
  · right
    have c2 : i < 8 * (l.length : Int) := by omega
    have hm : 2 * crc (bitsR l 0 i.toNat) % 65536 < 65536 := Nat.mod_lt _ (by omega)
    simp only [h5, k1, c2, e1, decide_true, cond_true, Bool.and_self, on_true, Option.bind_some, Int.ofNat_eq_natCast, top_bit hr, shl_and hr, xor_poly hm, crc_step hr]
    have hs := crc_snoc l i.toNat
    cases hb : (Nat.testBit (crc (bitsR l 0 i.toNat)) 15 == bitAt l i.toNat) with
    | true =>
      refine ⟨_, by simp only [decide_true, cond_true]; rfl, ⟨by simp only; omega, by simp only; omega, ?_⟩, by simp only; omega, trivial⟩
      simp only
      rw [show (i + 1).toNat = i.toNat + 1 by omega, hs, crcB, hb, cond_true]
    | false =>
      refine ⟨_, by simp only [Bool.false_eq_true, decide_false, cond_false]; rfl, ⟨by simp only; omega, by simp only; omega, ?_⟩, by simp only; omega, trivial⟩
      simp only
      rw [show (i + 1).toNat = i.toNat + 1 by omega, hs, crcB, hb, cond_false]
  · left
    have : i = n := by omega
    subst this
    simp only [h5, decide_false, cond_false]
theorem check_loop2 (l : List Int) (n : Int) (h0 : 0 ≤ n) (hn : n ≤ 8192) (hl : n ≤ 8 * (l.length : Int)) : Loop (g81_s0 l n) ((0 : Int), (65535 : Int), ()) = some (((crc (bitsR l 0 n.toNat) : Nat) : Int), ()) := by
  refine Loop_inv (fun v : Int × Int × Unit => 0 ≤ v.1 ∧ v.1 ≤ n ∧ v.2.1 = ((crc (bitsR l 0 v.1.toNat) : Nat) : Int)) (fun v : Int × Int × Unit => (n - v.1).toNat)
    (fun _ => (((crc (bitsR l 0 n.toNat) : Nat) : Int), ())) ?_ (v := (0, 65535, ())) ⟨by simp, h0, rfl⟩
  rintro ⟨i, x, ⟨⟩⟩ ⟨k1, k2, k3⟩
  simp only at k1 k2 k3
  subst k3
  have e1 : IntKind.wrap .i64 (i + 1) = i + 1 := wi64 (by omega) (by omega)
  have hr := crc_bits l i.toNat
  unfold g81_s0
  by_cases h5 : i < n
  · right
    have c2 : i < 8 * (l.length : Int) := by omega
    have hm : 2 * crc (bitsR l 0 i.toNat) % 65536 < 65536 := Nat.mod_lt _ (by omega)
    simp only [h5, k1, c2, e1, decide_true, cond_true, Bool.and_self, on_true, Option.bind_some, Int.ofNat_eq_natCast, top_bit hr, shl_and hr, xor_poly hm, crc_step hr]
    have hs := crc_snoc l i.toNat
    cases hb : (Nat.testBit (crc (bitsR l 0 i.toNat)) 15 == bitAt l i.toNat) with
    | true =>
      refine ⟨_, by simp only [decide_true, Bool.not_true, cond_false, Option.bind_some]; rfl, ⟨by simp only; omega, by simp only; omega, ?_⟩, by simp only; omega, trivial⟩
      simp only
      rw [show (i + 1).toNat = i.toNat + 1 by omega, hs, crcB, hb, cond_true]
    | false =>
      refine ⟨_, by simp only [Bool.false_eq_true, decide_false, Bool.not_false, cond_true, Option.bind_some]; rfl, ⟨by simp only; omega, by simp only; omega, ?_⟩, by simp only; omega, trivial⟩
      simp only
      rw [show (i + 1).toNat = i.toNat + 1 by omega, hs, crcB, hb, cond_false]
  · left
    have : i = n := by omega
    subst this
    simp only [h5, decide_false, cond_false]

theorem g76_ok (a0 : (List Int)) (a1 : Int) (r0 : (Ty.sl (.int .u8)).ok a0) (r1 : IntKind.i64.has a1) : g76 a0 a1 = some (Sp04.check (a0, a1, ()), ()) := by
  obtain ⟨hl, hb⟩ := dat r0
  unfold g76 Sp04.check
  cases hv : valid (a0, a1, ()) with
  | false => simp only [Bool.not_false, cond_true]
  | true =>
    obtain ⟨v1, v2, v3, v4⟩ := valid_iff.1 hv
    simp only at v1 v2 v3 v4
    rw [check_loop1 a0 a1 v1 v2 (by omega)]
    rfl

theorem g81_ok (a0 : (List Int)) (a1 : Int) (r0 : (Ty.sl (.int .u8)).ok a0) (r1 : IntKind.i64.has a1) : g81 a0 a1 = some (Sp04.check (a0, a1, ()), ()) := by
  obtain ⟨hl, hb⟩ := dat r0
  unfold g81 Sp04.check
  cases hv : valid (a0, a1, ()) with
  | false => simp only [Bool.not_false, cond_true]
  | true =>
    obtain ⟨v1, v2, v3, v4⟩ := valid_iff.1 hv
    simp only at v1 v2 v3 v4
    rw [check_loop2 a0 a1 v1 v2 (by omega)]
    rfl

end Go.Abs.C04

namespace Go.Abs.C04
open Go Go.Proofs Sp04

theorem b2i_one (b : Bool) : decide (b2i b = 1) = b := by cases b <;> decide
theorem put_loop (l : List Int) (e : Int) (he : e ≤ 8 * (l.length : Int)) (hl : l.length ≤ 140737488355328) (s : S) (i : Int) (hb : bytesOk s.1) (hv : valid s = true) (h0 : 0 ≤ i) (hbn : s.2.1 + (e - i) ≤ 8192) :
    Loop (g89_s0 l e) (i, s, ()) = some (Sp04.enc (Sp04.bits s ++ bitsR l i.toNat (e - i).toNat), ()) := by
  refine Loop_inv (fun v : Int × S × Unit => bytesOk v.2.1.1 ∧ valid v.2.1 = true ∧ 0 ≤ v.1 ∧ v.2.1.2.1 + (e - v.1) ≤ 8192) (fun v : Int × S × Unit => (e - v.1).toNat)
    (fun v : Int × S × Unit => (Sp04.enc (Sp04.bits v.2.1 ++ bitsR l v.1.toNat (e - v.1).toNat), ())) ?_ (v := (i, s, ())) ⟨hb, hv, h0, hbn⟩
  rintro ⟨i, s, ⟨⟩⟩ ⟨i1, i2, i3, i4⟩
  simp only at i1 i2 i3 i4
  obtain ⟨v1, v2, v3, v4⟩ := valid_iff.1 i2
  unfold g89_s0
  by_cases hi : i < e
  · right
    have c1 : i < 8 * (l.length : Int) := by omega
    have e1 : IntKind.wrap .i64 (i + 1) = i + 1 := wi64 (by omega) (by omega)
    simp only [hi, i3, c1, i2, e1, decide_true, cond_true, Bool.and_self, on_true, Option.bind_some, Int.ofNat_eq_natCast, b2i_one]
    have hlen : (Sp04.bits s ++ [bitAt l i.toNat]).length = s.2.1.toNat + 1 := by simp [bits_length]
    refine ⟨_, rfl, ⟨enc_ok _, valid_enc (by omega), by simp only; omega, ?_⟩, by simp only; omega, ?_⟩
    · show ((Sp04.bits s ++ [bitAt l i.toNat]).length : Int) + (e - (i + 1)) ≤ 8192
      rw [hlen]; omega
    · simp only
      rw [bits_enc, List.append_assoc, show (e - i).toNat = 1 + (e - (i + 1)).toNat by omega, bitsR_add, show (i + 1).toNat = i.toNat + 1 by omega]
      rfl
  · left
    simp only [hi, decide_false, cond_false]
    rw [show (e - i).toNat = 0 by omega, bitsR0, List.append_nil, enc_bits i2 i1]

theorem align_loop (s : S) (hb : bytesOk s.1) (hv : valid s = true) : Loop g82_s0 (s, ()) = some ((s.1, 8 * (s.1.length : Int), ()), ()) := by
  refine Loop_inv (fun v : S × Unit => bytesOk v.1.1 ∧ valid v.1 = true) (fun v : S × Unit => (8 * v.1.1.length - v.1.2.1.toNat))
    (fun v : S × Unit => ((v.1.1, 8 * (v.1.1.length : Int), ()), ())) ?_ (v := (s, ())) ⟨hb, hv⟩
  rintro ⟨⟨l, n, ⟨⟩⟩, ⟨⟩⟩ ⟨i1, i2⟩
  simp only at i1 i2
  obtain ⟨v1, v2, v3, v4⟩ := valid_iff.1 i2
  simp only at v1 v2 v3 v4
  unfold g82_s0
  have e1 : Int.tmod n 8 = n % 8 := tmod_nn v1
  simp only [e1]
  by_cases h : n % 8 = 0
  · left
    have : 8 * (l.length : Int) = n := by omega
    simp only [h, decide_true, Bool.not_true, cond_false, this]
  · right
    have k : ((l, n + 1, ()) : S) = Sp04.enc (Sp04.bits (l, n, ()) ++ [false]) := by
      refine eq_enc i1 (by simp [bits_length]; omega) (by omega) fun i hi => ?_
      rw [getD_append, bits_length, bits_getD]
      simp only
      split
      · rfl
      · rw [v4 i (by omega)]
        cases hk : i - n.toNat with
        | zero => rfl
        | succ m => rfl
    have hd : decide ((0 : Int) = 1) = false := rfl
    simp only [h, decide_false, Bool.not_false, cond_true, i2, on_true, Option.bind_some, hd]
    rw [← k]
    refine ⟨_, rfl, ⟨i1, ?_⟩, by simp only; omega, rfl⟩
    rw [k]
    exact valid_enc (by simp [bits_length]; omega)

theorem g82_ok (a0 : (List Int)) (a1 : Int) (r0 : (Ty.sl (.int .u8)).ok a0) (r1 : IntKind.i64.has a1) : g82 a0 a1 = some (Sp04.align (a0, a1, ()), ()) := by
  obtain ⟨hl, hb⟩ := dat r0
  unfold g82 Sp04.align
  cases hv : valid (a0, a1, ()) with
  | false => rfl
  | true =>
    rw [align_loop _ hb hv]
    rfl

theorem valid_nil : valid ([], (0 : Int), ()) = true := by decide
theorem bits_nil : Sp04.bits ([], (0 : Int), ()) = [] := rfl

theorem g85_ok (a0 : (List Int)) (a1 : Int) (a2 : Int) (a3 : Int) (r0 : (Ty.sl (.int .u8)).ok a0) (r1 : IntKind.i64.has a1) (r2 : IntKind.i64.has a2) (r3 : IntKind.i64.has a3) : g85 a0 a1 a2 a3 = some (Sp04.slice (a0, a1, ()) a2 a3, ()) := by
  unfold g85 Sp04.slice
  cases hv : valid (a0, a1, ()) with
  | false => rfl
  | true =>
    obtain ⟨v1, v2, v3, v4⟩ := valid_iff.1 hv
    simp only at v1 v2 v3 v4
    simp only [Bool.not_true, cond_false, GT.gt]
    by_cases h1 : a2 < 0
    · simp [h1, zs]
    by_cases h2 : a3 < a2
    · simp [h1, h2, zs]
    by_cases h3 : a1 < a3
    · simp [h1, h2, h3, zs]
    have c1 : 0 ≤ a2 := by omega
    have c2 : a3 ≤ 8 * (a0.length : Int) := by omega
    have c3 : 0 + (a3 - a2) ≤ 8192 := by omega
    simp only [h1, h2, h3, c1, c2, c3, valid_nil, bits_nil, List.nil_append, decide_true, decide_false, Bool.not_false, cond_true, cond_false, Bool.and_self, Bool.or_self, on_true, Option.bind_some, Int.ofNat_eq_natCast]

theorem g89_ok (a0 : (List Int)) (a1 : Int) (a2 : Int) (a3 : Int) (r0 : (Ty.sl (.int .u8)).ok a0) (r1 : IntKind.i64.has a1) (r2 : IntKind.i64.has a2) (r3 : IntKind.i64.has a3) : g89 a0 a1 a2 a3 = some (Sp04.slice (a0, a1, ()) a2 a3, ()) := by
  obtain ⟨hl, hb⟩ := dat r0
  unfold g89 Sp04.slice
  cases hv : valid (a0, a1, ()) with
  | false => rfl
  | true =>
    obtain ⟨v1, v2, v3, v4⟩ := valid_iff.1 hv
    simp only at v1 v2 v3 v4
    simp only [Bool.not_true, cond_false, GT.gt]
    by_cases h1 : a2 < 0
    · simp [h1, zs]
    by_cases h2 : a3 < a2
    · simp [h1, h2, zs]
    by_cases h3 : a1 < a3
    · simp [h1, h2, h3, zs]
    simp only [h1, h2, h3, decide_false, Bool.not_false, cond_true, cond_false, Bool.or_self, Option.bind_some]
    rw [put_loop a0 a3 (by omega) hl ([], 0, ()) a2 (fun x hx => by cases hx) valid_nil (by omega) (by simp only; omega), bits_nil, List.nil_append]
    rfl

end Go.Abs.C04

namespace Go.Abs.C04
open Go Go.Proofs Sp04
set_option maxRecDepth 100000

def U (b : Int) : Prop := 0 ≤ b ∧ b < 18446744073709551616

theorem ofN (n : Nat) : Int.ofNat n = (n : Int) := rfl

theorem uh {x : Int} (h : IntKind.u64.has x) : U x := has_u64 h

theorem utn {x : Int} (h : U x) : x.toNat < 2 ^ 64 := by have := h.1; have := h.2; omega

theorem band {x y : Int} (hx : U x) (hy : U y) : IntKind.wrap .u64 (Int.ofNat (BitVec.and (BitVec.ofInt 64 x) (BitVec.ofInt 64 y)).toNat) = ((x.toNat &&& y.toNat : Nat) : Int) := by
  have h : x.toNat &&& y.toNat < 2 ^ 64 := Nat.and_lt_two_pow _ (utn hy)
  rw [bvand hx.1 (by have := hx.2; omega) hy.1 (by have := hy.2; omega), ofN]
  exact wu64 (by omega) (by omega)

theorem bor {x y : Int} (hx : U x) (hy : U y) : IntKind.wrap .u64 (Int.ofNat (BitVec.or (BitVec.ofInt 64 x) (BitVec.ofInt 64 y)).toNat) = ((x.toNat ||| y.toNat : Nat) : Int) := by
  have h : x.toNat ||| y.toNat < 2 ^ 64 := Nat.or_lt_two_pow (utn hx) (utn hy)
  rw [bvor hx.1 (by have := hx.2; omega) hy.1 (by have := hy.2; omega), ofN]
  exact wu64 (by omega) (by omega)

theorem bxor {x y : Int} (hx : U x) (hy : U y) : IntKind.wrap .u64 (Int.ofNat (BitVec.xor (BitVec.ofInt 64 x) (BitVec.ofInt 64 y)).toNat) = ((x.toNat ^^^ y.toNat : Nat) : Int) := by
  have h : x.toNat ^^^ y.toNat < 2 ^ 64 := Nat.xor_lt_two_pow (utn hx) (utn hy)
  rw [bvxor hx.1 (by have := hx.2; omega) hy.1 (by have := hy.2; omega), ofN]
  exact wu64 (by omega) (by omega)

theorem bandn {x y : Int} (hx : U x) (hy : U y) : IntKind.wrap .u64 (Int.ofNat (BitVec.and (BitVec.ofInt 64 x) (BitVec.not (BitVec.ofInt 64 y))).toNat) = ((x.toNat &&& (18446744073709551615 - y.toNat) : Nat) : Int) := by
  have hy2 := utn hy
  have h : x.toNat &&& (18446744073709551615 - y.toNat) < 2 ^ 64 := Nat.and_lt_two_pow _ (by omega)
  have e : (BitVec.and (BitVec.ofInt 64 x) (BitVec.not (BitVec.ofInt 64 y))).toNat = x.toNat &&& (18446744073709551615 - y.toNat) := by
    show (BitVec.ofInt 64 x &&& ~~~ BitVec.ofInt 64 y).toNat = _
    rw [BitVec.toNat_and, BitVec.toNat_not, toNat_ofInt hx.1 (by have := hx.2; omega), toNat_ofInt hy.1 (by have := hy.2; omega)]
  rw [e, ofN]
  exact wu64 (by omega) (by omega)

theorem ucast {n : Nat} (h : n < 2 ^ 64) : U (n : Int) := ⟨by omega, by omega⟩

theorem g63_ok (a0 : (List Int)) (a1 : Int) (r0 : (Ty.sl (.int .i64)).ok a0) (r1 : IntKind.i64.has a1) (h : (Sp04.wf (a0, a1, ())) = true) : g63 a0 a1 = some (Sp04.length (a0, a1, ())) := by
  unfold g63 Sp04.length
  rw [on_true (by rw [h]; rfl)]
  rfl

theorem room1 {n : Nat} (h : n ≤ 5000) : Nat.ble ((n + 1) * 1) 140737488355328 = true := ble_t (by omega)

theorem text_wf {t : Tp} (h : wf t = true) : ∀ k, wf (textN k t).2 = true ∧ (textN k t).1.length = k
  | 0 => ⟨h, rfl⟩
  | k + 1 => ⟨next_wf (n := 256) (text_wf h k).1, by rw [textN, List.length_append, (text_wf h k).2]; rfl⟩

theorem text_run (t : Tp) (h : wf t = true) (n : Nat) (hn : n ≤ 1000) :
    Loop g65_s0 (t, [], (n : Int), ()) = some ((textN n t).2, (textN n t).1, ()) := by
  have key : ∀ k, k ≤ n → Loop g65_s0 ((textN (n - k) t).2, (textN (n - k) t).1, (k : Int), ()) = some ((textN n t).2, (textN n t).1, ()) := by
    intro k
    induction k with
    | zero => intro _; rw [Loop_step]; rfl
    | succ k ih =>
      intro hk
      obtain ⟨w1, w2⟩ := text_wf h (n - (k + 1))
      have c : ((k + 1 : Nat) : Int) > 0 := by omega
      have e : IntKind.wrap .i64 (((k + 1 : Nat) : Int) - 1) = (k : Int) := by rw [wi64 (by omega) (by omega)]; omega
      have r := next_range (t := (textN (n - (k + 1)) t).2) (n := 256) (by decide)
      have hs : g65_s0 ((textN (n - (k + 1)) t).2, (textN (n - (k + 1)) t).1, ((k + 1 : Nat) : Int), ()) = some (.inl ((textN (n - (k + 1) + 1) t).2, (textN (n - (k + 1) + 1) t).1, (k : Int), ())) := by
        unfold g65_s0
        rw [on_true w1]
        simp only [c, decide_true, cond_true, Option.bind_some, e, room1 (n := (textN (n - (k + 1)) t).1.length) (by omega), wu8 r.1 r.2]
        rfl
      rw [Loop_step, hs]
      simp only
      rw [show n - (k + 1) + 1 = n - k by omega]
      exact ih (by omega)
  have := key n (Nat.le_refl _)
  rw [Nat.sub_self] at this
  exact this

theorem g65_ok (a0 : (List Int)) (a1 : Int) (a2 : Int) (r0 : (Ty.sl (.int .i64)).ok a0) (r1 : IntKind.i64.has a1) (r2 : IntKind.i64.has a2) (h : (Sp04.wf (a0, a1, ()) && decide (0 ≤ a2) && decide (a2 ≤ 1000)) = true) : g65 a0 a1 a2 = some (Sp04.text (a0, a1, ()) a2) := by
  simp only [Bool.and_eq_true, decide_eq_true_eq] at h
  obtain ⟨⟨h1, h2⟩, h3⟩ := h
  have hs : small a2 = true := small_iff.2 (by omega)
  have h0 : small 0 = true := by decide
  have hr := range_in (t := (a0, a1, ())) (a := 0) (b := a2) h2
  unfold g65 Sp04.text
  rw [on_true (b := wf (a0, a1, ()) && small 0 && small a2) (by rw [h1, h0, hs]; rfl)]
  simp only [Option.bind_some]
  have hw := range_wf (a := 0) (b := a2) h1
  have hc : (range (a0, a1, ()) 0 a2).1 = (((range (a0, a1, ()) 0 a2).1.toNat : Nat) : Int) := by omega
  rw [hc, text_run _ hw _ (by omega)]
  rfl

theorem g94_ok (a0 : Int) (r0 : IntKind.i64.has a0) : g94 a0 = some (Sp04.vlen a0, ()) := by
  unfold g94 Sp04.vlen
  cases decide (a0 = 8) <;> cases decide (a0 = 16) <;> cases decide (a0 = 32) <;> rfl

theorem g96_ok (a0 : Int) (r0 : IntKind.i64.has a0) : g96 a0 = some (Sp04.vlen a0, ()) := by
  unfold g96 Sp04.vlen
  cases decide (a0 = 8) <;> cases decide (a0 = 16) <;> cases decide (a0 = 32) <;> rfl

theorem vlen_iff {n : Int} (h : vlen n = true) : n = 8 ∨ n = 16 ∨ n = 32 ∨ n = 64 := by
  simpa [vlen, or_assoc] using h

theorem pow_U {k : Nat} (h : k < 64) : U ((2 : Int) ^ k) := by
  rw [pow_cast]
  exact ucast (Nat.pow_lt_pow_right (by decide) h)

theorem bit1_U (k : Int) : U (bit1 k) := by
  unfold bit1
  by_cases h1 : k < 0
  · simp [h1, U]
  · by_cases h2 : 63 < k
    · simp [h2, U]
    · rw [decide_eq_false h1, decide_eq_false h2]
      exact pow_U (by omega)

theorem g91_ok (a0 : Int) (r0 : IntKind.i64.has a0) : g91 a0 = some (Sp04.bit1 a0, ()) := by
  unfold g91 Sp04.bit1
  simp only [gt_iff_lt]
  by_cases h1 : a0 < 0
  · rw [decide_eq_true h1]; rfl
  · by_cases h2 : 63 < a0
    · rw [decide_eq_false h1, decide_eq_true h2]; rfl
    · have e1 : IntKind.wrap .u64 a0 = a0 := wu64 (by omega) (by omega)
      have hp := pow_U (k := a0.toNat) (by omega)
      have e2 : IntKind.wrap .u64 ((2 : Int) ^ a0.toNat) = 2 ^ a0.toNat := wu64 hp.1 hp.2
      rw [decide_eq_false h1, decide_eq_false h2, e1, decide_eq_true (show (0 : Int) ≤ a0 by omega), show min a0.toNat 64 = a0.toNat by omega, pow2, Int.one_mul, e2]
      rfl

theorem g95_ok (a0 : Int) (r0 : IntKind.i64.has a0) : g95 a0 = some (Sp04.full a0, ()) := by
  unfold g95
  cases hv : vlen a0 with
  | false => unfold Sp04.full; rw [hv]; rfl
  | true => rcases vlen_iff hv with rfl | rfl | rfl | rfl <;> rfl

theorem or_full (i : Nat) : (2 ^ i - 1) ||| 2 ^ i = 2 ^ (i + 1) - 1 := by
  refine Nat.eq_of_testBit_eq fun j => ?_
  rw [Nat.testBit_or, Nat.testBit_two_pow_sub_one, Nat.testBit_two_pow, Nat.testBit_two_pow_sub_one]
  by_cases h1 : j < i
  · simp [h1]; omega
  · by_cases h2 : i = j
    · simp [h2]
    · have : ¬ j < i + 1 := by omega
      simp [h1, h2, this]

theorem full_loop (n : Nat) (hn : n ≤ 64) : Loop (g92_s0 (n : Int)) ((0 : Int), (0 : Int), ()) = some (((2 ^ n - 1 : Nat) : Int), ()) := by
  have key : ∀ k, k ≤ n → Loop (g92_s0 (n : Int)) (((n - k : Nat) : Int), ((2 ^ (n - k) - 1 : Nat) : Int), ()) = some (((2 ^ n - 1 : Nat) : Int), ()) := by
    intro k
    induction k with
    | zero =>
      intro _
      have c : ¬ ((n - 0 : Nat) : Int) < (n : Int) := by omega
      have hs : g92_s0 (n : Int) (((n - 0 : Nat) : Int), ((2 ^ (n - 0) - 1 : Nat) : Int), ()) = some (.inr (((2 ^ (n - 0) - 1 : Nat) : Int), ())) := by
        unfold g92_s0
        simp only [c, decide_false, cond_false]
      rw [Loop_step, hs]
      rfl
    | succ k ih =>
      intro hk
      have c : ((n - (k + 1) : Nat) : Int) < (n : Int) := by omega
      have e : IntKind.wrap .i64 (((n - (k + 1) : Nat) : Int) + 1) = ((n - k : Nat) : Int) := by rw [wi64 (by omega) (by omega)]; omega
      have hb : bit1 ((n - (k + 1) : Nat) : Int) = ((2 ^ (n - (k + 1)) : Nat) : Int) := by
        unfold bit1
        rw [decide_eq_false (by omega), decide_eq_false (by omega)]
        simp only [Bool.or_self, cond_false, Int.toNat_natCast]
        exact pow_cast _
      have hlt : 2 ^ (n - (k + 1)) < 2 ^ 64 := Nat.pow_lt_pow_right (by decide) (by omega)
      have hpos := Nat.two_pow_pos (n - (k + 1))
      have hs : g92_s0 (n : Int) (((n - (k + 1) : Nat) : Int), ((2 ^ (n - (k + 1)) - 1 : Nat) : Int), ()) = some (.inl (((n - k : Nat) : Int), ((2 ^ (n - k) - 1 : Nat) : Int), ())) := by
        unfold g92_s0
        simp only [c, decide_true, cond_true, e, hb]
        rw [bor (ucast (by omega)) (ucast hlt), Int.toNat_natCast, Int.toNat_natCast, or_full, show n - (k + 1) + 1 = n - k by omega]
      rw [Loop_step, hs]
      exact ih (by omega)
  have := key n (Nat.le_refl _)
  rw [Nat.sub_self] at this
  exact this

theorem full_nat {n : Int} (h : vlen n = true) : full n = ((2 ^ n.toNat - 1 : Nat) : Int) := by
  rcases vlen_iff h with rfl | rfl | rfl | rfl <;> rfl

theorem g92_ok (a0 : Int) (r0 : IntKind.i64.has a0) : g92 a0 = some (Sp04.full a0, ()) := by
  unfold g92
  cases hv : vlen a0 with
  | false => unfold Sp04.full; rw [hv]; rfl
  | true =>
    have h1 := vlen_iff hv
    rw [full_nat hv]
    obtain ⟨n, rfl⟩ : ∃ n : Nat, a0 = (n : Int) := ⟨a0.toNat, by omega⟩
    rw [full_loop n (by omega)]
    rfl

theorem U0 : U 0 := ⟨by decide, by decide⟩

theorem Um : U 18446744073709551615 := ⟨by decide, by decide⟩

theorem full_U (n : Int) : U (full n) := by
  cases hv : vlen n with
  | false => unfold full; rw [hv]; exact U0
  | true => rcases vlen_iff hv with rfl | rfl | rfl | rfl <;> exact ⟨by decide, by decide⟩

theorem not_full {x : Nat} (hx : x < 2 ^ 64) {n : Nat} (hn : n ≤ 64) : (x &&& (18446744073709551615 - (2 ^ n - 1)) = 0) ↔ x < 2 ^ n := by
  have hle : 2 ^ n ≤ 2 ^ 64 := Nat.pow_le_pow_right (by decide) hn
  have hpos := Nat.two_pow_pos n
  have e : 18446744073709551615 - (2 ^ n - 1) = 2 ^ 64 - ((2 ^ n - 1) + 1) := by omega
  have hb : ∀ i, (x &&& (18446744073709551615 - (2 ^ n - 1))).testBit i = (x.testBit i && (decide (i < 64) && !decide (i < n))) := fun i => by
    rw [Nat.testBit_and, e, Nat.testBit_two_pow_sub_succ (by omega), Nat.testBit_two_pow_sub_one]
  constructor
  · intro h
    refine Nat.lt_pow_two_of_testBit _ fun i hi => ?_
    by_cases h64 : i < 64
    · have := hb i
      rw [h] at this
      have h3 : ¬ i < n := by omega
      simp [h64, h3] at this
      exact this
    · have h1 : 2 ^ 64 ≤ 2 ^ i := Nat.pow_le_pow_right (by decide) (by omega)
      exact Nat.testBit_lt_two_pow (Nat.lt_of_lt_of_le hx h1)
  · intro h
    refine Nat.eq_of_testBit_eq fun i => ?_
    rw [hb, Nat.zero_testBit]
    by_cases h3 : i < n
    · simp [h3]
    · have h1 : 2 ^ n ≤ 2 ^ i := Nat.pow_le_pow_right (by decide) (by omega)
      rw [Nat.testBit_lt_two_pow (Nat.lt_of_lt_of_le h h1)]
      rfl

theorem valid_run {x n : Int} (hx : U x) (hv : vlen n = true) : decide (IntKind.wrap .u64 (Int.ofNat (BitVec.and (BitVec.ofInt 64 x) (BitVec.not (BitVec.ofInt 64 (full n)))).toNat) = 0) = decide (x < 2 ^ n.toNat) := by
  rw [bandn hx (full_U n), full_nat hv, Int.toNat_natCast]
  have hn : n.toNat ≤ 64 := by rcases vlen_iff hv with rfl | rfl | rfl | rfl <;> decide
  have := not_full (utn hx) hn
  have e : (x < 2 ^ n.toNat) ↔ x.toNat < 2 ^ n.toNat := by
    rw [pow_cast]
    have := hx.1
    generalize 2 ^ n.toNat = q
    omega
  have e2 : (((x.toNat &&& (18446744073709551615 - (2 ^ n.toNat - 1)) : Nat) : Int) = 0) ↔ (x.toNat &&& (18446744073709551615 - (2 ^ n.toNat - 1))) = 0 := by
    generalize x.toNat &&& (18446744073709551615 - (2 ^ n.toNat - 1)) = q
    omega
  congr 1
  exact propext (e2.trans (this.trans e.symm))

theorem g69_ok (a0 : Int) (a1 : Int) (r0 : IntKind.u64.has a0) (r1 : IntKind.i64.has a1) : g69 a0 a1 = some (Sp04.validB a0 a1, ()) := by
  unfold g69 Sp04.validB
  cases hv : vlen a1 with
  | false => rfl
  | true => rw [valid_run (uh r0) hv]; rfl

theorem g71_ok (a0 : Int) (a1 : Int) (r0 : IntKind.u64.has a0) (r1 : IntKind.i64.has a1) : g71 a0 a1 = some (Sp04.validB a0 a1, ()) := by
  unfold g71 Sp04.validB
  cases hv : vlen a1 with
  | false => rfl
  | true => rw [valid_run (uh r0) hv]; rfl

theorem wu_mod (x : Int) : IntKind.wrap .u64 x = x.emod 18446744073709551616 := wu64m x

theorem emod_U (x : Int) : U (x.emod 18446744073709551616) := ⟨Int.emod_nonneg x (by decide), Int.emod_lt_of_pos x (by decide)⟩

theorem mod_U (x : Int) : U (x % 18446744073709551616) := emod_U x

theorem bitsV_U (t : Tp) (n : Int) : U (bitsV t n).1 := by
  unfold bitsV
  simp only
  cases decide ((next (raw (raw t).2).2 6).1 = 0) with
  | true => exact U0
  | false =>
    cases decide ((next (raw (raw t).2).2 6).1 = 1) with
    | true => exact bit1_U _
    | false =>
      cases decide ((next (raw (raw t).2).2 6).1 = 2) with
      | true => exact Um
      | false => exact ucast (Nat.xor_lt_two_pow (utn (mod_U _)) (utn (emod_U _)))

theorem g64_ok (a0 : (List Int)) (a1 : Int) (a2 : Int) (r0 : (Ty.sl (.int .i64)).ok a0) (r1 : IntKind.i64.has a1) (r2 : IntKind.i64.has a2) (h : (Sp04.wf (a0, a1, ())) = true) : g64 a0 a1 a2 = some (Sp04.bitsT (a0, a1, ()) a2) := by
  have w1 := raw_wf h
  have w2 := raw_wf w1
  have w3 := next_wf (n := 6) w2
  have hu := bitsV_U (a0, a1, ()) a2
  unfold g64 Sp04.bitsT
  rw [on_true h]
  simp only [Option.bind_some]
  rw [on_true w1]
  simp only [Option.bind_some]
  rw [on_true w2]
  simp only [Option.bind_some]
  rw [on_true w3]
  have hx : IntKind.wrap .u64 (Int.ofNat (BitVec.xor (BitVec.ofInt 64 (IntKind.wrap .u64 (IntKind.wrap .u64 (raw (a0, a1, ())).1 * 11400714819323198485))) (BitVec.ofInt 64 (IntKind.wrap .u64 (raw (raw (a0, a1, ())).2).1))).toNat) = (((Nat.xor ((raw (a0, a1, ())).1.emod 18446744073709551616 * 11400714819323198485 % 18446744073709551616).toNat ((raw (raw (a0, a1, ())).2).1.emod 18446744073709551616).toNat : Nat) : Int)) := by
    rw [wu_mod (raw (a0, a1, ())).1, wu_mod (raw (raw (a0, a1, ())).2).1, wu_mod (_ * 11400714819323198485), bxor (emod_U _) (emod_U _)]
    rfl
  rw [hx]
  have hs : ∀ v : Int, U v → IntKind.wrap .u64 (Int.ofNat (BitVec.and (BitVec.ofInt 64 v) (BitVec.ofInt 64 (full a2))).toNat) = Sp04.and v (full a2) := fun v hv => band hv (full_U a2)
  have hv : bitsV (a0, a1, ()) a2 = bif decide ((next (raw (raw (a0, a1, ())).2).2 6).1 = 0) then (0, (next (raw (raw (a0, a1, ())).2).2 6).2) else
      bif decide ((next (raw (raw (a0, a1, ())).2).2 6).1 = 1) then (bit1 (next (next (raw (raw (a0, a1, ())).2).2 6).2 a2).1, (next (next (raw (raw (a0, a1, ())).2).2 6).2 a2).2) else
      bif decide ((next (raw (raw (a0, a1, ())).2).2 6).1 = 2) then (18446744073709551615, (next (raw (raw (a0, a1, ())).2).2 6).2) else
      ((((Nat.xor ((raw (a0, a1, ())).1.emod 18446744073709551616 * 11400714819323198485 % 18446744073709551616).toNat ((raw (raw (a0, a1, ())).2).1.emod 18446744073709551616).toNat : Nat) : Int)), (next (raw (raw (a0, a1, ())).2).2 6).2) := rfl
  rw [hv] at hu ⊢
  revert hu
  cases decide ((next (raw (raw (a0, a1, ())).2).2 6).1 = 0) with
  | true => intro hu; simp only [cond_true, Option.bind_some] at hu ⊢; rw [hs _ hu]
  | false =>
    cases decide ((next (raw (raw (a0, a1, ())).2).2 6).1 = 1) with
    | true => intro hu; simp only [cond_true, cond_false, Option.bind_some] at hu ⊢; rw [hs _ hu]
    | false =>
      cases decide ((next (raw (raw (a0, a1, ())).2).2 6).1 = 2) with
      | true => intro hu; simp only [cond_true, cond_false, Option.bind_some] at hu ⊢; rw [hs _ hu]
      | false => intro hu; simp only [cond_false, Option.bind_some] at hu ⊢; rw [hs _ hu]

def listN (b : Int) (k : Nat) : List Int := ((List.range k).filter (tb b)).map fun (k : Nat) => (k : Int)

def wa (x y : Int) : Int := IntKind.wrap .u64 (Int.ofNat (BitVec.and (BitVec.ofInt 64 x) (BitVec.ofInt 64 y)).toNat)
theorem fd (x d : Nat) : Int.fdiv (x : Int) (d : Int) = ((x / d : Nat) : Int) := by
  rw [Int.fdiv_eq_ediv_of_nonneg _ (by omega), ← Int.natCast_ediv]
theorem g78_ok (a0 : Int) (r0 : IntKind.i64.has a0) (h : (Sp04.vlen a0) = true) : g78 a0 = some (Sp04.code a0, ()) := by
  have k : ∀ n : Int, n = 8 ∨ n = 16 ∨ n = 32 ∨ n = 64 → Loop g78_s0 ((0 : Int), (n, ())) = some (Sp04.code n, ()) := by
    intro n hn
    rcases hn with rfl | rfl | rfl | rfl
    · exact Loop_of (n := 1) rfl
    · exact Loop_of (n := 2) rfl
    · exact Loop_of (n := 3) rfl
    · exact Loop_of (n := 4) rfl
  unfold g78
  rw [k a0 (vlen_iff h)]
  rfl

theorem g87_ok (a0 : Int) (r0 : IntKind.i64.has a0) (h : (Sp04.inside a0 0 3) = true) : g87 a0 = some (Sp04.decoded a0, ()) := by
  have h1 : 0 ≤ a0 ∧ a0 ≤ 3 := by simpa [Sp04.inside] using h
  have : a0 = 0 ∨ a0 = 1 ∨ a0 = 2 ∨ a0 = 3 := by omega
  rcases this with rfl | rfl | rfl | rfl <;> rfl

end Go.Abs.C04

namespace Go.Abs.C04
open Go Go.Proofs Sp04

theorem bifAnd (p q : Bool) : (bif p then some (q, ()) else some (false, ())) = some (p && q, ()) := by cases p <;> rfl

theorem g68_ok (a0 : Int) (a1 : Int) (r0 : IntKind.i64.has a0) (r1 : IntKind.i64.has a1) : g68 a0 a1 = some (Sp04.inside a0 0 a1, ()) := by
  unfold g68 Sp04.inside
  simp only [bifAnd, Option.bind_some]

theorem g70_ok (a0 : Int) (a1 : Int) (r0 : IntKind.i64.has a0) (r1 : IntKind.i64.has a1) : g70 a0 a1 = some (Sp04.inside a0 0 a1, ()) := by
  unfold g70 Sp04.inside
  simp only [bifAnd, Option.bind_some]

theorem le64 (l : List Int) : decide (Int.ofNat l.length ≤ 64) = decide (l.length ≤ 64) := decide_eq_decide.2 (by simp; omega)

theorem g44_ok (a0 : Int) (a1 : Int) (a2 : Int) (a3 : Int) (a4 : Int) (a5 : Int) (a6 : Int) (a7 : Int) (a8 : Int) (a9 : (List Int)) (r0 : IntKind.i64.has a0) (r1 : IntKind.i64.has a1) (r2 : IntKind.i64.has a2) (r3 : IntKind.i64.has a3) (r4 : IntKind.i64.has a4) (r5 : IntKind.i64.has a5) (r6 : IntKind.i64.has a6) (r7 : IntKind.i64.has a7) (r8 : IntKind.u64.has a8) (r9 : Ty.str.ok a9) : g44 a0 a1 a2 a3 a4 a5 a6 a7 a8 a9 = some (Sp04.validP (a0, a1, a2, a3, a4, a5, a6, a7, a8, a9, ()), ()) := by
  unfold g44 Sp04.validP
  simp only [md, sd, st, ln, tl, en, ig, pr, bt, py, bifAnd, Option.bind_some, le64, Bool.and_assoc]
  unfold Sp04.inside
  simp only [Bool.and_assoc]
  rfl

theorem g46_ok (a0 : Int) (a1 : Int) (a2 : Int) (a3 : Int) (a4 : Int) (a5 : Int) (a6 : Int) (a7 : Int) (a8 : Int) (a9 : (List Int)) (r0 : IntKind.i64.has a0) (r1 : IntKind.i64.has a1) (r2 : IntKind.i64.has a2) (r3 : IntKind.i64.has a3) (r4 : IntKind.i64.has a4) (r5 : IntKind.i64.has a5) (r6 : IntKind.i64.has a6) (r7 : IntKind.i64.has a7) (r8 : IntKind.u64.has a8) (r9 : Ty.str.ok a9) : g46 a0 a1 a2 a3 a4 a5 a6 a7 a8 a9 = some (Sp04.validP (a0, a1, a2, a3, a4, a5, a6, a7, a8, a9, ()), ()) := by
  unfold g46 Sp04.validP
  simp only [md, sd, st, ln, tl, en, ig, pr, bt, py, bifAnd, Option.bind_some, le64, Bool.and_assoc]
  unfold Sp04.inside
  simp only [Bool.and_assoc]
  rfl

theorem in1000 {n : Int} (h : inside n 0 1000 = true) : 0 ≤ n ∧ n ≤ 1000 := by simpa [Sp04.inside] using h

theorem g84_ok (a0 : Int) (a1 : Int) (r0 : IntKind.i64.has a0) (r1 : IntKind.i64.has a1) (h : (Sp04.inside a0 0 1000 && Sp04.inside a1 0 1000) = true) : g84 a0 a1 = some (65 + a0 + 8 * a1, ()) := by
  simp only [Bool.and_eq_true] at h
  have h1 := in1000 h.1
  have h2 := in1000 h.2
  unfold g84
  rw [wi64 (n := 49 + a0) (by omega) (by omega), wi64 (n := 8 * a1) (by omega) (by omega), wi64 (n := 49 + a0 + 8 * a1) (by omega) (by omega), wi64 (by omega) (by omega)]
  congr 2
  omega

theorem g88_ok (a0 : Int) (a1 : Int) (r0 : IntKind.i64.has a0) (r1 : IntKind.i64.has a1) (h : (Sp04.inside a0 0 1000 && Sp04.inside a1 0 1000) = true) : g88 a0 a1 = some ((72 + a0 + 8 * a1) / 8, ()) := by
  simp only [Bool.and_eq_true] at h
  have h1 := in1000 h.1
  have h2 := in1000 h.2
  unfold g88
  rw [wi64 (n := 49 + a0) (by omega) (by omega), wi64 (n := 8 * a1) (by omega) (by omega), wi64 (n := 49 + a0 + 8 * a1) (by omega) (by omega), wi64 (n := 49 + a0 + 8 * a1 + 16) (by omega) (by omega), wi64 (n := 49 + a0 + 8 * a1 + 16 + 7) (by omega) (by omega), tdiv_nn (by omega), wi64 (by omega) (by omega)]
  congr 2
  omega

structure Fit (p : Pk) : Prop where
  hm : 1 ≤ md p ∧ md p ≤ 3
  hd : 0 ≤ sd p ∧ sd p ≤ 7
  hs : 0 ≤ Sp04.st p ∧ Sp04.st p ≤ 31
  hl : vlen (ln p) = true
  hb : bt p < 2 ^ (ln p).toNat
  ht : 0 ≤ tl p ∧ tl p ≤ 63
  he : 0 ≤ en p ∧ en p ≤ 1023
  hg : 0 ≤ ig p ∧ ig p ≤ 256
  hr : 0 ≤ pr p ∧ pr p ≤ 7
  hp : (py p).length ≤ 64
theorem valid_fit {p : Pk} : validP p = true ↔ Fit p := by
  unfold validP validB Sp04.inside
  simp only [Bool.and_eq_true, decide_eq_true_eq]
  constructor
  · rintro ⟨⟨⟨⟨⟨⟨⟨⟨h1, h2⟩, h3⟩, h4⟩, h5⟩, h6⟩, h7⟩, h8⟩, h9⟩
    exact ⟨h1, h2, h3, h4.1, h4.2, h5, h6, h7, h8, h9⟩
  · rintro ⟨h1, h2, h3, h4, h4', h5, h6, h7, h8, h9⟩
    exact ⟨⟨⟨⟨⟨⟨⟨⟨h1, h2⟩, h3⟩, h4, h4'⟩, h5⟩, h6⟩, h7⟩, h8⟩, h9⟩
theorem fit_len {p : Pk} (h : Fit p) : 8 ≤ ln p ∧ ln p ≤ 64 := by
  rcases vlen_iff h.hl with h | h | h | h <;> omega
theorem g73_ok (a0 : Int) (r0 : IntKind.i64.has a0) (h : (Sp04.vlen a0) = true) : g73 a0 = some (Sp04.code a0, ()) := by
  have k : ∀ n : Int, n = 8 ∨ n = 16 ∨ n = 32 ∨ n = 64 → Loop (g73_s0 n) ((0 : Int), ()) = some (Sp04.code n, ()) := by
    intro n hn
    rcases hn with rfl | rfl | rfl | rfl
    · exact Loop_of (n := 1) rfl
    · exact Loop_of (n := 2) rfl
    · exact Loop_of (n := 3) rfl
    · exact Loop_of (n := 4) rfl
  unfold g73
  rw [k a0 (vlen_iff h)]
  rfl

theorem g79_ok   : g79  = some (Sp04.widths, ()) := by
  rfl

theorem order_wf {t : Tp} (h : wf t = true) : ∀ k, wf (orderN k t).2 = true ∧ (orderN k t).1.length = k
  | 0 => ⟨h, rfl⟩
  | k + 1 => by
    obtain ⟨w1, w2⟩ := order_wf h k
    have hr := next_range (t := (orderN k t).2) (n := (k : Int) + 1) (by omega)
    refine ⟨next_wf (n := (k : Int) + 1) w1, ?_⟩
    unfold orderN
    simp only [List.length_append, List.length_cons, List.length_take, List.length_drop, w2]
    omega
theorem order_run (t : Tp) (h : wf t = true) (n : Nat) (hn : n ≤ 1000) : Loop (g38_s0 (n : Int)) (t, [], (0 : Int), ()) = some ((orderN n t).2, (orderN n t).1, ()) := by
  refine Loop_inv (fun v : Tp × List Int × Int × Unit => ∃ k : Nat, k ≤ n ∧ v = ((orderN k t).2, (orderN k t).1, (k : Int), ())) (fun v : Tp × List Int × Int × Unit => ((n : Int) - v.2.2.1).toNat) (fun _ => ((orderN n t).2, (orderN n t).1, ())) ?_ (v := (t, [], 0, ())) ⟨0, by omega, rfl⟩
  rintro v ⟨k, hk, rfl⟩
  obtain ⟨w1, w2⟩ := order_wf h k
  unfold g38_s0
  by_cases hkn : k < n
  · right
    have c : (k : Int) < (n : Int) := by omega
    have e : IntKind.wrap .i64 ((k : Int) + 1) = (k : Int) + 1 := wi64 (by omega) (by omega)
    have hr := next_range (t := (orderN k t).2) (n := (k : Int) + 1) (by omega)
    have hs : orderN (k + 1) t = ((orderN k t).1.take (next (orderN k t).2 ((k : Int) + 1)).1.toNat ++ ((k : Int) :: (orderN k t).1.drop (next (orderN k t).2 ((k : Int) + 1)).1.toNat), (next (orderN k t).2 ((k : Int) + 1)).2) := rfl
    simp only [c, decide_true, cond_true, e]
    rw [on_true w1]
    simp only [Option.bind_some]
    generalize next (orderN k t).2 ((k : Int) + 1) = a at *
    generalize orderN k t = r at *
    have b1 : Nat.ble ((r.1.take a.1.toNat).length * 8) 140737488355328 = true := ble_t (by rw [List.length_take]; omega)
    have b2 : Nat.ble (((r.1.take a.1.toNat).length + 1) * 8) 140737488355328 = true := ble_t (by rw [List.length_take]; omega)
    have b3 : Nat.ble (((r.1.take a.1.toNat ++ (k : Int) :: []).length + (r.1.drop a.1.toNat).length) * 8) 140737488355328 = true := ble_t (by simp only [List.length_append, List.length_take, List.length_cons, List.length_nil, List.length_drop]; omega)
    have c1 : a.1 ≤ (r.1.length : Int) := by omega
    simp only [hr.1, c1, Int.le_refl, Int.ofNat_eq_natCast, Int.toNat_natCast, List.take_length, List.drop_zero, List.nil_append, Nat.zero_add, b1, b2, b3, decide_true, Bool.and_self, cond_true]
    refine ⟨_, rfl, ⟨k + 1, by omega, ?_⟩, by simp only; omega, trivial⟩
    rw [hs]
    simp only [List.append_assoc, List.cons_append, List.nil_append]
    rfl
  · left
    have : k = n := by omega
    subst this
    simp only [Int.lt_irrefl, decide_false, cond_false]

theorem g38_ok (a0 : (List Int)) (a1 : Int) (a2 : Int) (r0 : (Ty.sl (.int .i64)).ok a0) (r1 : IntKind.i64.has a1) (r2 : IntKind.i64.has a2) (h : (Sp04.wf (a0, a1, ()) && decide (0 ≤ a2) && decide (a2 ≤ 1000)) = true) : g38 a0 a1 a2 = some (Sp04.order (a0, a1, ()) a2) := by
  simp only [Bool.and_eq_true, decide_eq_true_eq] at h
  obtain ⟨⟨h1, h2⟩, h3⟩ := h
  obtain ⟨n, rfl⟩ : ∃ n : Nat, a2 = (n : Int) := ⟨a2.toNat, by omega⟩
  unfold g38 Sp04.order
  rw [order_run _ h1 n (by omega)]
  rfl
end Go.Abs.C04

namespace Go.Abs.C04
open Go Go.Proofs Sp04
set_option maxRecDepth 100000

theorem append_good {bs : List Bool} {v w : Int} (h1 : bs.length ≤ 8000) (hw : 0 ≤ w ∧ w ≤ 64 ∧ 0 ≤ v ∧ v < 2 ^ w.toNat) : Sp04.append (Sp04.enc bs) v w = (Sp04.enc (bs ++ vbits v.toNat w.toNat), 0, ()) := by
  unfold Sp04.append
  have d1 : ¬ w < 0 := by omega
  have d2 : ¬ 64 < w := by omega
  have d3 : v / 2 ^ w.toNat = 0 := Int.ediv_eq_zero_of_lt hw.2.2.1 hw.2.2.2
  have d4 : ¬ 8192 < (Sp04.enc bs).2.1 + w := by
    have : (Sp04.enc bs).2.1 = (bs.length : Int) := rfl
    omega
  simp only [valid_enc (show bs.length ≤ 8192 by omega), d1, d2, d3, d4, bits_enc, Bool.not_true, decide_true, decide_false, Bool.or_self, Bool.and_false, cond_false]
theorem enc_nil : Sp04.enc [] = ([], 0, ()) := by unfold Sp04.enc pack; simp
def put1 (s : S) (v w : Int) : S := (Sp04.append s (IntKind.wrap .u64 v) w).1
theorem put_good {bs : List Bool} {v : Int} (n : Nat) (hn : n ≤ 20) (h1 : bs.length ≤ 8000) (hv : 0 ≤ v) (h2 : v < 2 ^ n) : put1 (Sp04.enc bs) v (n : Int) = Sp04.enc (bs ++ vbits v.toNat n) := by
  have h3 : (2 : Int) ^ n ≤ 2 ^ 20 := by
    rw [pow_cast, pow_cast]
    exact Int.ofNat_le.2 (Nat.pow_le_pow_right (by decide) hn)
  have h4 : (2 : Int) ^ 20 = 1048576 := by decide
  unfold put1
  rw [wu64 hv (by omega), append_good h1 ⟨by omega, by omega, hv, by simpa using h2⟩]
  simp
theorem crc_small (bs : List Bool) : crc bs < 65536 := by
  suffices h : ∀ (bs : List Bool) (r : Nat), r < 65536 → bs.foldl crcB r < 65536 from h bs 65535 (by omega)
  intro bs
  induction bs with
  | nil => intro r h; exact h
  | cons b l ih => intro r _; exact ih _ (crc_lt r b)
theorem inside_iff {n a b : Int} : inside n a b = true ↔ a ≤ n ∧ n ≤ b := by simp [inside]
theorem valid_bytes {l : List Int} (h : l.length ≤ 1024) : valid (l, 8 * (l.length : Int), ()) = true := by
  refine valid_iff.2 ⟨by simp only; omega, by simp only; omega, by simp only; omega, fun i hi => bitAt_ge ?_⟩
  simp only at hi ⊢
  omega
theorem take_bytes {l : List Int} (h : l.length ≤ 1024) (p n : Nat) (hn : n ≤ 64) : Sp04.take (l, 8 * (l.length : Int), ()) p n = bif decide (p + n ≤ 8 * l.length) then (gv l p n, 0, ()) else (0, 20, ()) := by
  unfold Sp04.take
  have c1 : ¬ (n : Int) < 0 := by omega
  have c2 : ¬ 64 < (n : Int) := by omega
  have c3 : ¬ (p : Int) < 0 := by omega
  rw [valid_bytes h]
  by_cases hq : p + n ≤ 8 * l.length
  · have c4 : ¬ 8 * (l.length : Int) - n < p := by omega
    simp only [c1, c2, c3, c4, decide_false, Bool.not_true, cond_false, Bool.or_self, hq, decide_true, cond_true, gv, Int.toNat_natCast]
  · have c4 : 8 * (l.length : Int) - n < p := by omega
    simp only [c1, c2, c3, c4, decide_false, Bool.not_true, cond_false, Bool.or_self, hq, decide_true, cond_true]
theorem gv_range (l : List Int) (p w : Nat) : 0 ≤ gv l p w ∧ gv l p w < (2 ^ w : Nat) := by
  unfold gv
  by_cases h : p + w ≤ 8 * l.length
  · have k := valOf_lt (bitsR l p w)
    rw [bitsR_length] at k
    simp only [h, decide_true, cond_true]
    omega
  · have := Nat.two_pow_pos w
    simp only [h, decide_false, cond_false]
    omega
theorem bitAt_take (l : List Int) (m i : Nat) (h : i < 8 * m) : bitAt (l.take m) i = bitAt l i := by
  unfold bitAt
  congr 1
  simp only [List.getD_eq_getElem?_getD]
  rw [List.getElem?_take_of_lt (by omega)]
theorem bitsR_take (l : List Int) (m p n : Nat) (h : p + n ≤ 8 * m) : bitsR (l.take m) p n = bitsR l p n := by
  unfold bitsR
  refine List.map_congr_left fun j hj => ?_
  rw [List.mem_range] at hj
  exact bitAt_take l m _ (by omega)
theorem gv_cut (l : List Int) (m p n : Nat) (h : p + n ≤ 8 * m) : gv (l.take m) p n = gv l p n := by
  unfold gv
  rw [bitsR_take l m p n h, List.length_take]
  have : (p + n ≤ 8 * min m l.length) = (p + n ≤ 8 * l.length) := propext (by omega)
  simp only [this]
theorem dec_run {y : Int} (h0 : 0 ≤ y) (h : y < 4) : IntKind.wrap .i64 (8 * Int.pow 2 (min y.toNat 64)) = decoded y := by
  have : y = 0 ∨ y = 1 ∨ y = 2 ∨ y = 3 := by omega
  rcases this with rfl | rfl | rfl | rfl <;> rfl
theorem gv2 (l : List Int) (p : Nat) : 0 ≤ gv l p 2 ∧ gv l p 2 < 4 := gv_range l p 2
theorem check_slice {l : List Int} (h : l.length ≤ 1024) {e : Nat} (he : e ≤ 8 * l.length) : (Sp04.check (Sp04.slice (l, 8 * (l.length : Int), ()) 0 e).1).1 = (crc (bitsR l 0 e) : Nat) := by
  have hs : (Sp04.slice (l, 8 * (l.length : Int), ()) 0 e).1 = Sp04.enc (bitsR l 0 e) := by
    unfold Sp04.slice
    have c1 : ¬ (0 : Int) < 0 := by omega
    have c2 : ¬ (e : Int) < 0 := by omega
    have c3 : ¬ 8 * (l.length : Int) < e := by omega
    rw [valid_bytes h]
    simp only [c1, c2, c3, decide_false, Bool.not_true, cond_false, Bool.or_self]
    simp
  have hl : (bitsR l 0 e).length ≤ 8192 := by rw [bitsR_length]; omega
  rw [hs]
  unfold Sp04.check
  rw [valid_enc hl, bits_enc]
  simp only [Bool.not_true, cond_false]
theorem free_le (e : Nat) : free e ≤ 7 ∧ e + 16 + free e = 8 * ((e + 23) / 8) := by unfold free; omega
theorem gvN (l : List Int) (p w : Nat) : gv l p w = ((gv l p w).toNat : Nat) := (Int.toNat_of_nonneg (gv_range l p w).1).symm
theorem front (l : List Int) : List.drop 0 (List.take (Int.toNat (bif decide ((1024 : Int) < Int.ofNat l.length) then (1024 : Int) else Int.ofNat l.length)) l) = l.take 1024 := by
  rw [List.drop_zero]
  by_cases h : (1024 : Int) < Int.ofNat l.length
  · simp only [h, decide_true, cond_true]; rfl
  · have h' : l.length ≤ 1024 := by simp only [Int.ofNat_eq_natCast] at h; omega
    rw [decide_eq_false h]
    simp only [cond_false, Int.ofNat_eq_natCast, Int.toNat_natCast]
    rw [List.take_of_length_le (Nat.le_refl _), List.take_of_length_le h']

theorem code_lt {n : Int} : 0 ≤ code n ∧ code n < 4 := by
  unfold code
  by_cases h1 : n = 64 <;> by_cases h2 : n = 32 <;> by_cases h3 : n = 16 <;> simp [h1, h2, h3]
theorem headB_length (p : Pk) : (headB p).length = 49 := by simp [headB, vbits_length]
theorem head_good {p : Pk} (h : Fit p) : put1 (put1 (put1 (put1 (put1 (put1 (put1 (put1 (put1 (put1 ([], (0 : Int), ()) 2 2) (md p) 2) (sd p) 3) (Sp04.st p) 5) (code (ln p)) 2) (tl p) 6) (en p) 10) (ig p) 9) (pr p) 3) ((py p).length : Int) 7 = Sp04.enc (headB p) := by
  have g1 := h.hm; have g2 := h.hd; have gX3 := h.hs; have gX4 := code_lt (n := ln p); have gX5 := h.ht; have gX6 := h.he; have gX7 := h.hg; have gX8 := h.hr; have g9 := h.hp
  have q2 : (2 : Int) ^ 2 = 4 := by decide
  have q3 : (2 : Int) ^ 3 = 8 := by decide
  have q5 : (2 : Int) ^ 5 = 32 := by decide
  have q6 : (2 : Int) ^ 6 = 64 := by decide
  have q7 : (2 : Int) ^ 7 = 128 := by decide
  have q9 : (2 : Int) ^ 9 = 512 := by decide
  have q10 : (2 : Int) ^ 10 = 1024 := by decide
  have key : ∀ (bs : List Bool) (v : Int) (n : Nat), n ≤ 20 → bs.length ≤ 8000 → 0 ≤ v → v < 2 ^ n → put1 (Sp04.enc bs) v (n : Int) = Sp04.enc (bs ++ vbits v.toNat n) := fun bs v n a b c d => put_good n a b c d
  have e0 := key [] 2 2 (by omega) (by simp) (by omega) (by omega)
  have e1 := key ([] ++ vbits (2 : Int).toNat 2) (md p) 2 (by omega) (by simp [vbits_length]) (by omega) (by omega)
  have e2 := key ([] ++ vbits (2 : Int).toNat 2 ++ vbits (md p).toNat 2) (sd p) 3 (by omega) (by simp [vbits_length]) (by omega) (by omega)
  have e3 := key ([] ++ vbits (2 : Int).toNat 2 ++ vbits (md p).toNat 2 ++ vbits (sd p).toNat 3) (Sp04.st p) 5 (by omega) (by simp [vbits_length]) (by omega) (by omega)
  have e4 := key ([] ++ vbits (2 : Int).toNat 2 ++ vbits (md p).toNat 2 ++ vbits (sd p).toNat 3 ++ vbits (Sp04.st p).toNat 5) (code (ln p)) 2 (by omega) (by simp [vbits_length]) (by omega) (by omega)
  have e5 := key ([] ++ vbits (2 : Int).toNat 2 ++ vbits (md p).toNat 2 ++ vbits (sd p).toNat 3 ++ vbits (Sp04.st p).toNat 5 ++ vbits (code (ln p)).toNat 2) (tl p) 6 (by omega) (by simp [vbits_length]) (by omega) (by omega)
  have e6 := key ([] ++ vbits (2 : Int).toNat 2 ++ vbits (md p).toNat 2 ++ vbits (sd p).toNat 3 ++ vbits (Sp04.st p).toNat 5 ++ vbits (code (ln p)).toNat 2 ++ vbits (tl p).toNat 6) (en p) 10 (by omega) (by simp [vbits_length]) (by omega) (by omega)
  have e7 := key ([] ++ vbits (2 : Int).toNat 2 ++ vbits (md p).toNat 2 ++ vbits (sd p).toNat 3 ++ vbits (Sp04.st p).toNat 5 ++ vbits (code (ln p)).toNat 2 ++ vbits (tl p).toNat 6 ++ vbits (en p).toNat 10) (ig p) 9 (by omega) (by simp [vbits_length]) (by omega) (by omega)
  have e8 := key ([] ++ vbits (2 : Int).toNat 2 ++ vbits (md p).toNat 2 ++ vbits (sd p).toNat 3 ++ vbits (Sp04.st p).toNat 5 ++ vbits (code (ln p)).toNat 2 ++ vbits (tl p).toNat 6 ++ vbits (en p).toNat 10 ++ vbits (ig p).toNat 9) (pr p) 3 (by omega) (by simp [vbits_length]) (by omega) (by omega)
  have e9 := key ([] ++ vbits (2 : Int).toNat 2 ++ vbits (md p).toNat 2 ++ vbits (sd p).toNat 3 ++ vbits (Sp04.st p).toNat 5 ++ vbits (code (ln p)).toNat 2 ++ vbits (tl p).toNat 6 ++ vbits (en p).toNat 10 ++ vbits (ig p).toNat 9 ++ vbits (pr p).toNat 3) ((py p).length : Int) 7 (by omega) (by simp [vbits_length]) (by omega) (by omega)
  simp only [Int.cast_ofNat_Int] at e0 e1 e2 e3 e4 e5 e6 e7 e8 e9
  rw [← enc_nil, e0, e1, e2, e3, e4, e5, e6, e7, e8, e9]
  simp only [headB, List.nil_append, List.append_assoc, Int.toNat_natCast]
  rfl

def payB (l : List Int) : List Bool := l.flatMap fun x => vbits x.toNat 8
theorem payB_length (l : List Int) : (payB l).length = 8 * l.length := by
  induction l with
  | nil => rfl
  | cons x r ih =>
    have : payB (x :: r) = vbits x.toNat 8 ++ payB r := by simp [payB]
    rw [this, List.length_append, vbits_length, ih, List.length_cons]
    omega
theorem payB_take (l : List Int) (i : Nat) (h : i < l.length) : payB (l.take (i + 1)) = payB (l.take i) ++ vbits (l.getD i 0).toNat 8 := by
  rw [take_succ_getD l i 0 h]
  simp [payB]
theorem getD_byte {l : List Int} (h : bytesOk l) (i : Nat) : 0 ≤ l.getD i 0 ∧ l.getD i 0 < 256 := by
  by_cases hi : i < l.length
  · exact h _ (getD_mem hi)
  · rw [getD_ge (by omega)]; omega
theorem bits_good {p : Pk} (h : Fit p) (hb : 0 ≤ bt p) : (Sp04.append (Sp04.enc (headB p)) (bt p) (ln p)).1 = Sp04.enc (headB p ++ vbits (bt p).toNat (ln p).toNat) := by
  have hl := fit_len h
  rw [append_good (by rw [headB_length]; omega) ⟨by omega, by omega, hb, h.hb⟩]
theorem front_length {p : Pk} (h : Fit p) : (headB p ++ vbits (bt p).toNat (ln p).toNat).length ≤ 113 := by
  have hl := fit_len h
  rw [List.length_append, headB_length, vbits_length]
  omega
theorem bodyB_length (p : Pk) : (bodyB p).length = 49 + (ln p).toNat + 8 * (py p).length := by
  unfold bodyB
  have : (py p).flatMap (fun x => vbits x.toNat 8) = payB (py p) := rfl
  rw [this, List.length_append, List.length_append, headB_length, vbits_length, payB_length]
  omega
theorem pay_good (bs : List Bool) (x : Int) (hx : 0 ≤ x ∧ x < 256) (hb : bs.length ≤ 2000) : (Sp04.append (Sp04.enc bs) (IntKind.wrap .u64 x) 8).1 = Sp04.enc (bs ++ vbits x.toNat 8) := by
  have q : (2 : Int) ^ 8 = 256 := by decide
  exact put_good (bs := bs) (v := x) 8 (by omega) (by omega) hx.1 (by omega)
theorem seal_good {bs : List Bool} (h : bs.length ≤ 1000) : (Sp04.append (Sp04.enc bs) (Sp04.check (Sp04.enc bs)).1 16).1 = Sp04.enc (sealed bs) := by
  have h1 := crc_small bs
  have hc : (Sp04.check (Sp04.enc bs)).1 = (crc bs : Nat) := by
    unfold Sp04.check
    rw [valid_enc (by omega), bits_enc]
    rfl
  have p1 : (2 : Int) ^ (16 : Int).toNat = 65536 := by decide
  rw [hc, append_good (by omega) ⟨by omega, by omega, by omega, by omega⟩]
  rw [Int.toNat_natCast]
  rfl
theorem free_and : ∀ e : Fin 2000, IntKind.wrap .i64 (Int.ofNat (BitVec.and (BitVec.ofInt 64 (IntKind.wrap .i64 (0 - ((e.val + 16 : Nat) : Int)))) (BitVec.ofInt 64 7)).toNat) = ((free e.val : Nat) : Int) := by decide +kernel
end Go.Abs.C04

namespace Go.Abs.C04
open Go Go.Proofs Sp04
set_option maxRecDepth 100000

theorem put_def (s : S) (v w : Int) : (Sp04.append s (IntKind.wrap .u64 v) w).1 = put1 s v w := rfl
theorem put_two (s : S) (w : Int) : (Sp04.append s 2 w).1 = put1 s 2 w := by
  unfold put1
  rw [show IntKind.wrap .u64 2 = 2 from rfl]
theorem pay_step (bs : List Bool) (l : List Int) (hb : bytesOk l) (hl : l.length ≤ 64) (h1 : bs.length ≤ 113) (k : Nat) (hk : k < l.length) :
    (Sp04.append (Sp04.enc (bs ++ payB (l.take k))) (IntKind.wrap .u64 (l.getD k 0)) 8).1 = Sp04.enc (bs ++ payB (l.take (k + 1))) := by
  rw [pay_good _ _ (getD_byte hb k) (by rw [List.length_append, payB_length, List.length_take]; omega), payB_take l k hk, List.append_assoc]
theorem pay_loop1 (bs : List Bool) (l : List Int) (hb : bytesOk l) (hl : l.length ≤ 64) (h1 : bs.length ≤ 113) :
    Loop (g52_s0 l) ((0 : Int), Sp04.enc bs, l, ()) = some (Sp04.enc (bs ++ payB l), ()) := by
  have key : ∀ k, k ≤ l.length → Loop (g52_s0 l) (((l.length - k : Nat) : Int), Sp04.enc (bs ++ payB (l.take (l.length - k))), l, ()) = some (Sp04.enc (bs ++ payB l), ()) := by
    intro k
    induction k with
    | zero =>
      intro _
      rw [Loop_step]
      unfold g52_s0
      simp only [Nat.sub_zero, Int.ofNat_eq_natCast]
      rw [decide_eq_false (by omega), List.take_of_length_le (Nat.le_refl _)]
      rfl
    | succ k ih =>
      intro hk
      have hs := pay_step bs l hb hl h1 (l.length - (k + 1)) (by omega)
      have e1 : l.length - (k + 1) + 1 = l.length - k := by omega
      rw [e1] at hs
      rw [Loop_step]
      unfold g52_s0
      simp only [Int.ofNat_eq_natCast, Int.toNat_natCast]
      rw [decide_eq_true (show ((l.length - (k + 1) : Nat) : Int) < l.length by omega), decide_eq_true (show (0 : Int) ≤ ((l.length - (k + 1) : Nat) : Int) by omega), show Nat.blt (l.length - (k + 1)) l.length = true from Nat.ble_eq_true_of_le (by omega), hs, wi64 (n := ((l.length - (k + 1) : Nat) : Int) + 1) (by omega) (by omega),
        show ((l.length - (k + 1) : Nat) : Int) + 1 = ((l.length - k : Nat) : Int) by omega]
      exact ih (by omega)
  have := key l.length (Nat.le_refl _)
  rw [Nat.sub_self, List.take_zero] at this
  simpa [payB] using this
theorem pay_loop2 (bs : List Bool) (l : List Int) (hb : bytesOk l) (hl : l.length ≤ 64) (h1 : bs.length ≤ 113) :
    Loop (g54_s1 l) (Sp04.enc bs, (0 : Int), ()) = some (Sp04.enc (bs ++ payB l), ()) := by
  have key : ∀ k, k ≤ l.length → Loop (g54_s1 l) (Sp04.enc (bs ++ payB (l.take (l.length - k))), ((l.length - k : Nat) : Int), ()) = some (Sp04.enc (bs ++ payB l), ()) := by
    intro k
    induction k with
    | zero =>
      intro _
      rw [Loop_step]
      unfold g54_s1
      simp only [Nat.sub_zero, Int.ofNat_eq_natCast]
      rw [decide_eq_false (by omega), List.take_of_length_le (Nat.le_refl _)]
      rfl
    | succ k ih =>
      intro hk
      have hs := pay_step bs l hb hl h1 (l.length - (k + 1)) (by omega)
      have e1 : l.length - (k + 1) + 1 = l.length - k := by omega
      rw [e1] at hs
      rw [Loop_step]
      unfold g54_s1
      simp only [Int.ofNat_eq_natCast, Int.toNat_natCast]
      rw [decide_eq_true (show ((l.length - (k + 1) : Nat) : Int) < l.length by omega), decide_eq_true (show (0 : Int) ≤ ((l.length - (k + 1) : Nat) : Int) by omega), hs, wi64 (n := ((l.length - (k + 1) : Nat) : Int) + 1) (by omega) (by omega),
        show ((l.length - (k + 1) : Nat) : Int) + 1 = ((l.length - k : Nat) : Int) by omega]
      exact ih (by omega)
  have := key l.length (Nat.le_refl _)
  rw [Nat.sub_self, List.take_zero] at this
  simpa [payB] using this
theorem head_step (i : Nat) (s : S) (v : List Int) (hv : v.length = 10) (h : i < 10) : g54_s0 ((i : Int), s, v, ()) = some (.inl ((i : Int) + 1, put1 s (v.getD i 0) (widths.getD i 0), v, ())) := by
  unfold g54_s0
  have e : widths.length = 10 := rfl
  simp only [hv, e, Int.ofNat_eq_natCast, Int.toNat_natCast]
  rw [decide_eq_true (show (i : Int) < ((10 : Nat) : Int) by omega), decide_eq_true (show (0 : Int) ≤ (i : Int) by omega), wi64 (n := (i : Int) + 1) (by omega) (by omega)]
  rfl
theorem head_loop (s : S) (v0 v1 v2 v3 v4 v5 v6 v7 v8 v9 : Int) :
    Loop g54_s0 ((0 : Int), s, [v0, v1, v2, v3, v4, v5, v6, v7, v8, v9], ()) = some (put1 (put1 (put1 (put1 (put1 (put1 (put1 (put1 (put1 (put1 s v0 2) v1 2) v2 3) v3 5) v4 2) v5 6) v6 10) v7 9) v8 3) v9 7, ()) := by
  have k := fun (i : Nat) (s : S) (h : i < 10) => head_step i s [v0, v1, v2, v3, v4, v5, v6, v7, v8, v9] rfl h
  have k0 := fun s => k 0 s (by decide)
  have k1 := fun s => k 1 s (by decide)
  have k2 := fun s => k 2 s (by decide)
  have k3 := fun s => k 3 s (by decide)
  have k4 := fun s => k 4 s (by decide)
  have k5 := fun s => k 5 s (by decide)
  have k6 := fun s => k 6 s (by decide)
  have k7 := fun s => k 7 s (by decide)
  have k8 := fun s => k 8 s (by decide)
  have k9 := fun s => k 9 s (by decide)
  have kz : ∀ s, g54_s0 ((10 : Int), s, [v0, v1, v2, v3, v4, v5, v6, v7, v8, v9], ()) = some (.inr (s, ())) := fun s => rfl
  rw [Loop_step, show g54_s0 ((0 : Int), s, [v0, v1, v2, v3, v4, v5, v6, v7, v8, v9], ()) = _ from k0 s]
  show Loop g54_s0 ((1 : Int), _, _, ()) = _
  rw [Loop_step, show ∀ s, g54_s0 ((1 : Int), s, [v0, v1, v2, v3, v4, v5, v6, v7, v8, v9], ()) = _ from k1]
  show Loop g54_s0 ((2 : Int), _, _, ()) = _
  rw [Loop_step, show ∀ s, g54_s0 ((2 : Int), s, [v0, v1, v2, v3, v4, v5, v6, v7, v8, v9], ()) = _ from k2]
  show Loop g54_s0 ((3 : Int), _, _, ()) = _
  rw [Loop_step, show ∀ s, g54_s0 ((3 : Int), s, [v0, v1, v2, v3, v4, v5, v6, v7, v8, v9], ()) = _ from k3]
  show Loop g54_s0 ((4 : Int), _, _, ()) = _
  rw [Loop_step, show ∀ s, g54_s0 ((4 : Int), s, [v0, v1, v2, v3, v4, v5, v6, v7, v8, v9], ()) = _ from k4]
  show Loop g54_s0 ((5 : Int), _, _, ()) = _
  rw [Loop_step, show ∀ s, g54_s0 ((5 : Int), s, [v0, v1, v2, v3, v4, v5, v6, v7, v8, v9], ()) = _ from k5]
  show Loop g54_s0 ((6 : Int), _, _, ()) = _
  rw [Loop_step, show ∀ s, g54_s0 ((6 : Int), s, [v0, v1, v2, v3, v4, v5, v6, v7, v8, v9], ()) = _ from k6]
  show Loop g54_s0 ((7 : Int), _, _, ()) = _
  rw [Loop_step, show ∀ s, g54_s0 ((7 : Int), s, [v0, v1, v2, v3, v4, v5, v6, v7, v8, v9], ()) = _ from k7]
  show Loop g54_s0 ((8 : Int), _, _, ()) = _
  rw [Loop_step, show ∀ s, g54_s0 ((8 : Int), s, [v0, v1, v2, v3, v4, v5, v6, v7, v8, v9], ()) = _ from k8]
  show Loop g54_s0 ((9 : Int), _, _, ()) = _
  rw [Loop_step, show ∀ s, g54_s0 ((9 : Int), s, [v0, v1, v2, v3, v4, v5, v6, v7, v8, v9], ()) = _ from k9]
  show Loop g54_s0 ((10 : Int), _, _, ()) = _
  rw [Loop_step, kz]
  rfl
theorem str_bytes {l : List Int} (h : Ty.str.ok l) : bytesOk l := fun x hx => h.2 x hx

theorem g52_ok (a0 : Int) (a1 : Int) (a2 : Int) (a3 : Int) (a4 : Int) (a5 : Int) (a6 : Int) (a7 : Int) (a8 : Int) (a9 : (List Int)) (r0 : IntKind.i64.has a0) (r1 : IntKind.i64.has a1) (r2 : IntKind.i64.has a2) (r3 : IntKind.i64.has a3) (r4 : IntKind.i64.has a4) (r5 : IntKind.i64.has a5) (r6 : IntKind.i64.has a6) (r7 : IntKind.i64.has a7) (r8 : IntKind.u64.has a8) (r9 : Ty.str.ok a9) : g52 a0 a1 a2 a3 a4 a5 a6 a7 a8 a9 = some (Sp04.encode (a0, a1, a2, a3, a4, a5, a6, a7, a8, a9, ()), ()) := by
  unfold g52 encode
  cases hv : validP (a0, a1, a2, a3, a4, a5, a6, a7, a8, a9, ()) with
  | false => rfl
  | true =>
    have h := valid_fit.1 hv
    have hl : vlen a3 = true := h.hl
    have hp : a9.length ≤ 64 := h.hp
    have hb : 0 ≤ a8 := r8.1
    have hy := str_bytes r9
    have hg := head_good h
    have hbit := bits_good h hb
    have hf := front_length h
    simp only [md, sd, Sp04.st, ln, tl, en, ig, pr, bt, py] at hg hbit hf
    simp only [Bool.not_true, cond_false]
    rw [on_true hl]
    simp only [Option.bind_some, put_def, put_two]
    rw [show Nat.ble a9.length 140737488355328 = true from Nat.ble_eq_true_of_le (by omega)]
    simp only [cond_true, Int.ofNat_eq_natCast]
    rw [hg, hbit, pay_loop1 _ _ hy hp hf]
    simp only [Option.bind_some]
    rw [seal_good (by rw [List.length_append, payB_length]; omega)]
    unfold bodyB
    simp only [bt, ln, py, List.append_assoc]
    rfl

theorem align_enc {bs : List Bool} (h : bs.length ≤ 8192) : (Sp04.align (Sp04.enc bs)).1.1 = (Sp04.enc bs).1 := by
  unfold Sp04.align
  rw [valid_enc h]
  rfl

theorem g54_ok (a0 : Int) (a1 : Int) (a2 : Int) (a3 : Int) (a4 : Int) (a5 : Int) (a6 : Int) (a7 : Int) (a8 : Int) (a9 : (List Int)) (r0 : IntKind.i64.has a0) (r1 : IntKind.i64.has a1) (r2 : IntKind.i64.has a2) (r3 : IntKind.i64.has a3) (r4 : IntKind.i64.has a4) (r5 : IntKind.i64.has a5) (r6 : IntKind.i64.has a6) (r7 : IntKind.i64.has a7) (r8 : IntKind.u64.has a8) (r9 : Ty.str.ok a9) : g54 a0 a1 a2 a3 a4 a5 a6 a7 a8 a9 = some (Sp04.encode (a0, a1, a2, a3, a4, a5, a6, a7, a8, a9, ()), ()) := by
  unfold g54 encode
  cases hv : validP (a0, a1, a2, a3, a4, a5, a6, a7, a8, a9, ()) with
  | false => rfl
  | true =>
    have h := valid_fit.1 hv
    have hl : vlen a3 = true := h.hl
    have hp : a9.length ≤ 64 := h.hp
    have hb : 0 ≤ a8 := r8.1
    have hy := str_bytes r9
    have hg := head_good h
    have hbit := bits_good h hb
    have hf := front_length h
    simp only [md, sd, Sp04.st, ln, tl, en, ig, pr, bt, py] at hg hbit hf
    simp only [Bool.not_true, cond_false]
    rw [on_true hl]
    simp only [Option.bind_some, Int.ofNat_eq_natCast]
    rw [head_loop]
    simp only [Option.bind_some]
    rw [hg, hbit, pay_loop2 _ _ hy hp hf]
    simp only [Option.bind_some]
    have hL : (headB (a0, a1, a2, a3, a4, a5, a6, a7, a8, a9, ()) ++ vbits a8.toNat a3.toNat ++ payB a9).length ≤ 625 := by
      rw [List.length_append, payB_length]; omega
    rw [seal_good (by omega), align_enc (by unfold sealed; rw [List.length_append, vbits_length]; omega)]
    unfold bodyB
    simp only [bt, ln, py, List.append_assoc]
    rfl

theorem g75w1_ok (a0 : (List Int)) (a1 : Int) (a2 : Int) (a3 : Int) (r0 : (Ty.sl (.int .u8)).ok a0) (r1 : IntKind.i64.has a1) (r2 : IntKind.u64.has a2) (r3 : IntKind.i64.has a3) : g75w1 a0 a1 a2 a3 = some (Sp04.append (a0, a1, ()) a2 a3, ()) := by
  exact (show g75w1 a0 a1 a2 a3 = g75 a0 a1 a2 a3 from rfl).trans (g75_ok a0 a1 a2 a3 r0 r1 r2 r3)

end Go.Abs.C04

namespace Go.Abs.C04
open Go Go.Proofs Sp04
set_option maxRecDepth 100000

theorem bitsR_pack (bs : List Bool) (p w : Nat) : bitsR (pack bs) p w = (List.range w).map fun j => bs.getD (p + j) false := by
  unfold bitsR
  refine List.map_congr_left fun j _ => ?_
  rw [bitAt_pack]
theorem bitsR_at (pre mid post : List Bool) : bitsR (pack (pre ++ (mid ++ post))) pre.length mid.length = mid := by
  rw [bitsR_pack]
  refine bools_ext (by simp) fun i hi => ?_
  simp only [List.length_map, List.length_range] at hi
  have e : ((List.range mid.length).map fun j => (pre ++ (mid ++ post)).getD (pre.length + j) false).getD i false = (pre ++ (mid ++ post)).getD (pre.length + i) false := by
    simp [List.getD_eq_getElem?_getD, List.getElem?_map, List.getElem?_range hi]
  rw [e, getD_append, if_neg (by omega), getD_append, if_pos (by omega)]
  congr 1
  omega
theorem gv_at {bs : List Bool} (pre post : List Bool) {v w p : Nat} (h : bs = pre ++ (vbits v w ++ post)) (hp : p = pre.length) (hv : v < 2 ^ w) : gv (pack bs) p w = v := by
  subst h; subst hp
  have hlen : (pack (pre ++ (vbits v w ++ post))).length = (pre.length + (w + post.length) + 7) / 8 := by
    rw [pack_length]
    simp only [List.length_append, vbits_length]
  have hr := bitsR_at pre (vbits v w) post
  rw [vbits_length] at hr
  unfold gv
  rw [decide_eq_true (by omega), hr, valOf_vbits v w hv]
  rfl
theorem pow_lt (v n : Int) (w : Nat) (h0 : 0 ≤ v) (h : v < n) (hn : n = ((2 ^ w : Nat) : Int)) : v.toNat < 2 ^ w := by omega
theorem falses (bs : List Bool) (n p w : Nat) (h : bs.length ≤ p) : bitsR (pack bs) p w = vbits 0 w := by
  rw [bitsR_pack]
  unfold vbits
  refine List.map_congr_left fun j _ => ?_
  rw [getD_ge (by omega)]
  simp
theorem gv_end (bs : List Bool) (p w : Nat) (h : bs.length ≤ p) : gv (pack bs) p w = 0 := by
  unfold gv
  rw [falses bs 0 p w h, valOf_vbits 0 w (Nat.two_pow_pos w)]
  cases decide (p + w ≤ 8 * (pack bs).length) <;> rfl
theorem code_back {n : Int} (h : vlen n = true) : decoded (code n) = n := by
  rcases vlen_iff h with rfl | rfl | rfl | rfl <;> rfl
theorem sealed_eq (p : Pk) : ∃ cc : List Bool, cc = vbits (crc (bodyB p)) 16 ∧ sealed (bodyB p) = vbits ((2 : Int)).toNat 2 ++ (vbits (md p).toNat 2 ++ (vbits (sd p).toNat 3 ++ (vbits (Sp04.st p).toNat 5 ++ (vbits (code (ln p)).toNat 2 ++ (vbits (tl p).toNat 6 ++ (vbits (en p).toNat 10 ++ (vbits (ig p).toNat 9 ++ (vbits (pr p).toNat 3 ++ (vbits (py p).length 7 ++ (vbits (bt p).toNat (ln p).toNat ++ (payB (py p) ++ (cc)))))))))))) := by
  refine ⟨_, rfl, ?_⟩
  simp only [sealed, bodyB, headB, payB, List.append_assoc]
  rfl
theorem byte_lt {l : List Int} (h : bytesOk l) {i : Nat} (hi : i < l.length) : (l.getD i 0).toNat < 2 ^ 8 := by
  have := getD_byte h i
  have e : (2 : Nat) ^ 8 = 256 := by decide
  omega
theorem pay_at : ∀ {l : List Int} {i : Nat}, i < l.length → payB l = payB (l.take i) ++ (vbits (l.getD i 0).toNat 8 ++ payB (l.drop (i + 1)))
  | [], i, h => by simp at h
  | x :: l, 0, _ => by simp [payB]
  | x :: l, i + 1, h => by
    have ih := pay_at (l := l) (i := i) (by simpa using h)
    have e : payB (x :: l) = vbits x.toNat 8 ++ payB l := by simp [payB]
    have e2 : payB (x :: l.take i) = vbits x.toNat 8 ++ payB (l.take i) := by simp [payB]
    rw [e, List.take_succ_cons, e2, List.drop_succ_cons, List.getD_cons_succ, List.append_assoc, ← ih]
theorem map_range_getD (l : List Int) : (List.range l.length).map (fun i => l.getD i 0) = l := by
  refine List.ext_getElem (by simp) fun i hi hi' => ?_
  simp [List.getD_eq_getElem?_getD, hi']
theorem written {p : Pk} (h : Fit p) (hb : 0 ≤ bt p) (hy : bytesOk (py p)) :
    gv (pack (sealed (bodyB p))) 0 2 = 2 ∧ gv (pack (sealed (bodyB p))) 2 2 = md p ∧ gv (pack (sealed (bodyB p))) 30 9 = ig p ∧ gv (pack (sealed (bodyB p))) 42 7 = ((py p).length : Int) ∧
    endB (pack (sealed (bodyB p))) = (bodyB p).length ∧ fieldsP (pack (sealed (bodyB p))) = p := by
  obtain ⟨cc, ht, hs⟩ := sealed_eq p
  have c4 := code_lt (n := ln p)
  have hl := fit_len h
  have f0 := gv_at (bs := sealed (bodyB p)) (([] : List Bool)) (vbits (md p).toNat 2 ++ (vbits (sd p).toNat 3 ++ (vbits (Sp04.st p).toNat 5 ++ (vbits (code (ln p)).toNat 2 ++ (vbits (tl p).toNat 6 ++ (vbits (en p).toNat 10 ++ (vbits (ig p).toNat 9 ++ (vbits (pr p).toNat 3 ++ (vbits (py p).length 7 ++ (vbits (bt p).toNat (ln p).toNat ++ (payB (py p) ++ (cc)))))))))))) (v := ((2 : Int)).toNat) (w := 2) (p := 0) hs (by simp only [List.length_append, vbits_length, List.length_nil]) (by decide)
  have f1 := gv_at (bs := sealed (bodyB p)) (vbits ((2 : Int)).toNat 2) (vbits (sd p).toNat 3 ++ (vbits (Sp04.st p).toNat 5 ++ (vbits (code (ln p)).toNat 2 ++ (vbits (tl p).toNat 6 ++ (vbits (en p).toNat 10 ++ (vbits (ig p).toNat 9 ++ (vbits (pr p).toNat 3 ++ (vbits (py p).length 7 ++ (vbits (bt p).toNat (ln p).toNat ++ (payB (py p) ++ (cc))))))))))) (v := (md p).toNat) (w := 2) (p := 2) hs (by simp only [List.length_append, vbits_length, List.length_nil]) (pow_lt (md p) 4 2 (by have := h.hm; omega) (by have := h.hm; omega) rfl)
  have f2 := gv_at (bs := sealed (bodyB p)) (vbits ((2 : Int)).toNat 2 ++ (vbits (md p).toNat 2)) (vbits (Sp04.st p).toNat 5 ++ (vbits (code (ln p)).toNat 2 ++ (vbits (tl p).toNat 6 ++ (vbits (en p).toNat 10 ++ (vbits (ig p).toNat 9 ++ (vbits (pr p).toNat 3 ++ (vbits (py p).length 7 ++ (vbits (bt p).toNat (ln p).toNat ++ (payB (py p) ++ (cc)))))))))) (v := (sd p).toNat) (w := 3) (p := 4) (by rw [hs]; simp only [List.append_assoc, List.nil_append]) (by simp only [List.length_append, vbits_length, List.length_nil]) (pow_lt (sd p) 8 3 (by have := h.hd; omega) (by have := h.hd; omega) rfl)
  have f3 := gv_at (bs := sealed (bodyB p)) (vbits ((2 : Int)).toNat 2 ++ (vbits (md p).toNat 2 ++ (vbits (sd p).toNat 3))) (vbits (code (ln p)).toNat 2 ++ (vbits (tl p).toNat 6 ++ (vbits (en p).toNat 10 ++ (vbits (ig p).toNat 9 ++ (vbits (pr p).toNat 3 ++ (vbits (py p).length 7 ++ (vbits (bt p).toNat (ln p).toNat ++ (payB (py p) ++ (cc))))))))) (v := (Sp04.st p).toNat) (w := 5) (p := 7) (by rw [hs]; simp only [List.append_assoc, List.nil_append]) (by simp only [List.length_append, vbits_length, List.length_nil]) (pow_lt (Sp04.st p) 32 5 (by have := h.hs; omega) (by have := h.hs; omega) rfl)
  have f4 := gv_at (bs := sealed (bodyB p)) (vbits ((2 : Int)).toNat 2 ++ (vbits (md p).toNat 2 ++ (vbits (sd p).toNat 3 ++ (vbits (Sp04.st p).toNat 5)))) (vbits (tl p).toNat 6 ++ (vbits (en p).toNat 10 ++ (vbits (ig p).toNat 9 ++ (vbits (pr p).toNat 3 ++ (vbits (py p).length 7 ++ (vbits (bt p).toNat (ln p).toNat ++ (payB (py p) ++ (cc)))))))) (v := (code (ln p)).toNat) (w := 2) (p := 12) (by rw [hs]; simp only [List.append_assoc, List.nil_append]) (by simp only [List.length_append, vbits_length, List.length_nil]) (pow_lt (code (ln p)) 4 2 c4.1 c4.2 rfl)
  have f5 := gv_at (bs := sealed (bodyB p)) (vbits ((2 : Int)).toNat 2 ++ (vbits (md p).toNat 2 ++ (vbits (sd p).toNat 3 ++ (vbits (Sp04.st p).toNat 5 ++ (vbits (code (ln p)).toNat 2))))) (vbits (en p).toNat 10 ++ (vbits (ig p).toNat 9 ++ (vbits (pr p).toNat 3 ++ (vbits (py p).length 7 ++ (vbits (bt p).toNat (ln p).toNat ++ (payB (py p) ++ (cc))))))) (v := (tl p).toNat) (w := 6) (p := 14) (by rw [hs]; simp only [List.append_assoc, List.nil_append]) (by simp only [List.length_append, vbits_length, List.length_nil]) (pow_lt (tl p) 64 6 (by have := h.ht; omega) (by have := h.ht; omega) rfl)
  have f6 := gv_at (bs := sealed (bodyB p)) (vbits ((2 : Int)).toNat 2 ++ (vbits (md p).toNat 2 ++ (vbits (sd p).toNat 3 ++ (vbits (Sp04.st p).toNat 5 ++ (vbits (code (ln p)).toNat 2 ++ (vbits (tl p).toNat 6)))))) (vbits (ig p).toNat 9 ++ (vbits (pr p).toNat 3 ++ (vbits (py p).length 7 ++ (vbits (bt p).toNat (ln p).toNat ++ (payB (py p) ++ (cc)))))) (v := (en p).toNat) (w := 10) (p := 20) (by rw [hs]; simp only [List.append_assoc, List.nil_append]) (by simp only [List.length_append, vbits_length, List.length_nil]) (pow_lt (en p) 1024 10 (by have := h.he; omega) (by have := h.he; omega) rfl)
  have f7 := gv_at (bs := sealed (bodyB p)) (vbits ((2 : Int)).toNat 2 ++ (vbits (md p).toNat 2 ++ (vbits (sd p).toNat 3 ++ (vbits (Sp04.st p).toNat 5 ++ (vbits (code (ln p)).toNat 2 ++ (vbits (tl p).toNat 6 ++ (vbits (en p).toNat 10))))))) (vbits (pr p).toNat 3 ++ (vbits (py p).length 7 ++ (vbits (bt p).toNat (ln p).toNat ++ (payB (py p) ++ (cc))))) (v := (ig p).toNat) (w := 9) (p := 30) (by rw [hs]; simp only [List.append_assoc, List.nil_append]) (by simp only [List.length_append, vbits_length, List.length_nil]) (pow_lt (ig p) 512 9 (by have := h.hg; omega) (by have := h.hg; omega) rfl)
  have f8 := gv_at (bs := sealed (bodyB p)) (vbits ((2 : Int)).toNat 2 ++ (vbits (md p).toNat 2 ++ (vbits (sd p).toNat 3 ++ (vbits (Sp04.st p).toNat 5 ++ (vbits (code (ln p)).toNat 2 ++ (vbits (tl p).toNat 6 ++ (vbits (en p).toNat 10 ++ (vbits (ig p).toNat 9)))))))) (vbits (py p).length 7 ++ (vbits (bt p).toNat (ln p).toNat ++ (payB (py p) ++ (cc)))) (v := (pr p).toNat) (w := 3) (p := 39) (by rw [hs]; simp only [List.append_assoc, List.nil_append]) (by simp only [List.length_append, vbits_length, List.length_nil]) (pow_lt (pr p) 8 3 (by have := h.hr; omega) (by have := h.hr; omega) rfl)
  have f9 := gv_at (bs := sealed (bodyB p)) (vbits ((2 : Int)).toNat 2 ++ (vbits (md p).toNat 2 ++ (vbits (sd p).toNat 3 ++ (vbits (Sp04.st p).toNat 5 ++ (vbits (code (ln p)).toNat 2 ++ (vbits (tl p).toNat 6 ++ (vbits (en p).toNat 10 ++ (vbits (ig p).toNat 9 ++ (vbits (pr p).toNat 3))))))))) (vbits (bt p).toNat (ln p).toNat ++ (payB (py p) ++ (cc))) (v := (py p).length) (w := 7) (p := 42) (by rw [hs]; simp only [List.append_assoc, List.nil_append]) (by simp only [List.length_append, vbits_length]) (by have := h.hp; have e : (2 : Nat) ^ 7 = 128 := (by decide); omega)
  have hbt : (bt p).toNat < 2 ^ (ln p).toNat := by
    have := h.hb
    rw [pow_cast] at this
    omega
  have f10 := gv_at (bs := sealed (bodyB p)) (vbits ((2 : Int)).toNat 2 ++ (vbits (md p).toNat 2 ++ (vbits (sd p).toNat 3 ++ (vbits (Sp04.st p).toNat 5 ++ (vbits (code (ln p)).toNat 2 ++ (vbits (tl p).toNat 6 ++ (vbits (en p).toNat 10 ++ (vbits (ig p).toNat 9 ++ (vbits (pr p).toNat 3 ++ (vbits (py p).length 7)))))))))) (payB (py p) ++ (cc)) (v := (bt p).toNat) (w := (ln p).toNat) (p := 49) (by rw [hs]; simp only [List.append_assoc, List.nil_append]) (by simp only [List.length_append, vbits_length]) hbt
  have hS : nS (pack (sealed (bodyB p))) = (py p).length := by unfold nS; rw [f9]; rfl
  have e4 : ((code (ln p)).toNat : Int) = code (ln p) := Int.toNat_of_nonneg c4.1
  have hL : nLn (pack (sealed (bodyB p))) = (ln p).toNat := by unfold nLn; rw [f4, e4, code_back h.hl]
  have f11 : (List.range (py p).length).map (fun i => gv (pack (sealed (bodyB p))) (49 + (ln p).toNat + 8 * i) 8) = py p := by
    rw [← map_range_getD (py p), List.length_map, List.length_range]
    refine List.map_congr_left fun i hi => ?_
    rw [List.mem_range] at hi
    have := gv_at (bs := sealed (bodyB p)) (vbits ((2 : Int)).toNat 2 ++ (vbits (md p).toNat 2 ++ (vbits (sd p).toNat 3 ++ (vbits (Sp04.st p).toNat 5 ++ (vbits (code (ln p)).toNat 2 ++ (vbits (tl p).toNat 6 ++ (vbits (en p).toNat 10 ++ (vbits (ig p).toNat 9 ++ (vbits (pr p).toNat 3 ++ (vbits (py p).length 7 ++ (vbits (bt p).toNat (ln p).toNat ++ (payB ((py p).take i))))))))))))) (payB ((py p).drop (i + 1)) ++ cc) (v := ((py p).getD i 0).toNat) (w := 8) (p := 49 + (ln p).toNat + 8 * i) (by rw [hs, pay_at hi]; simp only [List.append_assoc]) (by simp only [List.length_append, vbits_length, payB_length, List.length_take]; omega) (byte_lt hy hi)
    rw [this, Int.toNat_of_nonneg (getD_byte hy i).1]
  refine ⟨f0, ?_, ?_, f9, ?_, ?_⟩
  · rw [f1, Int.toNat_of_nonneg (by have := h.hm; omega)]
  · rw [f7, Int.toNat_of_nonneg (by have := h.hg; omega)]
  · unfold endB
    rw [hS, hL, bodyB_length]
  · unfold fieldsP
    rw [hS, hL, f1, f2, f3, f4, f5, f6, f7, f8, f10, f11, e4, code_back h.hl, Int.toNat_of_nonneg (by have := h.hm; omega), Int.toNat_of_nonneg (by have := h.hd; omega), Int.toNat_of_nonneg (by have := h.hs; omega), Int.toNat_of_nonneg (by have := h.ht; omega), Int.toNat_of_nonneg (by have := h.he; omega), Int.toNat_of_nonneg (by have := h.hg; omega), Int.toNat_of_nonneg (by have := h.hr; omega), Int.toNat_of_nonneg hb]
    rfl

theorem sealed_length (B : List Bool) : (sealed B).length = B.length + 16 := by simp [sealed, vbits_length]
theorem dec_enc {p : Pk} (hv : validP p = true) (hb : 0 ≤ bt p) (hy : bytesOk (py p)) : Sp04.decode (Sp04.encode p).1 = (p, 0, ()) := by
  have h := valid_fit.1 hv
  obtain ⟨w1, w2, w3, w4, w5, w6⟩ := written h hb hy
  have hB := bodyB_length p
  have hl := fit_len h
  unfold Sp04.encode
  rw [hv]
  simp only [Bool.not_true, cond_false]
  have hl2 : (pack (sealed (bodyB p))).length = ((bodyB p).length + 23) / 8 := by rw [pack_length, sealed_length]
  have hc := crc_small (bodyB p)
  have g1 : gv (pack (sealed (bodyB p))) (bodyB p).length 16 = crc (bodyB p) := gv_at (bodyB p) [] (by simp [sealed]) rfl (by have e : (2 : Nat) ^ 16 = 65536 := (by decide); omega)
  have g2 : gv (pack (sealed (bodyB p))) ((bodyB p).length + 16) (free (bodyB p).length) = 0 := gv_end _ _ _ (by rw [sealed_length]; omega)
  have gX3 : bitsR (pack (sealed (bodyB p))) 0 (bodyB p).length = bodyB p := by
    have := bitsR_at [] (bodyB p) (vbits (crc (bodyB p)) 16)
    simpa [sealed] using this
  have hm := h.hm
  have hg := h.hg
  have hp := h.hp
  unfold Sp04.decode
  rw [w1, w2, w3, w4, w5, w6, g1, g2, gX3, decide_eq_false (p := 8 * (pack (sealed (bodyB p))).length < 49) (by omega), decide_eq_true (p := (2 : Int) = 2) rfl, decide_eq_false (p := md p = 0) (by omega), decide_eq_false (p := 256 < ig p) (by omega),
    decide_eq_false (p := (64 : Int) < ((py p).length : Int)) (by omega), decide_eq_false (p := 8 * (pack (sealed (bodyB p))).length < (bodyB p).length + 16) (by omega), decide_eq_true (p := ((crc (bodyB p) : Nat) : Int) = ((crc (bodyB p) : Nat) : Int)) rfl, decide_eq_false (p := 8 * (((bodyB p).length + 23) / 8) < 8 * (pack (sealed (bodyB p))).length) (by omega)]
  rfl
theorem nLn_vlen (b : List Int) : vlen (decoded (gv b 12 2)) = true ∧ (decoded (gv b 12 2)).toNat = nLn b ∧ decoded (gv b 12 2) = (nLn b : Int) ∧ 8 ≤ nLn b ∧ nLn b ≤ 64 := by
  have g := gv2 b 12
  unfold nLn
  have : gv b 12 2 = 0 ∨ gv b 12 2 = 1 ∨ gv b 12 2 = 2 ∨ gv b 12 2 = 3 := by omega
  rcases this with h | h | h | h <;> rw [h] <;> decide
end Go.Abs.C04

namespace Go.Abs.C04
open Go Go.Proofs Sp04
set_option maxRecDepth 100000

theorem tb_at {a : List Int} {m : Nat} (hm : m ≤ 1024) (p n : Nat) (hn : n ≤ 64) (h1 : p + n ≤ 8 * (a.take m).length) : (Sp04.take (a.take m, 8 * ((a.take m).length : Int), ()) p n).1 = gv a p n := by
  have hl : (a.take m).length ≤ 1024 := by rw [List.length_take]; omega
  rw [take_bytes hl p n hn, decide_eq_true h1]
  exact gv_cut a m p n (by rw [List.length_take] at h1; omega)
theorem len8 {a : List Int} {m : Nat} (hm : m ≤ 1024) : IntKind.wrap .i64 (8 * Int.ofNat (a.take m).length) = 8 * ((a.take m).length : Int) := by
  have hl : (a.take m).length ≤ 1024 := by rw [List.length_take]; omega
  exact wi64 (by simp only [Int.ofNat_eq_natCast]; omega) (by simp only [Int.ofNat_eq_natCast]; omega)
theorem wv8 (a : List Int) (p : Nat) : IntKind.wrap .u8 (gv a p 8) = gv a p 8 := by
  have := gv_range a p 8
  have e : ((2 ^ 8 : Nat) : Int) = 256 := by decide
  exact wu8 this.1 (by omega)
theorem wvn (a : List Int) (p n : Nat) (h : n ≤ 62) : IntKind.wrap .i64 (gv a p n) = gv a p n := by
  have := gv_range a p n
  have e : 2 ^ n ≤ 2 ^ 62 := Nat.pow_le_pow_right (by decide) h
  have e2 : (2 : Nat) ^ 62 = 4611686018427387904 := by decide
  exact wi64 (by omega) (by omega)
theorem nS_cast (a : List Int) : gv a 42 7 = (nS a : Int) := gvN a 42 7
theorem nS_lt (a : List Int) : nS a < 128 := by
  have := gv_range a 42 7
  have e : ((2 ^ 7 : Nat) : Int) = 128 := by decide
  unfold nS; omega
theorem pay_rd1 (a : List Int) (p n : Nat) (hn : n ≤ 64) (h : p + 8 * n ≤ 8 * (a.take 1024).length) :
    Loop (g56_s0 a) ([], (p : Int), ((n : Int), ()), ()) = some ((List.range n).map (fun i => gv a (p + 8 * i) 8), ()) := by
  have key : ∀ k, k ≤ n → Loop (g56_s0 a) ((List.range (n - k)).map (fun i => gv a (p + 8 * i) 8), ((p + 8 * (n - k) : Nat) : Int), ((k : Int), ()), ()) = some ((List.range n).map (fun i => gv a (p + 8 * i) 8), ()) := by
    intro k
    induction k with
    | zero => intro _; rw [Loop_step]; rfl
    | succ k ih =>
      intro hk
      have hB : (a.take 1024).length ≤ 1024 := by rw [List.length_take]; omega
      have ht := tb_at (a := a) (m := 1024) (by decide) (p + 8 * (n - (k + 1))) 8 (by decide) (by omega)
      have e1 : n - k = n - (k + 1) + 1 := by omega
      have hl : ((List.range (n - (k + 1))).map (fun i => gv a (p + 8 * i) 8)).length = n - (k + 1) := by rw [List.length_map, List.length_range]
      rw [Loop_step]
      have hs : g56_s0 a ((List.range (n - (k + 1))).map (fun i => gv a (p + 8 * i) 8), ((p + 8 * (n - (k + 1)) : Nat) : Int), (((k + 1 : Nat) : Int), ()), ()) = some (.inl ((List.range (n - k)).map (fun i => gv a (p + 8 * i) 8), ((p + 8 * (n - k) : Nat) : Int), ((k : Int), ()), ())) := by
        unfold g56_s0
        simp only [front, len8 (a := a) (m := 1024) (by decide)]
        have ht' : (Sp04.take (a.take 1024, 8 * ((a.take 1024).length : Int), ()) ((p + 8 * (n - (k + 1)) : Nat) : Int) 8).1 = gv a (p + 8 * (n - (k + 1))) 8 := ht
        rw [ht', hl, wv8, decide_eq_true (show ((k + 1 : Nat) : Int) > 0 by omega), show Nat.ble ((n - (k + 1) + 1) * 1) 140737488355328 = true from Nat.ble_eq_true_of_le (by omega),
          wi64 (n := ((p + 8 * (n - (k + 1)) : Nat) : Int) + 8) (by omega) (by omega), wi64 (n := ((k + 1 : Nat) : Int) - 1) (by omega) (by omega), show ((p + 8 * (n - (k + 1)) : Nat) : Int) + 8 = ((p + 8 * (n - k) : Nat) : Int) by omega, show ((k + 1 : Nat) : Int) - 1 = (k : Int) by omega, e1, List.range_succ, List.map_append]
        simp only [cond_true, List.map_cons, List.map_nil]
      rw [hs]
      exact ih (by omega)
  have := key n (Nat.le_refl _)
  rw [Nat.sub_self] at this
  exact this

theorem g56_ok (a0 : (List Int)) (r0 : (Ty.sl (.int .u8)).ok a0) : g56 a0 = some (Sp04.decode a0, ()) := by
  obtain ⟨hlen, hbytes⟩ := dat r0
  have e00 : IntKind.wrap .i64 (8 * Int.ofNat a0.length) = 8 * (a0.length : Int) := wi64 (by simp only [Int.ofNat_eq_natCast]; omega) (by simp only [Int.ofNat_eq_natCast]; omega)
  have hB : (a0.take 1024).length = min 1024 a0.length := List.length_take
  have c0 : (true && (decide ((0 : Int) ≤ (bif (decide ((1024 : Int) < (Int.ofNat a0.length))) then (1024 : Int) else (Int.ofNat a0.length)))) && (decide ((bif (decide ((1024 : Int) < (Int.ofNat a0.length))) then (1024 : Int) else (Int.ofNat a0.length)) ≤ (Int.ofNat a0.length)))) = true := by
    by_cases h : (1024 : Int) < Int.ofNat a0.length
    · simp only [h, decide_true, cond_true, Bool.true_and, Bool.and_eq_true, decide_eq_true_eq]
      simp only [Int.ofNat_eq_natCast] at h ⊢
      omega
    · simp only [h, decide_false, cond_false, Bool.true_and, Bool.and_eq_true, decide_eq_true_eq]
      simp only [Int.ofNat_eq_natCast] at h ⊢
      omega
  unfold g56 Sp04.decode
  rw [e00]
  by_cases h49 : 8 * a0.length < 49
  · rw [decide_eq_true (show 8 * (a0.length : Int) < 49 by omega), decide_eq_true h49]; rfl
  rw [decide_eq_false (show ¬ 8 * (a0.length : Int) < 49 by omega), decide_eq_false h49, c0]
  have t := fun (p n : Nat) (hn : n ≤ 64) (h1 : p + n ≤ 8 * (a0.take 1024).length) => tb_at (a := a0) (m := 1024) (by decide) p n hn h1
  have t0 : (Sp04.take (a0.take 1024, 8 * ((a0.take 1024).length : Int), ()) 0 2).1 = gv a0 0 2 := t 0 2 (by decide) (by omega)
  have t2 : (Sp04.take (a0.take 1024, 8 * ((a0.take 1024).length : Int), ()) 2 2).1 = gv a0 2 2 := t 2 2 (by decide) (by omega)
  have t4 : (Sp04.take (a0.take 1024, 8 * ((a0.take 1024).length : Int), ()) 4 3).1 = gv a0 4 3 := t 4 3 (by decide) (by omega)
  have t7 : (Sp04.take (a0.take 1024, 8 * ((a0.take 1024).length : Int), ()) 7 5).1 = gv a0 7 5 := t 7 5 (by decide) (by omega)
  have t12 : (Sp04.take (a0.take 1024, 8 * ((a0.take 1024).length : Int), ()) 12 2).1 = gv a0 12 2 := t 12 2 (by decide) (by omega)
  have t14 : (Sp04.take (a0.take 1024, 8 * ((a0.take 1024).length : Int), ()) 14 6).1 = gv a0 14 6 := t 14 6 (by decide) (by omega)
  have t20 : (Sp04.take (a0.take 1024, 8 * ((a0.take 1024).length : Int), ()) 20 10).1 = gv a0 20 10 := t 20 10 (by decide) (by omega)
  have t30 : (Sp04.take (a0.take 1024, 8 * ((a0.take 1024).length : Int), ()) 30 9).1 = gv a0 30 9 := t 30 9 (by decide) (by omega)
  have t39 : (Sp04.take (a0.take 1024, 8 * ((a0.take 1024).length : Int), ()) 39 3).1 = gv a0 39 3 := t 39 3 (by decide) (by omega)
  have t42 : (Sp04.take (a0.take 1024, 8 * ((a0.take 1024).length : Int), ()) 42 7).1 = gv a0 42 7 := t 42 7 (by decide) (by omega)
  have g54 := gv2 a0 12
  obtain ⟨n1, n2, n3, n4, n5⟩ := nLn_vlen a0
  have hS := nS_lt a0
  have hin : (inside (nLn a0 : Int) 0 1000 && inside (nS a0 : Int) 0 1000) = true := by simp [Sp04.inside]; omega
  have hend : endB a0 = 49 + nLn a0 + 8 * nS a0 := rfl
  have E : (65 + (nLn a0 : Int) + 8 * (nS a0 : Int)) = ((endB a0 + 16 : Nat) : Int) := by omega
  have q1 : (8 * ((a0.take 1024).length : Int) < ((endB a0 + 16 : Nat) : Int)) = (8 * a0.length < endB a0 + 16) := propext (by omega)
  have q2 : IntKind.wrap .i64 (((endB a0 + 16 : Nat) : Int) - 16) = ((endB a0 : Nat) : Int) := by
    rw [wi64 (by omega) (by omega)]; omega
  have q3 : IntKind.wrap .i64 (Int.ofNat (BitVec.and (BitVec.ofInt 64 (IntKind.wrap .i64 (0 - ((endB a0 + 16 : Nat) : Int)))) (BitVec.ofInt 64 7)).toNat) = ((free (endB a0) : Nat) : Int) := free_and ⟨endB a0, by omega⟩
  have hf := free_le (endB a0)
  have q4 : IntKind.wrap .i64 (((endB a0 + 16 : Nat) : Int) + ((free (endB a0) : Nat) : Int)) = ((endB a0 + 16 + free (endB a0) : Nat) : Int) := by
    rw [wi64 (by omega) (by omega)]; omega
  have q5 : (((endB a0 + 16 + free (endB a0) : Nat) : Int) < 8 * (a0.length : Int)) = (8 * ((endB a0 + 23) / 8) < 8 * a0.length) := propext (by omega)
  have q6 : IntKind.wrap .i64 (49 + (nLn a0 : Int)) = ((49 + nLn a0 : Nat) : Int) := by
    rw [wi64 (by omega) (by omega)]; omega
  have q7 : IntKind.wrap .i64 (nS a0 : Int) = (nS a0 : Int) := wi64 (by omega) (by omega)
  simp only [q7, cond_true, cond_false, front, len8 (a := a0) (m := 1024) (by decide), t0, t2, t4, t7, t12, t14, t20, t30, t39, t42, wvn a0 2 2 (by decide), wvn a0 4 3 (by decide), wvn a0 7 5 (by decide), wvn a0 12 2 (by decide), wvn a0 14 6 (by decide), wvn a0 20 10 (by decide),
    wvn a0 30 9 (by decide), wvn a0 39 3 (by decide), wvn a0 42 7 (by decide), wvn a0 0 2 (by decide), dec_run g54.1 g54.2, g54.1, decide_true, n3, nS_cast, on_true hin, Option.bind_some, E, gt_iff_lt, q2, q3, q4, q6]
  by_cases ca : gv a0 0 2 = 2
  rotate_left
  · simp only [ca, decide_false, Bool.not_false, cond_true]; rfl
  by_cases cb : gv a0 2 2 = 0
  · simp only [ca, cb, decide_true, Bool.not_true, cond_false, cond_true]; rfl
  by_cases cc : 256 < gv a0 30 9
  · simp only [ca, cb, cc, decide_true, decide_false, Bool.not_true, cond_false, cond_true, Bool.true_or, Option.bind_some]; rfl
  by_cases cd : 64 < (nS a0 : Int)
  · simp only [ca, cb, cc, cd, decide_true, decide_false, Bool.not_true, Bool.not_false, cond_false, cond_true, Bool.false_or, Option.bind_some]; rfl
  by_cases c1 : 8 * a0.length < endB a0 + 16
  · simp only [ca, cb, cc, cd, q1, c1, decide_true, decide_false, Bool.not_true, Bool.not_false, cond_false, cond_true, Bool.or_self, Option.bind_some]; rfl
  have hcr : ((Sp04.check (Sp04.slice (a0.take 1024, 8 * ((a0.take 1024).length : Int), ()) 0 ((endB a0 : Nat) : Int)).1).1) = (crc (bitsR a0 0 (endB a0)) : Nat) := by
    rw [check_slice (by omega) (by omega), bitsR_take a0 1024 0 _ (by omega)]
  have t16 : (Sp04.take (a0.take 1024, 8 * ((a0.take 1024).length : Int), ()) ((endB a0 : Nat) : Int) 16).1 = gv a0 (endB a0) 16 := t (endB a0) 16 (by decide) (by omega)
  have t24 := t (endB a0 + 16) (free (endB a0)) (by omega) (by omega)
  have t49 : (Sp04.take (a0.take 1024, 8 * ((a0.take 1024).length : Int), ()) 49 (nLn a0 : Int)).1 = gv a0 49 (nLn a0) := t 49 (nLn a0) (by omega) (by omega)
  by_cases c2 : gv a0 (endB a0) 16 = (crc (bitsR a0 0 (endB a0)) : Nat)
  rotate_left
  · simp only [ca, cb, cc, cd, q1, c1, t16, hcr, c2, decide_true, decide_false, Bool.not_true, Bool.not_false, cond_false, cond_true, Bool.or_self, Option.bind_some]; rfl
  by_cases c3 : gv a0 (endB a0 + 16) (free (endB a0)) = 0
  rotate_left
  · simp only [ca, cb, cc, cd, q1, c1, t16, hcr, c2, t24, c3, decide_true, decide_false, Bool.not_true, Bool.not_false, cond_false, cond_true, Bool.or_self, Option.bind_some]; rfl
  by_cases c4 : 8 * ((endB a0 + 23) / 8) < 8 * a0.length
  · simp only [ca, cb, cc, cd, q1, c1, t16, hcr, c2, t24, c3, q5, c4, decide_true, decide_false, Bool.not_true, Bool.not_false, cond_false, cond_true, Bool.or_self, Option.bind_some]; rfl
  simp only [ca, cb, cc, cd, q1, c1, t16, hcr, c2, t24, c3, q5, c4, t49, decide_true, decide_false, Bool.not_true, Bool.not_false, cond_false, cond_true, Bool.or_self, Option.bind_some]
  rw [pay_rd1 a0 (49 + nLn a0) (nS a0) (by omega) (by omega)]
  simp only [Option.bind_some, fieldsP, n3]

end Go.Abs.C04

namespace Go.Abs.C04
open Go Go.Proofs Sp04
set_option maxRecDepth 100000

theorem fld_step {a : List Int} {r : Int} (h : 49 ≤ 8 * (a.take 128).length) (i p w : Nat) (acc : List Int) (hi : i < 10) (hacc : acc.length < 100) (hw : widths.getD i 0 = (w : Int)) (hw2 : w ≤ 20) (hp : p + w ≤ 49) :
    Loop (g58_s0 (r, a.take 128, ())) (acc, (p : Int), (i : Int), ()) = Loop (g58_s0 (r, a.take 128, ())) (acc ++ [gv a p w], ((p + w : Nat) : Int), ((i + 1 : Nat) : Int), ()) := by
  have hs : g58_s0 (r, a.take 128, ()) (acc, (p : Int), (i : Int), ()) = some (.inl (acc ++ [gv a p w], ((p + w : Nat) : Int), ((i + 1 : Nat) : Int), ())) := by
    unfold g58_s0
    have e : widths.length = 10 := rfl
    have ht := tb_at (a := a) (m := 128) (by decide) p w (by omega) (by omega)
    simp only [e, Int.toNat_natCast, hw, len8 (a := a) (m := 128) (by decide), ht, wvn a p w (by omega)]
    rw [decide_eq_true (show (i : Int) < Int.ofNat 10 by simp only [Int.ofNat_eq_natCast]; omega), decide_eq_true (show (0 : Int) ≤ (i : Int) by omega), show Nat.ble ((acc.length + 1) * 8) 140737488355328 = true from Nat.ble_eq_true_of_le (by omega),
      wi64 (n := (p : Int) + (w : Int)) (by omega) (by omega), wi64 (n := (i : Int) + 1) (by omega) (by omega)]
    rfl
  rw [Loop_step, hs]
def flds (a : List Int) : List Int := [gv a 0 2, gv a 2 2, gv a 4 3, gv a 7 5, gv a 12 2, gv a 14 6, gv a 20 10, gv a 30 9, gv a 39 3, gv a 42 7]
theorem fld_loop {a : List Int} {r : Int} (h : 49 ≤ 8 * (a.take 128).length) : Loop (g58_s0 (r, a.take 128, ())) ([], (0 : Int), (0 : Int), ()) = some (flds a, (49 : Int), ()) := by
  refine (fld_step h 0 0 2 [] (by decide) (by simp) rfl (by decide) (by decide)).trans ?_
  refine (fld_step h 1 2 2 _ (by decide) (by simp) rfl (by decide) (by decide)).trans ?_
  refine (fld_step h 2 4 3 _ (by decide) (by simp) rfl (by decide) (by decide)).trans ?_
  refine (fld_step h 3 7 5 _ (by decide) (by simp) rfl (by decide) (by decide)).trans ?_
  refine (fld_step h 4 12 2 _ (by decide) (by simp) rfl (by decide) (by decide)).trans ?_
  refine (fld_step h 5 14 6 _ (by decide) (by simp) rfl (by decide) (by decide)).trans ?_
  refine (fld_step h 6 20 10 _ (by decide) (by simp) rfl (by decide) (by decide)).trans ?_
  refine (fld_step h 7 30 9 _ (by decide) (by simp) rfl (by decide) (by decide)).trans ?_
  refine (fld_step h 8 39 3 _ (by decide) (by simp) rfl (by decide) (by decide)).trans ?_
  refine (fld_step h 9 42 7 _ (by decide) (by simp) rfl (by decide) (by decide)).trans ?_
  rw [Loop_step]
  rfl
theorem flds_len (a : List Int) : (flds a).length = 10 := rfl
theorem pay_rd2 {a : List Int} {r : Int} (p n : Nat) (hn : n ≤ 64) (hS : nS a = n) (h : p + 8 * n ≤ 8 * (a.take 128).length) :
    Loop (g58_s1 (r, a.take 128, ())) ([], (p : Int), (0 : Int), flds a, ()) = some ((List.range n).map (fun i => gv a (p + 8 * i) 8), ((p + 8 * n : Nat) : Int), flds a, ()) := by
  have h9 : (flds a).getD 9 0 = (n : Int) := by rw [← hS]; exact nS_cast a
  have key : ∀ k, k ≤ n → Loop (g58_s1 (r, a.take 128, ())) ((List.range (n - k)).map (fun i => gv a (p + 8 * i) 8), ((p + 8 * (n - k) : Nat) : Int), ((n - k : Nat) : Int), flds a, ()) = some ((List.range n).map (fun i => gv a (p + 8 * i) 8), ((p + 8 * n : Nat) : Int), flds a, ()) := by
    intro k
    induction k with
    | zero =>
      intro _
      rw [Loop_step]
      unfold g58_s1
      simp only [flds_len, h9, Nat.sub_zero]
      rw [decide_eq_false (show ¬ (n : Int) < (n : Int) by omega)]
      rfl
    | succ k ih =>
      intro hk
      have hB : (a.take 128).length ≤ 128 := by rw [List.length_take]; omega
      have ht := tb_at (a := a) (m := 128) (by decide) (p + 8 * (n - (k + 1))) 8 (by decide) (by omega)
      have e1 : n - k = n - (k + 1) + 1 := by omega
      have hl : ((List.range (n - (k + 1))).map (fun i => gv a (p + 8 * i) 8)).length = n - (k + 1) := by rw [List.length_map, List.length_range]
      rw [Loop_step]
      have hs : g58_s1 (r, a.take 128, ()) ((List.range (n - (k + 1))).map (fun i => gv a (p + 8 * i) 8), ((p + 8 * (n - (k + 1)) : Nat) : Int), ((n - (k + 1) : Nat) : Int), flds a, ()) = some (.inl ((List.range (n - k)).map (fun i => gv a (p + 8 * i) 8), ((p + 8 * (n - k) : Nat) : Int), ((n - k : Nat) : Int), flds a, ())) := by
        unfold g58_s1
        simp only [flds_len, h9, len8 (a := a) (m := 128) (by decide)]
        have ht' : (Sp04.take (a.take 128, 8 * ((a.take 128).length : Int), ()) ((p + 8 * (n - (k + 1)) : Nat) : Int) 8).1 = gv a (p + 8 * (n - (k + 1))) 8 := ht
        rw [ht', hl, wv8, decide_eq_true (show ((n - (k + 1) : Nat) : Int) < (n : Int) by omega), show Nat.ble ((n - (k + 1) + 1) * 1) 140737488355328 = true from Nat.ble_eq_true_of_le (by omega),
          wi64 (n := ((p + 8 * (n - (k + 1)) : Nat) : Int) + 8) (by omega) (by omega), wi64 (n := ((n - (k + 1) : Nat) : Int) + 1) (by omega) (by omega), show ((p + 8 * (n - (k + 1)) : Nat) : Int) + 8 = ((p + 8 * (n - k) : Nat) : Int) by omega, show ((n - (k + 1) : Nat) : Int) + 1 = ((n - k : Nat) : Int) by omega, e1, List.range_succ, List.map_append]
        rfl
      rw [hs]
      exact ih (by omega)
  have := key n (Nat.le_refl _)
  rw [Nat.sub_self] at this
  exact this

theorem g58_ok (a0 : (List Int)) (r0 : (Ty.sl (.int .u8)).ok a0) : g58 a0 = some (Sp04.decode a0, ()) := by
  obtain ⟨hlen, hbytes⟩ := dat r0
  have e00 : IntKind.wrap .i64 (8 * Int.ofNat a0.length) = 8 * (a0.length : Int) := wi64 (by simp only [Int.ofNat_eq_natCast]; omega) (by simp only [Int.ofNat_eq_natCast]; omega)
  have hB : (a0.take 128).length = min 128 a0.length := List.length_take
  have hy : (bif decide ((Int.ofNat a0.length) > (128 : Int)) then (bif (true && (decide ((128 : Int) ≤ (Int.ofNat a0.length)))) then (some ((IntKind.wrap .i64 ((Int.ofNat a0.length) - (128 : Int))), ((List.drop 0 (List.take 128 a0)), ()))) else none) else (some ((0 : Int), (a0, ())))) = some (((a0.length - (a0.take 128).length : Nat) : Int), a0.take 128, ()) := by
    simp only [Int.ofNat_eq_natCast, gt_iff_lt, List.drop_zero]
    by_cases h : (128 : Int) < (a0.length : Int)
    · rw [decide_eq_true h, decide_eq_true (show (128 : Int) ≤ (a0.length : Int) by omega), wi64 (by omega) (by omega)]
      simp only [cond_true, Bool.true_and]
      congr 2
      omega
    · rw [decide_eq_false h, List.take_of_length_le (show a0.length ≤ 128 by omega)]
      simp
  unfold g58 Sp04.decode
  rw [e00]
  by_cases h49 : 8 * a0.length < 49
  · rw [decide_eq_true (show 8 * (a0.length : Int) < 49 by omega), decide_eq_true h49]; rfl
  rw [decide_eq_false (show ¬ 8 * (a0.length : Int) < 49 by omega), decide_eq_false h49]
  have t := fun (p n : Nat) (hn : n ≤ 64) (h1 : p + n ≤ 8 * (a0.take 128).length) => tb_at (a := a0) (m := 128) (by decide) p n hn h1
  have hy' := hy
  simp only [cond_false]
  refine (congrArg (fun z => Option.bind z _) hy).trans ?_
  simp only [Option.bind_some]
  rw [fld_loop (by omega)]
  have x0 : (flds a0).getD 0 0 = gv a0 0 2 := rfl
  have x1 : (flds a0).getD 1 0 = gv a0 2 2 := rfl
  have x2 : (flds a0).getD 2 0 = gv a0 4 3 := rfl
  have x3 : (flds a0).getD 3 0 = gv a0 7 5 := rfl
  have x4 : (flds a0).getD 4 0 = gv a0 12 2 := rfl
  have x5 : (flds a0).getD 5 0 = gv a0 14 6 := rfl
  have x6 : (flds a0).getD 6 0 = gv a0 20 10 := rfl
  have x7 : (flds a0).getD 7 0 = gv a0 30 9 := rfl
  have x8 : (flds a0).getD 8 0 = gv a0 39 3 := rfl
  have x9 : (flds a0).getD 9 0 = (nS a0 : Int) := nS_cast a0
  have k0 : ((0 : Int) < Int.ofNat 10) = True := eq_true (by decide)
  have k1 : ((1 : Int) < Int.ofNat 10) = True := eq_true (by decide)
  have k2 : ((2 : Int) < Int.ofNat 10) = True := eq_true (by decide)
  have k3 : ((3 : Int) < Int.ofNat 10) = True := eq_true (by decide)
  have k4 : ((4 : Int) < Int.ofNat 10) = True := eq_true (by decide)
  have k5 : ((5 : Int) < Int.ofNat 10) = True := eq_true (by decide)
  have k6 : ((6 : Int) < Int.ofNat 10) = True := eq_true (by decide)
  have k7 : ((7 : Int) < Int.ofNat 10) = True := eq_true (by decide)
  have k8 : ((8 : Int) < Int.ofNat 10) = True := eq_true (by decide)
  have k9 : ((9 : Int) < Int.ofNat 10) = True := eq_true (by decide)
  have m0 : Nat.blt 0 10 = true := rfl
  have m1 : Nat.blt 1 10 = true := rfl
  have m2 : Nat.blt 2 10 = true := rfl
  have m3 : Nat.blt 3 10 = true := rfl
  have m4 : Nat.blt 4 10 = true := rfl
  have m5 : Nat.blt 5 10 = true := rfl
  have m6 : Nat.blt 6 10 = true := rfl
  have m7 : Nat.blt 7 10 = true := rfl
  have m8 : Nat.blt 8 10 = true := rfl
  have m9 : Nat.blt 9 10 = true := rfl
  have g54 := gv2 a0 12
  obtain ⟨n1, n2, n3, n4, n5⟩ := nLn_vlen a0
  have hS := nS_lt a0
  have hin3 : inside (gv a0 12 2) 0 3 = true := inside_iff.2 ⟨by omega, by omega⟩
  have hin : (inside (nLn a0 : Int) 0 1000 && inside (nS a0 : Int) 0 1000) = true := by simp [Sp04.inside]; omega
  have hend : endB a0 = 49 + nLn a0 + 8 * nS a0 := rfl
  have E : Int.ediv (72 + (nLn a0 : Int) + 8 * (nS a0 : Int)) 8 = (((endB a0 + 23) / 8 : Nat) : Int) := by
    show (72 + (nLn a0 : Int) + 8 * (nS a0 : Int)) / 8 = _
    omega
  simp only [Option.bind_some, flds_len, k0, k1, k2, k3, k4, k5, k6, k7, k8, k9, m0, m1, m2, m3, m4, m5, m6, m7, m8, m9, cond_true, decide_true, Bool.true_and, x0, x1, x2, x3, x4, x5, x6, x7, x8, x9, nS_cast, on_true hin3, n3, on_true hin, E, len8 (a := a0) (m := 128) (by decide), gt_iff_lt]
  by_cases ca : gv a0 0 2 = 2
  rotate_left
  · simp only [ca, decide_false, Bool.not_false, cond_true]; rfl
  by_cases cb : gv a0 2 2 = 0
  · simp only [ca, cb, decide_true, Bool.not_true, cond_false, cond_true]; rfl
  by_cases cc : 256 < gv a0 30 9
  · simp only [ca, cb, cc, decide_true, decide_false, Bool.not_true, cond_false, cond_true, Bool.true_or, Option.bind_some]; rfl
  by_cases cd : 64 < (nS a0 : Int)
  · simp only [ca, cb, cc, cd, decide_true, decide_false, Bool.not_true, Bool.not_false, cond_false, cond_true, Bool.false_or, Option.bind_some]; rfl
  have q1 : (Int.ofNat (a0.take 128).length < (((endB a0 + 23) / 8 : Nat) : Int)) = (8 * a0.length < endB a0 + 16) := propext (by simp only [Int.ofNat_eq_natCast]; omega)
  by_cases c1 : 8 * a0.length < endB a0 + 16
  · simp only [ca, cb, cc, cd, q1, c1, decide_true, decide_false, Bool.not_true, Bool.not_false, cond_false, cond_true, Bool.or_self, Bool.true_and, Option.bind_some, flds_len, k0, k1, k7, m0, m1, m7, k4, k9, m4, m9, x4, x9, on_true hin3, n3, on_true hin, E]; rfl
  have hf := free_le (endB a0)
  have q6 : IntKind.wrap .i64 (49 + (nLn a0 : Int)) = ((49 + nLn a0 : Nat) : Int) := by
    rw [wi64 (by omega) (by omega)]; omega
  have q7 : ((49 + nLn a0 + 8 * nS a0 : Nat) : Int) = ((endB a0 : Nat) : Int) := rfl
  have q2 : IntKind.wrap .i64 (((endB a0 : Nat) : Int) + 16) = ((endB a0 + 16 : Nat) : Int) := by
    rw [wi64 (by omega) (by omega)]; omega
  have q3 : IntKind.wrap .i64 (IntKind.wrap .i64 (8 * (((endB a0 + 23) / 8 : Nat) : Int)) - ((endB a0 + 16 : Nat) : Int)) = ((free (endB a0) : Nat) : Int) := by
    rw [wi64 (n := 8 * _) (by omega) (by omega), wi64 (by omega) (by omega)]; omega
  have q5 : ((((endB a0 + 23) / 8 : Nat) : Int) < IntKind.wrap .i64 (Int.ofNat (a0.take 128).length + ((a0.length - (a0.take 128).length : Nat) : Int))) = (8 * ((endB a0 + 23) / 8) < 8 * a0.length) := propext (by
    rw [wi64 (by simp only [Int.ofNat_eq_natCast]; omega) (by simp only [Int.ofNat_eq_natCast]; omega)]
    simp only [Int.ofNat_eq_natCast]
    omega)
  have hcr : ((Sp04.check (Sp04.slice (a0.take 128, 8 * ((a0.take 128).length : Int), ()) 0 ((endB a0 : Nat) : Int)).1).1) = (crc (bitsR a0 0 (endB a0)) : Nat) := by
    rw [check_slice (by omega) (by omega), bitsR_take a0 128 0 _ (by omega)]
  have t16 : (Sp04.take (a0.take 128, 8 * ((a0.take 128).length : Int), ()) ((endB a0 : Nat) : Int) 16).1 = gv a0 (endB a0) 16 := t (endB a0) 16 (by decide) (by omega)
  have t24 := t (endB a0 + 16) (free (endB a0)) (by omega) (by omega)
  have t49 : (Sp04.take (a0.take 128, 8 * ((a0.take 128).length : Int), ()) 49 (nLn a0 : Int)).1 = gv a0 49 (nLn a0) := t 49 (nLn a0) (by omega) (by omega)
  simp only [ca, cb, cc, cd, q1, c1, decide_true, decide_false, Bool.not_true, Bool.not_false, cond_false, cond_true, Bool.or_self, Bool.true_and, Option.bind_some, flds_len, k0, k1, k2, k3, k4, k5, k6, k7, k8, k9, m0, m1, m2, m3, m4, m5, m6, m7, m8, m9, x0, x1, x2, x3, x4, x5, x6, x7, x8, x9, on_true hin3, n3, on_true hin, E, q6]
  rw [pay_rd2 (49 + nLn a0) (nS a0) (by omega) rfl (by omega)]
  simp only [Option.bind_some, q7, t16, hcr, flds_len, k9, decide_true, Bool.true_and, m9, x9, on_true hin, E, q2, q3, t24, q5, cond_true, t49]
  by_cases c2 : gv a0 (endB a0) 16 = (crc (bitsR a0 0 (endB a0)) : Nat)
  rotate_left
  · simp only [c2, decide_false, Bool.not_false, cond_true]; rfl
  by_cases c3 : gv a0 (endB a0 + 16) (free (endB a0)) = 0
  rotate_left
  · simp only [c2, c3, decide_true, decide_false, Bool.not_true, Bool.not_false, cond_false, cond_true]; rfl
  by_cases c4 : 8 * ((endB a0 + 23) / 8) < 8 * a0.length
  · simp only [c2, c3, c4, decide_true, decide_false, Bool.not_true, Bool.not_false, cond_false, cond_true]; rfl
  simp only [c2, c3, c4, decide_true, decide_false, Bool.not_true, Bool.not_false, cond_false, cond_true, fieldsP, n3]

end Go.Abs.C04

namespace Go.Abs.C04
open Go Go.Proofs Sp04
set_option maxRecDepth 100000

theorem bits_wf {t : Tp} {n : Int} (h : wf t = true) : wf (bitsT t n).2 = true := by
  have h1 := raw_wf h
  have h2 := raw_wf h1
  have h3 := next_wf (n := 6) h2
  have h4 := next_wf (n := n) h3
  simp only [bitsT, bitsV]
  cases decide ((next (raw (raw t).2).2 6).1 = 0) <;> cases decide ((next (raw (raw t).2).2 6).1 = 1) <;> cases decide ((next (raw (raw t).2).2 6).1 = 2) <;> simp only [cond_true, cond_false] <;> assumption
theorem bits_in {t : Tp} {n : Int} (hv : vlen n = true) : 0 ≤ (bitsT t n).1 ∧ (bitsT t n).1 < 2 ^ n.toNat := by
  show 0 ≤ and (bitsV t n).1 (full n) ∧ and (bitsV t n).1 (full n) < 2 ^ n.toNat
  unfold Sp04.and full
  rw [hv]
  simp only [cond_true]
  have h1 : Nat.land (bitsV t n).1.toNat ((2 : Int) ^ n.toNat - 1).toNat ≤ ((2 : Int) ^ n.toNat - 1).toNat := Nat.and_le_right
  have h2 := pow2_pos n.toNat
  omega
theorem pick_wf {t : Tp} {l : List Int} (h : wf t = true) : wf (pick t l).2 = true := next_wf (n := (l.length : Int)) h
theorem pick_mem {t : Tp} {l : List Int} (h : 0 < l.length) : (pick t l).1 ∈ l := by
  have := next_range (t := t) (n := (l.length : Int)) (by omega)
  exact getD_mem (by omega)
theorem length_vlen (t : Tp) : vlen (Sp04.length t).1 = true := by
  have h : (Sp04.length t).1 ∈ [8, 8, 16, 32, 64] := pick_mem (by decide)
  simp only [List.mem_cons, List.not_mem_nil, or_false] at h
  rcases h with h | h | h | h | h <;> rw [h] <;> rfl
theorem textN_bytes (t : Tp) : ∀ k, bytesOk (textN k t).1
  | 0 => fun x hx => by cases hx
  | k + 1 => by
    intro x hx
    rw [textN] at hx
    rcases List.mem_append.1 hx with h | h
    · exact textN_bytes t k x h
    · rw [List.mem_singleton.1 h]
      exact next_range (by decide)
theorem text_bytes (t : Tp) (n : Int) : bytesOk (text t n).1 := textN_bytes _ _
theorem text_wf2 {t : Tp} {n : Int} (h : wf t = true) : wf (text t n).2 = true := (text_wf (range_wf h) _).1
theorem text_len {t : Tp} {n : Int} (h : wf t = true) (hn : 0 ≤ n) : ((text t n).1.length : Int) ≤ n := by
  have h1 := range_in (t := t) hn
  have h2 := (text_wf (range_wf (a := 0) (b := n) h) (range t 0 n).1.toNat).2
  show ((textN (range t 0 n).1.toNat (range t 0 n).2).1.length : Int) ≤ n
  omega
theorem pad_loop (x0 x1 x2 x3 x4 x5 x6 x7 x8 : Int) : ∀ (k : Nat) (l : List Int), (64 - l.length) / 3 = k →
    Loop g37_s0 ((x0, x1, x2, x3, x4, x5, x6, x7, x8, l, ()), ()) = some ((x0, x1, x2, x3, x4, x5, x6, x7, x8, l ++ (List.replicate k [97, 98, 99]).flatten, ()), ())
  | 0, l, h => by
    rw [Loop_step]
    unfold g37_s0
    simp only [Int.ofNat_eq_natCast]
    rw [decide_eq_false (show ¬ (l.length : Int) < 62 by omega)]
    simp
  | k + 1, l, h => by
    rw [Loop_step]
    have hs : g37_s0 ((x0, x1, x2, x3, x4, x5, x6, x7, x8, l, ()), ()) = some (.inl ((x0, x1, x2, x3, x4, x5, x6, x7, x8, l ++ [97, 98, 99], ()), ())) := by
      unfold g37_s0
      simp only [Int.ofNat_eq_natCast]
      rw [decide_eq_true (show (l.length : Int) < 62 by omega), show Nat.ble (l.length + 3) 9223372036854775807 = true from Nat.ble_eq_true_of_le (by omega)]
      rfl
    rw [hs]
    have := pad_loop x0 x1 x2 x3 x4 x5 x6 x7 x8 k (l ++ [97, 98, 99]) (by simp only [List.length_append, List.length_cons, List.length_nil]; omega)
    simp only
    rw [this, List.replicate_succ, List.flatten_cons, List.append_assoc]
theorem pad_len (l : List Int) (h : l.length ≤ 64) : (pad l).length ≤ 64 := by
  unfold pad
  simp only [List.length_append, List.length_flatten, List.map_replicate, List.sum_replicate_nat, List.length_cons, List.length_nil]
  omega

theorem g37_ok (a0 : (List Int)) (a1 : Int) (a2 : Int) (r0 : (Ty.sl (.int .i64)).ok a0) (r1 : IntKind.i64.has a1) (r2 : IntKind.i64.has a2) (h : (Sp04.wf (a0, a1, ()) && Sp04.small a2) = true) : g37 a0 a1 a2 = some (Sp04.packet (a0, a1, ()) a2) := by
  simp only [Bool.and_eq_true] at h
  obtain ⟨w0, hsm⟩ := h
  unfold g37 packet pkt
  simp only
  rw [on_true w0]
  simp only [Option.bind_some]
  have w : wf (Sp04.length (a0, a1, ())).2 = true := pick_wf w0
  generalize Sp04.length (a0, a1, ()) = y3 at w ⊢
  rw [on_true (show (wf y3.2 && small 1 && small 3) = true by rw [w]; rfl)]
  simp only [Option.bind_some]
  replace w := range_wf (a := 1) (b := 3) w
  generalize range y3.2 1 3 = y4 at w ⊢
  rw [on_true (show (wf y4.2 && small 0 && small 7) = true by rw [w]; rfl)]
  simp only [Option.bind_some]
  replace w := range_wf (a := 0) (b := 7) w
  generalize range y4.2 0 7 = y5 at w ⊢
  rw [on_true (show (wf y5.2 && decide (0 < 5) && decide (5 ≤ 1000)) = true by rw [w]; rfl)]
  simp only [Option.bind_some]
  replace w := pick_wf (l := [0, 0, 1, 2, 31]) w
  generalize pick y5.2 [0, 0, 1, 2, 31] = y6 at w ⊢
  rw [on_true (show (wf y6.2 && decide (0 < 5) && decide (5 ≤ 1000)) = true by rw [w]; rfl)]
  simp only [Option.bind_some]
  replace w := pick_wf (l := [0, 1, 2, 5, 63]) w
  generalize pick y6.2 [0, 1, 2, 5, 63] = y7 at w ⊢
  rw [on_true w]
  simp only [Option.bind_some]
  replace w := next_wf (n := 1024) w
  generalize next y7.2 1024 = y8 at w ⊢
  rw [on_true (show (wf y8.2 && decide (0 < 5) && decide (5 ≤ 1000)) = true by rw [w]; rfl)]
  simp only [Option.bind_some]
  replace w := pick_wf (l := [0, 1, 8, 255, 256]) w
  generalize pick y8.2 [0, 1, 8, 255, 256] = y9 at w ⊢
  rw [on_true w]
  simp only [Option.bind_some]
  replace w := next_wf (n := 8) w
  generalize next y9.2 8 = y10 at w ⊢
  rw [on_true w]
  simp only [Option.bind_some]
  replace w := bits_wf (n := y3.1) w
  generalize bitsT y10.2 y3.1 = y11 at w ⊢
  rw [on_true (show (wf y11.2 && decide ((0 : Int) ≤ 6) && decide ((6 : Int) ≤ 1000)) = true by rw [w]; rfl)]
  simp only [Option.bind_some]
  have hl := text_len (n := 6) w (by decide)
  replace w := text_wf2 (n := 6) w
  generalize text y11.2 6 = y12 at w hl ⊢
  simp only [gt_iff_lt]
  by_cases hp : 0 < a2
  rotate_left
  · simp only [hp, decide_false, cond_false, Option.bind_some]
  simp only [hp, decide_true, cond_true]
  rw [on_true (show (wf y12.2 && small a2) = true by rw [w, hsm]; rfl)]
  simp only [Option.bind_some]
  replace w := one_wf (n := a2) w
  generalize one y12.2 a2 = y13 at w ⊢
  obtain ⟨b13, t13⟩ := y13
  cases b13 with
  | false => simp only [cond_false, Option.bind_some]
  | true =>
    simp only [cond_true]
    unfold spoilP
    simp only
    simp only at w
    rw [on_true w]
    simp only [Option.bind_some]
    replace w := next_wf (n := 9) w
    generalize next t13 9 = y14 at w ⊢
    have ww := wild_wf w
    rw [on_true w, on_true (show (wf y14.2 && decide (0 < 8) && decide (8 ≤ 1000)) = true by rw [w]; rfl), on_true (show (wf y14.2 && decide ((0 : Int) ≤ 4) && decide ((4 : Int) ≤ 1000)) = true by rw [w]; rfl), pad_loop _ _ _ _ _ _ _ _ _ _ y12.1 rfl]
    have hl4 := text_len (n := 4) w (by decide)
    have hpad := pad_len y12.1 (by omega)
    have hpe : y12.1 ++ (List.replicate ((64 - y12.1.length) / 3) [97, 98, 99]).flatten = pad y12.1 := rfl
    simp only [Option.bind_some, hpe]
    rw [show Nat.ble ((pad y12.1).length + (text y14.2 4).1.length) 9223372036854775807 = true from Nat.ble_eq_true_of_le (by omega)]
    simp only [cond_true, Option.bind_some, md, sd, Sp04.st, ln, tl, en, ig, pr, bt, py]
    by_cases k0 : y14.1 = 0
    · simp only [k0, decide_true, cond_true, Option.bind_some]
    by_cases k1 : y14.1 = 1
    · simp only [k0, k1, decide_true, decide_false, cond_true, cond_false, Option.bind_some]; rfl
    by_cases k2 : y14.1 = 2
    · simp only [k0, k1, k2, decide_true, decide_false, cond_true, cond_false, Option.bind_some]; rfl
    by_cases k3 : y14.1 = 3
    · simp only [k0, k1, k2, k3, decide_true, decide_false, cond_true, cond_false, Option.bind_some]; rfl
    by_cases k4 : y14.1 = 4
    · simp only [k0, k1, k2, k3, k4, decide_true, decide_false, cond_true, cond_false, Option.bind_some]; rfl
    by_cases k5 : y14.1 = 5
    · simp only [k0, k1, k2, k3, k4, k5, decide_true, decide_false, cond_true, cond_false, Option.bind_some]; rfl
    by_cases k6 : y14.1 = 6
    · simp only [k0, k1, k2, k3, k4, k5, k6, decide_true, decide_false, cond_true, cond_false, Option.bind_some]; rfl
    by_cases k7 : y14.1 = 7
    · simp only [k0, k1, k2, k3, k4, k5, k6, k7, decide_true, decide_false, cond_true, cond_false, Option.bind_some]; rfl
    simp only [k0, k1, k2, k3, k4, k5, k6, k7, decide_false, cond_false, Option.bind_some]

theorem pkt_good {t : Tp} (w0 : wf t = true) : validP (pkt t).1 = true ∧ 0 ≤ bt (pkt t).1 ∧ bytesOk (py (pkt t).1) ∧ wf (pkt t).2 = true := by
  unfold pkt
  simp only
  have w : wf (Sp04.length t).2 = true := pick_wf w0
  have v3 := length_vlen t
  generalize Sp04.length t = y3 at w v3 ⊢
  have v4 := range_in (t := y3.2) (a := 1) (b := 3) (by decide)
  replace w := range_wf (a := 1) (b := 3) w
  generalize range y3.2 1 3 = y4 at w v4 ⊢
  have v5 := range_in (t := y4.2) (a := 0) (b := 7) (by decide)
  replace w := range_wf (a := 0) (b := 7) w
  generalize range y4.2 0 7 = y5 at w v5 ⊢
  have v6 := pick_mem (t := y5.2) (l := [0, 0, 1, 2, 31]) (by decide)
  replace w := pick_wf (l := [0, 0, 1, 2, 31]) w
  generalize pick y5.2 [0, 0, 1, 2, 31] = y6 at w v6 ⊢
  have v7 := pick_mem (t := y6.2) (l := [0, 1, 2, 5, 63]) (by decide)
  replace w := pick_wf (l := [0, 1, 2, 5, 63]) w
  generalize pick y6.2 [0, 1, 2, 5, 63] = y7 at w v7 ⊢
  have v8 := next_range (t := y7.2) (n := 1024) (by decide)
  replace w := next_wf (n := 1024) w
  generalize next y7.2 1024 = y8 at w v8 ⊢
  have v9 := pick_mem (t := y8.2) (l := [0, 1, 8, 255, 256]) (by decide)
  replace w := pick_wf (l := [0, 1, 8, 255, 256]) w
  generalize pick y8.2 [0, 1, 8, 255, 256] = y9 at w v9 ⊢
  have v10 := next_range (t := y9.2) (n := 8) (by decide)
  replace w := next_wf (n := 8) w
  generalize next y9.2 8 = y10 at w v10 ⊢
  have v11 := bits_in (t := y10.2) v3
  replace w := bits_wf (n := y3.1) w
  generalize bitsT y10.2 y3.1 = y11 at w v11 ⊢
  have v12 := text_len (n := 6) w (by decide)
  have v13 := text_bytes y11.2 6
  replace w := text_wf2 (n := 6) w
  generalize text y11.2 6 = y12 at w v12 v13 ⊢
  simp only [List.mem_cons, List.not_mem_nil, or_false] at v6 v7 v9
  refine ⟨valid_fit.2 ⟨v4, v5, ?_, v3, v11.2, ?_, ?_, ?_, ?_, ?_⟩, v11.1, v13, w⟩
  · show 0 ≤ y6.1 ∧ y6.1 ≤ 31
    omega
  · show 0 ≤ y7.1 ∧ y7.1 ≤ 63
    omega
  · show 0 ≤ y8.1 ∧ y8.1 ≤ 1023
    omega
  · show 0 ≤ y9.1 ∧ y9.1 ≤ 256
    omega
  · show 0 ≤ y10.1 ∧ y10.1 ≤ 7
    omega
  · show y12.1.length ≤ 64
    omega
theorem packet_wf {t : Tp} {n : Int} (w0 : wf t = true) : wf (packet t n).2 = true := by
  have w := (pkt_good w0).2.2.2
  unfold packet
  simp only
  cases decide (0 < n) with
  | false => exact w
  | true =>
    simp only [cond_true]
    replace w := one_wf (n := n) w
    cases (one (pkt t).2 n).1 with
    | false => exact w
    | true =>
      simp only [cond_true]
      replace w := next_wf (n := 9) w
      unfold spoilP
      simp only
      have h1 := wild_wf w
      have h2 := pick_wf (l := [0, 8, 16, 24, 63, 64, 65, -8]) w
      have h3 := text_wf2 (n := 4) w
      generalize next (one (pkt t).2 n).2 9 = k at h1 h2 h3 ⊢
      by_cases k0 : k.1 = 0
      · simp only [k0, decide_true, cond_true]; exact h1
      by_cases k1 : k.1 = 1
      · simp only [k0, k1, decide_true, decide_false, cond_true, cond_false]; exact h1
      by_cases k2 : k.1 = 2
      · simp only [k0, k1, k2, decide_true, decide_false, cond_true, cond_false]; exact h1
      by_cases k3 : k.1 = 3
      · simp only [k0, k1, k2, k3, decide_true, decide_false, cond_true, cond_false]; exact h2
      by_cases k4 : k.1 = 4
      · simp only [k0, k1, k2, k3, k4, decide_true, decide_false, cond_true, cond_false]; exact h1
      by_cases k5 : k.1 = 5
      · simp only [k0, k1, k2, k3, k4, k5, decide_true, decide_false, cond_true, cond_false]; exact h1
      by_cases k6 : k.1 = 6
      · simp only [k0, k1, k2, k3, k4, k5, k6, decide_true, decide_false, cond_true, cond_false]; exact h1
      by_cases k7 : k.1 = 7
      · simp only [k0, k1, k2, k3, k4, k5, k6, k7, decide_true, decide_false, cond_true, cond_false]; exact h1
      simp only [k0, k1, k2, k3, k4, k5, k6, k7, decide_false, cond_false]; exact h3

end Go.Abs.C04

namespace Go.Abs.C04
open Go Go.Proofs
set_option maxRecDepth 100000 in
set_option maxHeartbeats 2000000 in
theorem f74_calls {w : World} {bp bv ov bc oc bz oz : Nat} :
    Calls Try.prog 74 #[.pointer (some ⟨bp, 0, none⟩), .pointer (some ⟨bv, ov, none⟩), .pointer (some ⟨bc, oc, none⟩), .pointer (some ⟨bz, oz, none⟩)] w fun e w' =>
      e = .returned (.slice (some ⟨w.heap.size, 0, none⟩) 10 10) ∧ w' = w.drew.alloc (.cells #[.pointer (some ⟨bv, ov, none⟩), .int .i64 2, .pointer (some ⟨bp, 0, none⟩), .int .i64 2, .pointer (some ⟨bp, 1, none⟩), .int .i64 3, .pointer (some ⟨bp, 2, none⟩), .int .i64 5,
        .pointer (some ⟨bc, oc, none⟩), .int .i64 2, .pointer (some ⟨bp, 4, none⟩), .int .i64 6, .pointer (some ⟨bp, 5, none⟩), .int .i64 10, .pointer (some ⟨bp, 6, none⟩), .int .i64 9, .pointer (some ⟨bp, 7, none⟩), .int .i64 3, .pointer (some ⟨bz, oz, none⟩), .int .i64 7] 98 (0, 0)) := by
  go_enter Try.func74, Try.ntmps74
  go_wp2
  go_region
  go_wp2
  go_ret
  exact ⟨rfl, rfl⟩

theorem x74_args {dst st : Nat} {l : List D} {u : St} (h : xf74 dst st l = some u) : ∃ p sp v sv ov c sc oc z sz oz, l = [.ptr p sp 0, .ptr v sv ov, .ptr c sc oc, .ptr z sz oz] := by
  unfold xf74 at h
  split at h
  · exact ⟨_, _, _, _, _, _, _, _, _, _, _, rfl⟩
  · cases h
theorem list4 {α β : Type} {f : α → β} {l : List α} {a b c d : β} (h : l.map f = [a, b, c, d]) : ∃ w x y z, l = [w, x, y, z] ∧ f w = a ∧ f x = b ∧ f y = c ∧ f z = d := by
  match l, h with
  | [w, x, y, z], h => simp at h; exact ⟨w, x, y, z, rfl, h⟩
  | [], h => simp at h
  | [_], h => simp at h
  | [_, _], h => simp at h
  | [_, _, _], h => simp at h
  | _ :: _ :: _ :: _ :: _ :: _, h => simp at h

theorem x74_ok : XSem Try.prog 74 xf74 := by
  intro E C o cl s a w G pt t u hm ht hdst hop hcl R hx
  obtain ⟨p, sp, v, sv, ov, c, sc, oc, z, sz, oz, hl⟩ := x74_args hx
  rw [hl] at hx
  simp only [xf74, Option.some.injEq] at hx
  subst hx
  obtain ⟨x0, x1, x2, x3, hargs, e0, e1, e2, e3⟩ := list4 hl
  have r0 := opd_rep R x0; rw [e0] at r0
  have r1 := opd_rep R x1; rw [e1] at r1
  have r2 := opd_rep R x2; rw [e2] at r2
  have r3 := opd_rep R x3; rw [e3] at r3
  obtain ⟨bp, p0, v0⟩ := r0
  obtain ⟨bv, p1, v1⟩ := r1
  obtain ⟨bc, p2, v2⟩ := r2
  obtain ⟨bz, p3, v3⟩ := r3
  intro K Q hK
  have hrun : (execOp a.eval o).run Try.prog w = .ok (.enter 74 (cl.args.map a.eval)) w := by
    have e : execOp a.eval o = callFunc 74 (#[] ++ cl.args.map a.eval ++ #[]) := by
      simp only [execOp, hop, resolve, hcl]
      rfl
    rw [e]
    simp only [callFunc]
    have h2 : ¬ Try.f74.name = "runtime.NumGoroutine" := by decide
    have h3b : Try.f74.body.isNone = false := by kernel_rfl
    have h3 : ¬ Try.f74.body = none := fun h => by rw [h] at h3b; cases h3b
    simp [go_sem, Try.func74, h2, h3]
  unfold Oper.wp
  rw [hrun, Oper.upon_enter]
  have ha : cl.args.map a.eval = #[.pointer (some ⟨bp, 0, none⟩), .pointer (some ⟨bv, ov, none⟩), .pointer (some ⟨bc, oc, none⟩), .pointer (some ⟨bz, oz, none⟩)] := by
    apply Array.ext'
    rw [Array.toList_map, hargs]
    simp only [List.map_cons, List.map_nil, v0, v1, v2, v3]
  rw [ha]
  refine f74_calls.mono ?_
  rintro e w' ⟨rfl, rfl⟩
  have R1 : Rel E C s a w.drew G pt := R.world rfl rfl rfl rfl
  have P : ∀ {id st off b : Nat} {w' : World} (_ : blkOf (pt id st) = some b), RepL w' G pt (.ptr id st off) (.pointer (some ⟨b, off, none⟩)) := fun h => ⟨_, h, rfl⟩
  have I : ∀ {n : Int} {w' : World} (_ : IntKind.i64.has n), RepL w' G pt (.int .i64 n) (.int .i64 n) := fun h => ⟨rfl, h⟩
  have hi : ∀ n : Nat, n ≤ 10 → IntKind.i64.has (n : Int) := fun n hn => i64_nat n (by unfold mlen; omega)
  have key := R1.newWnd hm t ht (ds := [.ptr v sv ov, .int .i64 2, .ptr p sp 0, .int .i64 2, .ptr p sp 1, .int .i64 3, .ptr p sp 2, .int .i64 5, .ptr c sc oc, .int .i64 2,
      .ptr p sp 4, .int .i64 6, .ptr p sp 5, .int .i64 10, .ptr p sp 6, .int .i64 9, .ptr p sp 7, .int .i64 3, .ptr z sz oz, .int .i64 7])
    (cells := #[.pointer (some ⟨bv, ov, none⟩), .int .i64 2, .pointer (some ⟨bp, 0, none⟩), .int .i64 2, .pointer (some ⟨bp, 1, none⟩), .int .i64 3, .pointer (some ⟨bp, 2, none⟩), .int .i64 5,
        .pointer (some ⟨bc, oc, none⟩), .int .i64 2, .pointer (some ⟨bp, 4, none⟩), .int .i64 6, .pointer (some ⟨bp, 5, none⟩), .int .i64 10, .pointer (some ⟨bp, 6, none⟩), .int .i64 9, .pointer (some ⟨bp, 7, none⟩), .int .i64 3, .pointer (some ⟨bz, oz, none⟩), .int .i64 7])
    (e := 98) (n := 10) (fun j hj => by
      have hj : j < 20 := hj
      rcases (by omega : j = 0 ∨ j = 1 ∨ j = 2 ∨ j = 3 ∨ j = 4 ∨ j = 5 ∨ j = 6 ∨ j = 7 ∨ j = 8 ∨ j = 9 ∨ j = 10 ∨ j = 11 ∨ j = 12 ∨ j = 13 ∨ j = 14 ∨ j = 15 ∨ j = 16 ∨ j = 17 ∨ j = 18 ∨ j = 19) with h | h | h | h | h | h | h | h | h | h | h | h | h | h | h | h | h | h | h | h <;> subst h <;> first | exact ⟨P p0, rfl⟩ | exact ⟨P p1, rfl⟩ | exact ⟨P p2, rfl⟩ | exact ⟨P p3, rfl⟩ | exact ⟨I (hi 2 (by omega)), rfl⟩ | exact ⟨I (hi 3 (by omega)), rfl⟩ | exact ⟨I (hi 5 (by omega)), rfl⟩ | exact ⟨I (hi 6 (by omega)), rfl⟩ | exact ⟨I (hi 10 (by omega)), rfl⟩ | exact ⟨I (hi 9 (by omega)), rfl⟩ | exact ⟨I (hi 7 (by omega)), rfl⟩)
    (show 20 ≤ 20 from Nat.le_refl _) (fun b => ⟨by simp [ctLs, ctL], fun h => by simp [ctLs, ctL] at h⟩) (by unfold mlen; omega)
  rw [hdst]
  exact hK _ _ _ _ key
end Go.Abs.C04

namespace Go.Abs
variable {E : Env} {C : Ctx} {s : St} {a : Act} {w : World} {G : Nat → Nat} {pt : Nat → Nat → Option Value}
theorem nbeq_g {a b : Nat} (h : a ≠ b) : Nat.beq a b = false := by
  cases hb : Nat.beq a b with
  | false => rfl
  | true => exact absurd (Nat.eq_of_beq_eq_true hb) h
theorem get_one (d : D) (k : Nat) (h : k ≠ 0) : get [(0, d)] k = .undef := by
  simp only [get, nbeq_g h, cond_false]
theorem Rel.keep0 {n : Nat} (R : Rel (ifE E n false) C s a w G pt) (hb : ∀ id, get s (2 * id + 1) = .undef) :
    Rel (ifE E 1 false) C [(0, get s 0)] { tmps := #[a.tmps.getD 0 Go.undef], defers := [] } w G pt := by
  have g1 : ∀ id, get [(0, get s 0)] (2 * id + 1) = .undef := fun id => get_one _ _ (by omega)
  have g2 : ∀ t, 1 ≤ t → get [(0, get s 0)] (2 * t) = .undef := fun t ht => get_one _ _ (by omega)
  have hTC : ∀ b, TC 1 C.m [(0, get s 0)] { tmps := #[a.tmps.getD 0 Go.undef], defers := [] } w pt b = cT s a b 0 := by
    intro b
    have z2 : sumN C.m (cB [(0, get s 0)] w pt b) = 0 := sumN_zero fun i hi => by
      rw [cB, g1]
      rfl
    unfold TC
    rw [z2]
    show 0 + cT [(0, get s 0)] _ b 0 + 0 = _
    rw [Nat.zero_add, Nat.add_zero]
    rfl
  refine ⟨rfl, rfl, fun t => ?_, fun id => ?_, fun t ht => g2 t ht, fun id hid => g1 id, fun b => ?_, fun b hb => ?_, R.fr, R.ex, R.gz, R.os, R.out, R.tape, R.hs, fun id st h => ?_, R.gl, R.pn⟩
  · cases t with
    | zero => exact R.tm 0
    | succ t => rw [g2 (t + 1) (by omega)]; trivial
  · rw [g1]; trivial
  · exact Nat.le_trans (Nat.le_of_eq (hTC b)) (Nat.le_trans (R.cT_le b 0) (R.ct b))
  · exact R.cb b (Nat.lt_of_lt_of_le (by have := hTC b; exact this ▸ hb) (R.cT_le b 0))
  · rw [g1] at h
    have := R.pf id st
    rw [hb] at this
    exact this h
end Go.Abs
namespace Go.Abs.C04
open Go Go.Proofs
set_option maxRecDepth 100000 in
set_option maxHeartbeats 2000000 in
theorem f77_calls {w : World} {n : Int} {Q : Ending → World → Prop} (h0 : 0 < n) (h1 : n ≤ 1000000)
    (hQ : ∀ c : Nat, n.toNat ≤ c → Q (.returned (.slice (some ⟨w.heap.size, 0, none⟩) 0 c)) (w.alloc (.cells (Builtin.zeroCells #[.int .u8 0] n.toNat ++ Builtin.zeroCells #[.int .u8 0] (c - n.toNat)) 5)).drew) :
    Calls Try.prog 77 #[.slice none 0 0, .int .i64 n] w Q := by
  have hw : IntKind.wrap .i64 (n - (0 - 0)) = n := by simp; exact wi64 (by omega) (by omega)
  have c0 : ¬ n < 0 := by omega
  go_enter Try.func77, Try.ntmps77
  have hbt : Try.t5.bytes = 1 := rfl
  go_wp2
  all_goals (try simp only [hbt] at *)
  all_goals (try (exfalso; simp only [Builtin.nextslicecap] at *; (repeat' split at *) <;> omega))
  all_goals (go_wp2)
  all_goals (simp only [Question.cut]; omega)
set_option maxRecDepth 100000 in
set_option maxHeartbeats 2000000 in
theorem f77_zero {w : World} : Calls Try.prog 77 #[.slice none 0 0, .int .i64 0] w fun e w' => e = .returned (.slice none 0 0) ∧ w' = w := by
  go_enter Try.func77, Try.ntmps77
  go_wp2
  go_ret
  exact ⟨rfl, rfl⟩
set_option maxRecDepth 100000 in
set_option maxHeartbeats 2000000 in
theorem f90_calls {w : World} {n : Int} {Q : Ending → World → Prop} (h0 : 0 < n) (h1 : n ≤ 1000000)
    (hQ : ∀ c : Nat, n.toNat ≤ c → Q (.returned (.slice (some ⟨w.heap.size, 0, none⟩) 0 c)) (w.alloc (.cells (Builtin.zeroCells #[.int .i64 0] n.toNat ++ Builtin.zeroCells #[.int .i64 0] (c - n.toNat)) 3)).drew) :
    Calls Try.prog 90 #[.slice none 0 0, .int .i64 n] w Q := by
  have hw : IntKind.wrap .i64 (n - (0 - 0)) = n := by simp; exact wi64 (by omega) (by omega)
  have c0 : ¬ n < 0 := by omega
  go_enter Try.func90, Try.ntmps90
  have hbt : Try.t3.bytes = 8 := rfl
  go_wp2
  all_goals (try simp only [hbt] at *)
  all_goals (try (exfalso; simp only [Builtin.nextslicecap] at *; (repeat' split at *) <;> omega))
  all_goals (go_wp2)
  all_goals (simp only [Question.cut]; omega)
set_option maxRecDepth 100000 in
set_option maxHeartbeats 2000000 in
theorem f90_zero {w : World} : Calls Try.prog 90 #[.slice none 0 0, .int .i64 0] w fun e w' => e = .returned (.slice none 0 0) ∧ w' = w := by
  go_enter Try.func90, Try.ntmps90
  go_wp2
  go_ret
  exact ⟨rfl, rfl⟩
end Go.Abs.C04

namespace Go.Abs.C04
open Go Go.Proofs Sp04
theorem sem77 {E : Env} : CallSem Try.prog E 77 c77 := by
  rintro ⟨⟨⟩, ⟨⟩, n, ⟨⟩⟩ y hy C args w G pt hm hpin hargs R K hK
  obtain ⟨hin, rfl⟩ := on_some hy
  have hin : 0 ≤ n ∧ n ≤ 1000000 := by simpa [Sp04.inside] using hin
  obtain ⟨v0, v1, rfl⟩ : ∃ v0 v1, args = #[v0, v1] := by
    have : args.size = 2 := hargs
    match args, this with
    | ⟨[v0, v1]⟩, _ => exact ⟨v0, v1, rfl⟩
  have t0 : v0 = .slice none 0 0 := R.tm 0
  have t1 : v1 = .int .i64 n ∧ _ := R.tm 1
  obtain ⟨t1, -⟩ := t1
  subst t0
  subst t1
  have g0 : ∀ (d : D) id, get ((0, d) :: entrySt c77 ((), (), n, ())) (2 * id + 1) = .undef := by
    intro d id
    show get [(0, d), (0, D.nils), (2, D.int .i64 n)] (2 * id + 1) = .undef
    have e0 : Nat.beq (2 * id + 1) 0 = false := nbeq_g (by omega)
    have e1 : Nat.beq (2 * id + 1) 2 = false := nbeq_g (by omega)
    simp only [get, e0, e1, cond_false]
  by_cases hn : n = 0
  · subst hn
    refine (f77_zero).mono ?_
    rintro e w' ⟨rfl, rfl⟩
    have R1 := R.dst1 0 (by decide : 0 < 2) (d := .sl 2 (.int .u8) ([] : List Int)) (v := .slice none 0 0) ⟨none, 0, 0, rfl, rfl, by decide, .inl ⟨rfl, rfl, rfl⟩⟩ (fun b => rfl)
    exact hK #[.slice none 0 0] w' G pt (R1.keep0 (g0 _))
  · have hn0 : (0 : Int) < n := by
      rcases Int.lt_or_eq_of_le hin.1 with h | h
      · exact h
      · exact absurd h.symm hn
    refine f77_calls hn0 hin.2 fun c hc => ?_
    have hsz : (Builtin.zeroCells #[Value.int .u8 0] n.toNat ++ Builtin.zeroCells #[Value.int .u8 0] (c - n.toNat)).size = c := by
      simp only [Builtin.zeroCells, Array.size_append, Array.size_map, Array.size_range, List.size_toArray, List.length_cons, List.length_nil]
      omega
    have R1 := R.newRow (e := 5) (fr := (0, 0)) { dst := some 0, op := .move (.tmp 0), type := 0, pos := "", after := #[], guard := none } (fun t ht => by cases ht; exact (by decide : 0 < 2)) (t := .int .u8) (l := ([] : List Int)) (cells := Builtin.zeroCells #[Value.int .u8 0] n.toNat ++ Builtin.zeroCells #[Value.int .u8 0] (c - n.toNat)) (c := c)
      (fun i hi => by simp at hi) (Nat.zero_le _) (by rw [hsz]; simp [Ty.nc]) (fun o ho => by simp only; omega) (by simp) (by decide)
    have R2 := R1.drew (w' := (w.alloc (.cells (Builtin.zeroCells #[.int .u8 0] n.toNat ++ Builtin.zeroCells #[.int .u8 0] (c - n.toNat)) 5)).drew) rfl rfl rfl rfl
    exact hK #[.slice (some ⟨w.heap.size, 0, none⟩) 0 c] _ G pt (R2.keep0 (g0 _))
theorem ok77 : FunOk Try.prog B 77 c77 := ⟨by decide, fun _ => sem77, fun x h => (by cases h), Try.f77, Try.func77, by kernel_rfl, by kernel_rfl⟩
theorem sem90 {E : Env} : CallSem Try.prog E 90 c90 := by
  rintro ⟨⟨⟩, ⟨⟩, n, ⟨⟩⟩ y hy C args w G pt hm hpin hargs R K hK
  obtain ⟨hin, rfl⟩ := on_some hy
  have hin : 0 ≤ n ∧ n ≤ 1000000 := by simpa [Sp04.inside] using hin
  obtain ⟨v0, v1, rfl⟩ : ∃ v0 v1, args = #[v0, v1] := by
    have : args.size = 2 := hargs
    match args, this with
    | ⟨[v0, v1]⟩, _ => exact ⟨v0, v1, rfl⟩
  have t0 : v0 = .slice none 0 0 := R.tm 0
  have t1 : v1 = .int .i64 n ∧ _ := R.tm 1
  obtain ⟨t1, -⟩ := t1
  subst t0
  subst t1
  have g0 : ∀ (d : D) id, get ((0, d) :: entrySt c90 ((), (), n, ())) (2 * id + 1) = .undef := by
    intro d id
    show get [(0, d), (0, D.nils), (2, D.int .i64 n)] (2 * id + 1) = .undef
    have e0 : Nat.beq (2 * id + 1) 0 = false := nbeq_g (by omega)
    have e1 : Nat.beq (2 * id + 1) 2 = false := nbeq_g (by omega)
    simp only [get, e0, e1, cond_false]
  by_cases hn : n = 0
  · subst hn
    refine (f90_zero).mono ?_
    rintro e w' ⟨rfl, rfl⟩
    have R1 := R.dst1 0 (by decide : 0 < 2) (d := .sl 2 (.int .i64) ([] : List Int)) (v := .slice none 0 0) ⟨none, 0, 0, rfl, rfl, by decide, .inl ⟨rfl, rfl, rfl⟩⟩ (fun b => rfl)
    exact hK #[.slice none 0 0] w' G pt (R1.keep0 (g0 _))
  · have hn0 : (0 : Int) < n := by
      rcases Int.lt_or_eq_of_le hin.1 with h | h
      · exact h
      · exact absurd h.symm hn
    refine f90_calls hn0 hin.2 fun c hc => ?_
    have hsz : (Builtin.zeroCells #[Value.int .i64 0] n.toNat ++ Builtin.zeroCells #[Value.int .i64 0] (c - n.toNat)).size = c := by
      simp only [Builtin.zeroCells, Array.size_append, Array.size_map, Array.size_range, List.size_toArray, List.length_cons, List.length_nil]
      omega
    have R1 := R.newRow (e := 3) (fr := (0, 0)) { dst := some 0, op := .move (.tmp 0), type := 0, pos := "", after := #[], guard := none } (fun t ht => by cases ht; exact (by decide : 0 < 2)) (t := .int .i64) (l := ([] : List Int)) (cells := Builtin.zeroCells #[Value.int .i64 0] n.toNat ++ Builtin.zeroCells #[Value.int .i64 0] (c - n.toNat)) (c := c)
      (fun i hi => by simp at hi) (Nat.zero_le _) (by rw [hsz]; simp [Ty.nc]) (fun o ho => by simp only; omega) (by simp) (by decide)
    have R2 := R1.drew (w' := (w.alloc (.cells (Builtin.zeroCells #[.int .i64 0] n.toNat ++ Builtin.zeroCells #[.int .i64 0] (c - n.toNat)) 3)).drew) rfl rfl rfl rfl
    exact hK #[.slice (some ⟨w.heap.size, 0, none⟩) 0 c] _ G pt (R2.keep0 (g0 _))
theorem ok90 : FunOk Try.prog B 90 c90 := ⟨by decide, fun _ => sem90, fun x h => (by cases h), Try.f90, Try.func90, by kernel_rfl, by kernel_rfl⟩
end Go.Abs.C04

namespace Go.Abs.C04
open Go Go.Proofs
set_option maxRecDepth 100000 in
set_option maxHeartbeats 2000000 in
theorem f62_nil {w : World} {n c : Nat} {Q : Ending → World → Prop} (hQ : Q (.returned (.slice none 0 0)) w) :
    Calls Try.prog 62 #[.slice none n c] w Q := by
  have hu : Try.prog.underlying 22 = some (.slice 3) := by kernel_rfl
  go_enter Try.func62, Try.ntmps62
  go_wp2
  rw [Lib.run_eql_slice_nil _ _ _ _ _ _ _ _ hu]
  simp only [Result.andThen]
  rw [Oper.upon_value]
  simp only [Option.isNone]
  go_wp2
  exact hQ
set_option maxRecDepth 100000 in
set_option maxHeartbeats 2000000 in
theorem f62_empty {w : World} {p : Addr} {c : Nat} {Q : Ending → World → Prop} (hQ : Q (.returned (.slice (some ⟨w.heap.size, 0, none⟩) 0 0)) (w.alloc (.cells #[] 3))) :
    Calls Try.prog 62 #[.slice (some p) 0 c] w Q := by
  have hu : Try.prog.underlying 22 = some (.slice 3) := by kernel_rfl
  have hl : (loadCellsFrom p 0 0 #[]).run Try.prog (w.alloc (.cells #[] 3)) = .ok #[] (w.alloc (.cells #[] 3)) := by simp [loadCellsFrom]
  go_enter Try.func62, Try.ntmps62
  go_wp2
  rw [Lib.run_eql_slice_nil _ _ _ _ _ _ _ _ hu]
  simp only [Result.andThen]
  rw [Oper.upon_value]
  simp only [Option.isNone]
  go_wp2
  exact hQ
set_option maxRecDepth 100000 in
set_option maxHeartbeats 2000000 in
theorem f62_cells {w : World} {p : Addr} {n c : Nat} {cs : Array Value} {Q : Ending → World → Prop} (hn : 0 < n) (hn2 : n ≤ 17592186044416)
   (hl : (loadCellsFrom p 0 n #[]).run Try.prog (w.alloc (.cells #[] 3)).drew = .ok cs (w.alloc (.cells #[] 3)).drew)
   (hQ : ∀ k : Nat, n ≤ k → Q (.returned (.slice (some ⟨w.heap.size + 1, 0, none⟩) n k)) ((w.alloc (.cells #[] 3)).alloc (.cells (cs ++ Builtin.zeroCells #[.int .i64 0] (k - n)) 3)).drew) :
    Calls Try.prog 62 #[.slice (some p) n c] w Q := by
  have hu : Try.prog.underlying 22 = some (.slice 3) := by kernel_rfl
  have hbt : Try.t3.bytes = 8 := rfl
  go_enter Try.func62, Try.ntmps62
  go_wp2
  rw [Lib.run_eql_slice_nil _ _ _ _ _ _ _ _ hu]
  simp only [Result.andThen]
  rw [Oper.upon_value]
  simp only [Option.isNone]
  go_wp2
  all_goals (try (exfalso; simp only [Builtin.nextslicecap] at *; (repeat' split at *) <;> omega))
  all_goals (simp only [Question.cut]; omega)
open Sp04
theorem cells62 {w : World} {G : Nat → Nat} (hgz : ∀ b, w.heap.size ≤ b → G b = 0) {l : List Int} {b o : Nat} (hl : l ≠ []) (ho : o + l.length * 1 ≤ G b) (hr : RepE w G (.int .i64) l b o) :
    (loadCellsFrom ⟨b, o, none⟩ 0 l.length #[]).run Try.prog (w.alloc (.cells #[] 3)).drew = .ok ((List.range l.length).map fun j => Value.int .i64 (l.getD j 0)).toArray (w.alloc (.cells #[] 3)).drew := by
  have h := run_loadCellsFrom (P := Try.prog) (w.alloc (.cells #[] 3)).drew ⟨b, o, none⟩ (fun j => Value.int .i64 (l.getD j 0)) l.length 0 #[] (fun j hj => by
    have h1 := (hr j hj).1
    have hadd : (⟨b, o, none⟩ : Addr).add (0 + j) = ⟨b, o + j * 1, none⟩ := by
      unfold Addr.add
      simp
    rw [hadd]
    show (w.alloc (.cells #[] 3)).cell? _ = _
    have hE := (alloc_ext (w := w) (G := G) (.cells #[] 3) hgz).cell b (o + j * 1) (by omega)
    rw [hE]
    have h2 : l.getD j 0 = l[j] := by rw [List.getD_eq_getElem?_getD, List.getElem?_eq_getElem hj]; rfl
    rw [Nat.zero_add, h2]
    exact h1)
  rw [h]
  simp only [Nat.zero_add, List.append_nil, Array.empty_append]
theorem sem62 {E : Env} : CallSem Try.prog E 62 c62 := by
  rintro ⟨⟨⟩, l, ⟨⟩⟩ y hy C args w G pt hm hpin hargs R K hK
  obtain rfl : (l, ()) = y := Option.some.inj hy
  obtain ⟨v0, rfl⟩ : ∃ v0, args = #[v0] := by
    have : args.size = 1 := hargs
    match args, this with
    | ⟨[v0]⟩, _ => exact ⟨v0, rfl⟩
  have t0 := R.tm 0
  obtain ⟨a, n, c, hv, hn, hb, hc, hs⟩ : ∃ a n c, v0 = .slice a n c ∧ n = List.length (α := Int) l ∧ n * 8 ≤ big ∧ SlR w G 0 (.int .i64) l a c := t0
  subst hv
  have g0 : ∀ (d : D) id, get ((0, d) :: entrySt c62 ((), l, ())) (2 * id + 1) = .undef := by
    intro d id
    show get [(0, d), (0, D.sl 0 (.int .i64) l)] (2 * id + 1) = .undef
    have e0 : Nat.beq (2 * id + 1) 0 = false := nbeq_g (by omega)
    simp only [get, e0, cond_false]
  by_cases hl : l = []
  · subst hl
    cases a with
    | none =>
      refine f62_nil ?_
      have R1 := R.dst1 0 (by decide : 0 < 1) (d := .sl 2 (.int .i64) ([] : List Int)) (v := .slice none 0 0) ⟨none, 0, 0, rfl, rfl, by decide, .inl ⟨rfl, rfl, rfl⟩⟩ (fun b => rfl)
      exact hK #[.slice none 0 0] w G pt (R1.keep0 (g0 _))
    | some p =>
      have hn0 : n = 0 := hn
      subst hn0
      refine f62_empty ?_
      have R1 := R.newRow (e := 3) (fr := (0, 0)) { dst := some 0, op := .move (.tmp 0), type := 0, pos := "", after := #[], guard := none } (fun t ht => by cases ht; exact (by decide : 0 < 1)) (t := .int .i64) (l := ([] : List Int)) (cells := #[]) (c := 0)
        (fun i hi => by simp at hi) (Nat.zero_le _) (by simp) (fun o ho => by simp only; omega) (by simp) (by decide)
      exact hK #[.slice (some ⟨w.heap.size, 0, none⟩) 0 0] _ G pt (R1.keep0 (g0 _))
  · obtain ⟨b, o, rfl, ho, hr⟩ := hs.resolve_left hl
    have hpos : 0 < List.length (α := Int) l := List.length_pos_iff.2 hl
    unfold big at hb
    subst hn
    refine f62_cells hpos (by omega) (cells62 R.gz hl ho hr) fun k hk => ?_
    have R1 := R.newRow (e := 3) (fr := (0, 0)) { dst := some 0, op := .move (.tmp 0), type := 0, pos := "", after := #[], guard := none } (fun t ht => by cases ht; exact (by decide : 0 < 1)) (t := .int .i64) (l := ([] : List Int)) (cells := #[]) (c := 0)
        (fun i hi => by simp at hi) (Nat.zero_le _) (by simp) (fun o ho => by simp only; omega) (by simp) (by decide)
    have hsz : (w.alloc (.cells #[] 3)).heap.size = w.heap.size + 1 := by
      show (w.heap.push _).size = _
      rw [Array.size_push]
    have hcs : (((List.range l.length).map fun j => Value.int .i64 (l.getD j 0)).toArray ++ Builtin.zeroCells #[Value.int .i64 0] (k - l.length)).size = k := by
      simp only [Builtin.zeroCells, Array.size_append, Array.size_map, Array.size_range, List.size_toArray, List.length_map, List.length_range, List.length_cons, List.length_nil]
      omega
    have hE := alloc_ext (w := w) (G := G) (.cells #[] 3) R.gz
    have R2 := R1.newRow (e := 3) (fr := (0, 0)) { dst := some 0, op := .move (.tmp 0), type := 0, pos := "", after := #[], guard := none } (fun t ht => by cases ht; exact (by decide : 0 < 1)) (t := .int .i64) (l := l) (cells := ((List.range l.length).map fun j => Value.int .i64 (l.getD j 0)).toArray ++ Builtin.zeroCells #[Value.int .i64 0] (k - l.length)) (c := k)
        (fun i hi => by
          have h1 := (hr i hi).2
          have h2 : l.getD i 0 = l[i] := by rw [List.getD_eq_getElem?_getD, List.getElem?_eq_getElem hi]; rfl
          show (World.cell? _ ⟨(w.alloc (.cells #[] 3)).heap.size, 0 + i * 1, none⟩) = some (.int .i64 l[i]) ∧ _
          rw [cell_new]
          refine ⟨?_, h1⟩
          rw [Array.getElem?_append_left (by simp; omega)]
          rw [List.getElem?_toArray, List.getElem?_map, show 0 + i * 1 = i by omega, List.getElem?_range hi, Option.map_some, h2])
        hk (by rw [hcs]; simp [Ty.nc]) (fun o ho => by simp only; omega) (by show l.length * 8 ≤ 140737488355328; exact hb) (by decide)
    have R3 := R2.drew (w' := ((w.alloc (.cells #[] 3)).alloc (.cells (((List.range l.length).map fun j => Value.int .i64 (l.getD j 0)).toArray ++ Builtin.zeroCells #[Value.int .i64 0] (k - l.length)) 3)).drew) rfl rfl rfl rfl
    rw [hsz] at R3
    have g1 : ∀ id, get ((0, D.sl 2 (.int .i64) l) :: (0, D.sl 2 (.int .i64) ([] : List Int)) :: entrySt c62 ((), l, ())) (2 * id + 1) = .undef := by
      intro id
      show get [(0, _), (0, _), (0, D.sl 0 (.int .i64) l)] (2 * id + 1) = .undef
      have e0 : Nat.beq (2 * id + 1) 0 = false := nbeq_g (by omega)
      simp only [get, e0, cond_false]
    exact hK #[.slice (some ⟨w.heap.size + 1, 0, none⟩) l.length k] _ G pt (R3.keep0 g1)
theorem ok62 : FunOk Try.prog B 62 c62 := ⟨by decide, fun _ => sem62, fun x h => (by cases h), Try.f62, Try.func62, by kernel_rfl, by kernel_rfl⟩
end Go.Abs.C04
