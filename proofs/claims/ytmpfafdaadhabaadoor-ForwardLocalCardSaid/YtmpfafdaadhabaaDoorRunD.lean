/- Chapter 13 (forward): proved is that functions that the law reaches keep their contracts (bits, topologies, packets, tables); no conditions but those that each theorem states. -/
import Derived.Test.YtmpfafdaadhabaaDoorRunC
import Derived.Lib.TrailingZeros
set_option linter.unusedVariables false
set_option linter.unusedSimpArgs false
namespace Go.Abs.C13
open Go Go.Proofs Sp13 Sp13.Bt
set_option maxRecDepth 100000

def U (b : Int) : Prop := 0 ≤ b ∧ b < 18446744073709551616
theorem nat_of {b : Int} (h : U b) : ∃ m : Nat, b = m ∧ m < 2 ^ 64 := ⟨b.toNat, by have := h.1; omega, by have := h.2; omega⟩

theorem ones_mem {b : Int} {k : Nat} : k ∈ ones b ↔ k < 64 ∧ tb b k = true := by simp [ones]
theorem rankN_le (b : Int) (k : Nat) : rankN b k ≤ k := by
  unfold rankN
  have := List.length_filter_le (tb b) (List.range k)
  simpa using this
theorem ofN (n : Nat) : Int.ofNat n = (n : Int) := rfl
theorem uh {x : Int} (h : IntKind.u64.has x) : U x := has_u64 h
theorem utn {x : Int} (h : U x) : x.toNat < 2 ^ 64 := by have := h.1; have := h.2; omega
theorem band {x y : Int} (hx : U x) (hy : U y) : IntKind.wrap .u64 (Int.ofNat (BitVec.and (BitVec.ofInt 64 x) (BitVec.ofInt 64 y)).toNat) = ((x.toNat &&& y.toNat : Nat) : Int) := by
  have h : x.toNat &&& y.toNat < 2 ^ 64 := Nat.and_lt_two_pow _ (utn hy)
  rw [bvand hx.1 (by have := hx.2; omega) hy.1 (by have := hy.2; omega), ofN]
  exact wu64 (by omega) (by omega)
theorem bor {x y : Int} (hx : U x) (hy : U y) : IntKind.wrap .u64 (Int.ofNat (BitVec.or (BitVec.ofInt 64 x) (BitVec.ofInt 64 y)).toNat) = ((x.toNat ||| y.toNat : Nat) : Int) := by
  have h : x.toNat ||| y.toNat < 2 ^ 64 := Nat.or_lt_two_pow (utn hx) (utn hy)
  rw [bvor hx.1 (by have := hx.2; omega) hy.1 (by have := hy.2; omega), ofN]
  exact wu64 (by omega) (by omega)
theorem bxor {x y : Int} (hx : U x) (hy : U y) : IntKind.wrap .u64 (Int.ofNat (BitVec.xor (BitVec.ofInt 64 x) (BitVec.ofInt 64 y)).toNat) = ((x.toNat ^^^ y.toNat : Nat) : Int) := by
  have h : x.toNat ^^^ y.toNat < 2 ^ 64 := Nat.xor_lt_two_pow (utn hx) (utn hy)
  rw [bvxor hx.1 (by have := hx.2; omega) hy.1 (by have := hy.2; omega), ofN]
  exact wu64 (by omega) (by omega)
theorem bandn {x y : Int} (hx : U x) (hy : U y) : IntKind.wrap .u64 (Int.ofNat (BitVec.and (BitVec.ofInt 64 x) (BitVec.not (BitVec.ofInt 64 y))).toNat) = ((x.toNat &&& (18446744073709551615 - y.toNat) : Nat) : Int) := by
  have hy2 := utn hy
  have h : x.toNat &&& (18446744073709551615 - y.toNat) < 2 ^ 64 := Nat.and_lt_two_pow _ (by omega)
  have e : (BitVec.and (BitVec.ofInt 64 x) (BitVec.not (BitVec.ofInt 64 y))).toNat = x.toNat &&& (18446744073709551615 - y.toNat) := by
    show (BitVec.ofInt 64 x &&& ~~~ BitVec.ofInt 64 y).toNat = _
    rw [BitVec.toNat_and, BitVec.toNat_not, toNat_ofInt hx.1 (by have := hx.2; omega), toNat_ofInt hy.1 (by have := hy.2; omega)]
  rw [e, ofN]
  exact wu64 (by omega) (by omega)
theorem ucast {n : Nat} (h : n < 2 ^ 64) : U (n : Int) := ⟨by omega, by omega⟩


theorem pow_U {k : Nat} (h : k < 64) : U ((2 : Int) ^ k) := by
  rw [pow_cast]
  exact ucast (Nat.pow_lt_pow_right (by decide) h)
theorem bit1_U (k : Int) : U (bit1 k) := by
  unfold bit1
  by_cases h1 : k < 0
  · simp [h1, U]
  · by_cases h2 : 63 < k
    · simp [h2, U]
    · rw [decide_eq_false h1, decide_eq_false h2]
      exact pow_U (by omega)

theorem g17_ok (a0 : Int) (r0 : IntKind.i64.has a0) : g17 a0 = some (Sp13.Bt.bit1 a0, ()) := by
  unfold g17 Sp13.Bt.bit1
  simp only [gt_iff_lt]
  by_cases h1 : a0 < 0
  · rw [decide_eq_true h1]; rfl
  · by_cases h2 : 63 < a0
    · rw [decide_eq_false h1, decide_eq_true h2]; rfl
    · have e1 : IntKind.wrap .u64 a0 = a0 := wu64 (by omega) (by omega)
      have hp := pow_U (k := a0.toNat) (by omega)
      have e2 : IntKind.wrap .u64 ((2 : Int) ^ a0.toNat) = 2 ^ a0.toNat := wu64 hp.1 hp.2
      rw [decide_eq_false h1, decide_eq_false h2, e1, decide_eq_true (show (0 : Int) ≤ a0 by omega), show min a0.toNat 64 = a0.toNat by omega, pow2, Int.one_mul, e2]
      rfl

theorem or_full (i : Nat) : (2 ^ i - 1) ||| 2 ^ i = 2 ^ (i + 1) - 1 := by
  refine Nat.eq_of_testBit_eq fun j => ?_
  rw [Nat.testBit_or, Nat.testBit_two_pow_sub_one, Nat.testBit_two_pow, Nat.testBit_two_pow_sub_one]
  by_cases h1 : j < i
  · simp [h1]; omega
  · by_cases h2 : i = j
    · simp [h2]
    · have : ¬ j < i + 1 := by omega
      simp [h1, h2, this]
theorem full_loop (n : Nat) (hn : n ≤ 64) : Loop (g54_s0 (n : Int)) ((0 : Int), (0 : Int), ()) = some (((2 ^ n - 1 : Nat) : Int), ()) := by
  have key : ∀ k, k ≤ n → Loop (g54_s0 (n : Int)) (((n - k : Nat) : Int), ((2 ^ (n - k) - 1 : Nat) : Int), ()) = some (((2 ^ n - 1 : Nat) : Int), ()) := by
    intro k
    induction k with
    | zero =>
      intro _
      have c : ¬ ((n - 0 : Nat) : Int) < (n : Int) := by omega
      have hs : g54_s0 (n : Int) (((n - 0 : Nat) : Int), ((2 ^ (n - 0) - 1 : Nat) : Int), ()) = some (.inr (((2 ^ (n - 0) - 1 : Nat) : Int), ())) := by
        unfold g54_s0
        simp only [c, decide_false, cond_false]
      rw [Loop_step, hs]
      rfl
    | succ k ih =>
      intro hk
      have c : ((n - (k + 1) : Nat) : Int) < (n : Int) := by omega
      have e : IntKind.wrap .i64 (((n - (k + 1) : Nat) : Int) + 1) = ((n - k : Nat) : Int) := by rw [wi64 (by omega) (by omega)]; omega
      have hb : bit1 ((n - (k + 1) : Nat) : Int) = ((2 ^ (n - (k + 1)) : Nat) : Int) := by
        unfold bit1
        rw [decide_eq_false (by omega), decide_eq_false (by omega)]
        simp only [Bool.or_self, cond_false, Int.toNat_natCast]
        exact pow_cast _
      have hlt : 2 ^ (n - (k + 1)) < 2 ^ 64 := Nat.pow_lt_pow_right (by decide) (by omega)
      have hpos := Nat.two_pow_pos (n - (k + 1))
      have hs : g54_s0 (n : Int) (((n - (k + 1) : Nat) : Int), ((2 ^ (n - (k + 1)) - 1 : Nat) : Int), ()) = some (.inl (((n - k : Nat) : Int), ((2 ^ (n - k) - 1 : Nat) : Int), ())) := by
        unfold g54_s0
        simp only [c, decide_true, cond_true, e, hb]
        rw [bor (ucast (by omega)) (ucast hlt), Int.toNat_natCast, Int.toNat_natCast, or_full, show n - (k + 1) + 1 = n - k by omega]
      rw [Loop_step, hs]
      exact ih (by omega)
  have := key n (Nat.le_refl _)
  rw [Nat.sub_self] at this
  exact this
theorem full_nat {n : Int} (h : vlen n = true) : full n = ((2 ^ n.toNat - 1 : Nat) : Int) := by
  rcases vlen_iff.1 h with rfl | rfl | rfl | rfl <;> rfl

theorem g54_ok (a0 : Int) (r0 : IntKind.i64.has a0) : g54 a0 = some (Sp13.Bt.full a0, ()) := by
  unfold g54
  cases hv : vlen a0 with
  | false => unfold Sp13.Bt.full; rw [hv]; rfl
  | true =>
    have h1 := vlen_iff.1 hv
    rw [full_nat hv]
    obtain ⟨n, rfl⟩ : ∃ n : Nat, a0 = (n : Int) := ⟨a0.toNat, by omega⟩
    rw [full_loop n (by omega)]
    rfl

theorem U0 : U 0 := ⟨by decide, by decide⟩
theorem Um : U 18446744073709551615 := ⟨by decide, by decide⟩
theorem full_U (n : Int) : U (full n) := by
  cases hv : vlen n with
  | false => unfold full; rw [hv]; exact U0
  | true => rcases vlen_iff.1 hv with rfl | rfl | rfl | rfl <;> exact ⟨by decide, by decide⟩
theorem wu_mod (x : Int) : IntKind.wrap .u64 x = x.emod 18446744073709551616 := wu64m x
theorem emod_U (x : Int) : U (x.emod 18446744073709551616) := ⟨Int.emod_nonneg x (by decide), Int.emod_lt_of_pos x (by decide)⟩
theorem mod_U (x : Int) : U (x % 18446744073709551616) := emod_U x
theorem bitsV_U (t : Tp) (n : Int) : U (bitsV t n).1 := by
  unfold bitsV
  simp only
  cases decide ((next (raw (raw t).2).2 6).1 = 0) with
  | true => exact U0
  | false =>
    cases decide ((next (raw (raw t).2).2 6).1 = 1) with
    | true => exact bit1_U _
    | false =>
      cases decide ((next (raw (raw t).2).2 6).1 = 2) with
      | true => exact Um
      | false => exact ucast (Nat.xor_lt_two_pow (utn (mod_U _)) (utn (emod_U _)))

theorem g24_ok (a0 : (List Int)) (a1 : Int) (a2 : Int) (r0 : (Ty.sl (.int .i64)).ok a0) (r1 : IntKind.i64.has a1) (r2 : IntKind.i64.has a2) (h : (Sp13.wf (a0, a1, ())) = true) : g24 a0 a1 a2 = some (Sp13.Bt.bits (a0, a1, ()) a2) := by
  have w1 := raw_wf h
  have w2 := raw_wf w1
  have w3 := next_wf (n := 6) w2
  have hu := bitsV_U (a0, a1, ()) a2
  unfold g24 Sp13.Bt.bits
  rw [on_true h]
  simp only [Option.bind_some]
  rw [on_true w1]
  simp only [Option.bind_some]
  rw [on_true w2]
  simp only [Option.bind_some]
  rw [on_true w3]
  have hx : IntKind.wrap .u64 (Int.ofNat (BitVec.xor (BitVec.ofInt 64 (IntKind.wrap .u64 (IntKind.wrap .u64 (raw (a0, a1, ())).1 * 11400714819323198485))) (BitVec.ofInt 64 (IntKind.wrap .u64 (raw (raw (a0, a1, ())).2).1))).toNat) = (((Nat.xor ((raw (a0, a1, ())).1.emod 18446744073709551616 * 11400714819323198485 % 18446744073709551616).toNat ((raw (raw (a0, a1, ())).2).1.emod 18446744073709551616).toNat : Nat) : Int)) := by
    rw [wu_mod (raw (a0, a1, ())).1, wu_mod (raw (raw (a0, a1, ())).2).1, wu_mod (_ * 11400714819323198485), bxor (emod_U _) (emod_U _)]
    rfl
  rw [hx]
  have hs : ∀ v : Int, U v → IntKind.wrap .u64 (Int.ofNat (BitVec.and (BitVec.ofInt 64 v) (BitVec.ofInt 64 (full a2))).toNat) = Sp13.Bt.and v (full a2) := fun v hv => band hv (full_U a2)
  have hv : bitsV (a0, a1, ()) a2 = bif decide ((next (raw (raw (a0, a1, ())).2).2 6).1 = 0) then (0, (next (raw (raw (a0, a1, ())).2).2 6).2) else
      bif decide ((next (raw (raw (a0, a1, ())).2).2 6).1 = 1) then (bit1 (next (next (raw (raw (a0, a1, ())).2).2 6).2 a2).1, (next (next (raw (raw (a0, a1, ())).2).2 6).2 a2).2) else
      bif decide ((next (raw (raw (a0, a1, ())).2).2 6).1 = 2) then (18446744073709551615, (next (raw (raw (a0, a1, ())).2).2 6).2) else
      ((((Nat.xor ((raw (a0, a1, ())).1.emod 18446744073709551616 * 11400714819323198485 % 18446744073709551616).toNat ((raw (raw (a0, a1, ())).2).1.emod 18446744073709551616).toNat : Nat) : Int)), (next (raw (raw (a0, a1, ())).2).2 6).2) := rfl
  rw [hv] at hu ⊢
  revert hu
  cases decide ((next (raw (raw (a0, a1, ())).2).2 6).1 = 0) with
  | true => intro hu; simp only [cond_true, Option.bind_some] at hu ⊢; rw [hs _ hu]
  | false =>
    cases decide ((next (raw (raw (a0, a1, ())).2).2 6).1 = 1) with
    | true => intro hu; simp only [cond_true, cond_false, Option.bind_some] at hu ⊢; rw [hs _ hu]
    | false =>
      cases decide ((next (raw (raw (a0, a1, ())).2).2 6).1 = 2) with
      | true => intro hu; simp only [cond_true, cond_false, Option.bind_some] at hu ⊢; rw [hs _ hu]
      | false => intro hu; simp only [cond_false, Option.bind_some] at hu ⊢; rw [hs _ hu]
theorem clr_bit (k m i : Nat) : (2 ^ k * (2 * m + 1) &&& (2 ^ k * (2 * m + 1) - 1)).testBit i = ((2 ^ k * (2 * m + 1)).testBit i && decide (i ≠ k)) := by
  have hp := Nat.two_pow_pos k
  have e : 2 ^ k * (2 * m + 1) - 1 = 2 ^ k * (2 * m) + (2 ^ k - 1) := by
    rw [Nat.mul_add, Nat.mul_one]
    omega
  rw [Nat.testBit_and, e, Nat.testBit_two_pow_mul_add _ (by omega), Nat.testBit_two_pow_mul]
  by_cases h1 : i < k
  · have : ¬ i ≥ k := by omega
    simp [this]
  · rw [if_neg h1]
    by_cases h2 : i = k
    · subst h2; simp
    · obtain ⟨j, rfl⟩ : ∃ j, i = k + (j + 1) := ⟨i - k - 1, by omega⟩
      have e1 : k + (j + 1) - k = j + 1 := by omega
      have e2 : (2 * m + 1).testBit (j + 1) = m.testBit j := by rw [Nat.testBit_succ]; congr 1; omega
      have e3 : (2 * m).testBit (j + 1) = m.testBit j := by rw [Nat.testBit_succ]; congr 1; omega
      rw [e1, e2, e3]
      have : k + (j + 1) ≠ k := by omega
      simp [this]
theorem low_bit (k m i : Nat) : (2 ^ k * (2 * m + 1)).testBit i = true → k ≤ i := by
  rw [Nat.testBit_two_pow_mul]
  intro h
  simp at h
  exact h.1
theorem low_self (k m : Nat) : (2 ^ k * (2 * m + 1)).testBit k = true := by
  rw [Nat.testBit_two_pow_mul]
  simp
theorem filter_cut {p q : Nat → Bool} {k : Nat} (hp : p k = true) (hlt : ∀ i, i < k → p i = false) (hq : ∀ i, q i = (p i && decide (i ≠ k))) : ∀ m, k < m → (List.range m).filter p = k :: (List.range m).filter q
  | 0, h => by omega
  | m + 1, h => by
    rw [List.range_succ, List.filter_append, List.filter_append]
    by_cases hk : k = m
    · subst hk
      have e1 : (List.range k).filter p = [] := by
        rw [List.filter_eq_nil_iff]
        intro i hi
        rw [List.mem_range] at hi
        simp [hlt i hi]
      have e2 : (List.range k).filter q = [] := by
        rw [List.filter_eq_nil_iff]
        intro i hi
        rw [List.mem_range] at hi
        simp [hq, hlt i hi]
      rw [e1, e2]
      simp [hp, hq]
    · rw [filter_cut hp hlt hq m (by omega), List.cons_append]
      congr 2
      have : m ≠ k := fun h => hk h.symm
      by_cases hm : p m = true
      · simp [hm, hq, this]
      · simp [hm, hq]
def clr (b : Int) : Int := Sp13.Bt.and b (b - 1)
theorem ones_cons {b : Int} (hb : U b) (h : b ≠ 0) : ones b = Lib.ctz 64 b.toNat :: ones (clr b) ∧ Lib.ctz 64 b.toNat < 64 := by
  obtain ⟨n, rfl, hn⟩ := nat_of hb
  have h0 : 0 < n := by omega
  obtain ⟨m, h1, h2⟩ := Lib.ctzFrom_spec 64 n h0 hn
  have hc : Lib.ctz 64 n = Lib.ctzFrom 64 n := by unfold Lib.ctz; rw [if_neg (by omega)]
  simp only [Int.toNat_natCast]
  rw [hc]
  refine ⟨?_, h2⟩
  unfold ones
  refine filter_cut (k := Lib.ctzFrom 64 n) ?_ ?_ (fun i => ?_) 64 h2
  · show n.testBit _ = true
    conv => lhs; arg 1; rw [h1]
    exact low_self _ _
  · intro i hi
    show n.testBit i = false
    cases hq : n.testBit i with
    | false => rfl
    | true =>
      rw [h1] at hq
      have := low_bit _ _ _ hq
      omega
  · show (clr (n : Int)).toNat.testBit i = (n.testBit i && _)
    unfold clr Sp13.Bt.and
    rw [Int.toNat_natCast, Int.toNat_natCast, show ((n : Int) - 1).toNat = n - 1 by omega]
    have := clr_bit (Lib.ctzFrom 64 n) m i
    rw [← h1] at this
    exact this
theorem clr_run {b : Int} (hb : U b) (h : b ≠ 0) : IntKind.wrap .u64 (Int.ofNat (BitVec.and (BitVec.ofInt 64 b) (BitVec.ofInt 64 (IntKind.wrap .u64 (b - 1)))).toNat) = clr b ∧ U (clr b) := by
  have h1 := hb.1
  have h2 := hb.2
  have e : IntKind.wrap .u64 (b - 1) = b - 1 := wu64 (by omega) (by omega)
  have hu : U (b - 1) := ⟨by omega, by omega⟩
  rw [e, band hb hu]
  exact ⟨rfl, ucast (Nat.and_lt_two_pow _ (utn hu))⟩
theorem ones_zero : ones 0 = [] := by decide
theorem ones_len (b : Int) : (ones b).length ≤ 64 := rankN_le b 64
theorem list_get (b : Int) (i : Nat) (h : i < (ones b).length) : (list b).getD i 0 = (((ones b).getD i 0 : Nat) : Int) := by
  unfold list
  rw [List.getD_eq_getElem?_getD, List.getElem?_map, List.getD_eq_getElem?_getD, List.getElem?_eq_getElem h]
  rfl
theorem list_len (b : Int) : (list b).length = (ones b).length := by simp [list]
theorem nth0 {b : Int} (hb : U b) (h : b ≠ 0) : Sp13.Bt.nth b 0 = ((Lib.ctz 64 b.toNat : Nat) : Int) := by
  obtain ⟨h1, _⟩ := ones_cons hb h
  have hl : 0 < (ones b).length := by rw [h1]; simp
  unfold Sp13.Bt.nth
  have c : ¬ (((list b).length : Nat) : Int) ≤ 0 := by rw [list_len]; omega
  rw [decide_eq_false (show ¬ (0 : Int) < 0 by omega), decide_eq_false c]
  show (list b).getD 0 0 = _
  rw [list_get b 0 hl, h1]
  rfl

theorem tab_nat : ∀ i : Fin 64, ([0,1,56,2,57,49,28,3,61,58,42,50,38,29,17,4,62,47,59,36,45,43,51,22,53,39,33,30,24,18,12,5,63,55,48,27,60,41,37,16,46,35,44,21,52,32,23,11,54,26,40,15,34,20,31,10,25,14,19,9,13,8,7,6] : List Int).getD i.val 0 = ((Lib.deBruijn64tab.getD i.val 0 : Nat) : Int) := by decide +kernel

def tabL : List Int := [0,1,56,2,57,49,28,3,61,58,42,50,38,29,17,4,62,47,59,36,45,43,51,22,53,39,33,30,24,18,12,5,63,55,48,27,60,41,37,16,46,35,44,21,52,32,23,11,54,26,40,15,34,20,31,10,25,14,19,9,13,8,7,6]
def tz (q : Int) : Option (Int × Unit) := bif (decide (0 ≤ q)) && (decide (q < 64)) then (bif Nat.blt (0 + (Int.toNat q) * 1) 64 then some (IntKind.wrap .i64 (List.getD tabL (0 + (Int.toNat q) * 1) 0), ()) else none) else none
theorem tz_at {q : Nat} (h : q < 64) : tz (q : Int) = some (((Lib.deBruijn64tab.getD q 0 : Nat) : Int), ()) := by
  have ht : tabL.getD q 0 = ((Lib.deBruijn64tab.getD q 0 : Nat) : Int) := tab_nat ⟨q, h⟩
  have hb : ∀ i : Fin 64, Lib.deBruijn64tab.getD i.val 0 < 64 := by decide +kernel
  have hb := hb ⟨q, h⟩
  simp only at hb
  unfold tz
  rw [decide_eq_true (show (0 : Int) ≤ (q : Int) by omega), decide_eq_true (show (q : Int) < 64 by omega), Int.toNat_natCast, Nat.zero_add, Nat.mul_one, blt_t h, ht, wi64 (by omega) (by omega)]
  rfl
theorem tz_low {b : Int} (hb : U b) (h0 : b ≠ 0) : Int.fdiv (IntKind.wrap .u64 (IntKind.wrap .u64 (Int.ofNat (BitVec.and (BitVec.ofInt 64 b) (BitVec.ofInt 64 (IntKind.wrap .u64 (0 - b)))).toNat) * 285870213051353865)) 288230376151711744 = ((2 ^ Lib.ctz 64 b.toNat * 285870213051353865 % 18446744073709551616 / 288230376151711744 : Nat) : Int) := by
  obtain ⟨n, rfl, hn⟩ := nat_of hb
  obtain ⟨q1, q2⟩ := Lib.lowest_bit 64 n (by omega) hn
  have e1 : IntKind.wrap .u64 (0 - (n : Int)) = ((2 ^ 64 - n : Nat) : Int) := by rw [wu64m]; omega
  rw [e1, band hb (ucast (by omega)), Int.toNat_natCast, Int.toNat_natCast, q1, wu64m, Int.fdiv_eq_ediv_of_nonneg _ (by decide)]
  generalize 2 ^ Lib.ctz 64 n = q
  omega
theorem g73_short (a0 : Int) : g73 a0 = bif decide (a0 = 0) then some (64, ()) else tz (Int.fdiv (IntKind.wrap .u64 (IntKind.wrap .u64 (Int.ofNat (BitVec.and (BitVec.ofInt 64 a0) (BitVec.ofInt 64 (IntKind.wrap .u64 (0 - a0)))).toNat) * 285870213051353865)) 288230376151711744) := rfl

theorem g73_ok (a0 : Int) (r0 : IntKind.u64.has a0) (h : (!decide (a0 = 0)) = true) : g73 a0 = some (Sp13.Bt.nth a0 0, ()) := by
  have hb := uh r0
  have h0 : a0 ≠ 0 := by simpa using h
  obtain ⟨q3, q4⟩ := Lib.deBruijn64_at _ (ones_cons hb h0).2
  rw [g73_short, decide_eq_false h0, tz_low hb h0, tz_at q3, q4, nth0 hb h0]
  rfl

theorem g37_ok (a0 : Int) (r0 : IntKind.u64.has a0) : g37 a0 = some (Sp13.Bt.nth a0 0, ()) := by
  unfold g37
  by_cases h : a0 = 0
  · subst h
    rfl
  · rw [decide_eq_false h]
    rfl

theorem room64 {n : Nat} (h : n ≤ 64) : Nat.ble ((n + 1) * 8) 140737488355328 = true := ble_t (by omega)
theorem list_cons {b : Int} (hb : U b) (h : b ≠ 0) : list b = Sp13.Bt.nth b 0 :: list (clr b) := by
  rw [nth0 hb h]
  unfold list
  rw [(ones_cons hb h).1, List.map_cons]
theorem list_loop : ∀ (n : Nat) (acc : List Int) (b : Int), U b → (ones b).length = n → acc.length + n ≤ 64 → Loop g55_s0 (acc, b, ()) = some (acc ++ list b, ())
  | 0, acc, b, hb, hn, _ => by
    have h0 : b = 0 := by
      by_cases h : b = 0
      · exact h
      · have := (ones_cons hb h).1
        rw [this] at hn
        simp at hn
    subst h0
    rw [Loop_step]
    show some (acc, ()) = some (acc ++ list 0, ())
    unfold list
    rw [ones_zero]
    simp
  | n + 1, acc, b, hb, hn, hl => by
    have h0 : b ≠ 0 := by
      intro h
      subst h
      rw [ones_zero] at hn
      simp at hn
    obtain ⟨q1, q2⟩ := clr_run hb h0
    have hn2 : (ones (clr b)).length = n := by
      rw [(ones_cons hb h0).1, List.length_cons] at hn
      omega
    have hs : g55_s0 (acc, b, ()) = some (.inl (acc ++ [Sp13.Bt.nth b 0], clr b, ())) := by
      unfold g55_s0
      simp only [h0, decide_false, Bool.not_false, cond_true, room64 (n := acc.length) (by omega), q1]
    rw [Loop_step, hs]
    simp only
    rw [list_loop n _ _ q2 hn2 (by simp only [List.length_append, List.length_singleton]; omega), list_cons hb h0, List.append_assoc]
    rfl

theorem g55_ok (a0 : Int) (r0 : IntKind.u64.has a0) : g55 a0 = some (Sp13.Bt.list a0, ()) := by
  unfold g55
  rw [list_loop _ [] a0 (uh r0) rfl (by have := ones_len a0; simp only [List.length_nil]; omega)]
  rfl

theorem has_tb {b : Int} {k : Nat} (h : k < 64) : Bt.has b (k : Int) = tb b k := by
  unfold Bt.has
  rw [decide_eq_true (show (0 : Int) ≤ (k : Int) by omega), decide_eq_true (show (k : Int) < 64 by omega)]
  rfl
def listN (b : Int) (k : Nat) : List Int := ((List.range k).filter (tb b)).map fun (k : Nat) => (k : Int)
theorem listN_succ (b : Int) (k : Nat) : listN b (k + 1) = listN b k ++ (if tb b k then [(k : Int)] else []) := by
  unfold listN
  rw [List.range_succ, List.filter_append, List.map_append]
  congr 1
  by_cases h : tb b k = true <;> simp [h]
theorem listN_len (b : Int) (k : Nat) : (listN b k).length ≤ k := by
  unfold listN
  rw [List.length_map]
  exact rankN_le b k

theorem g16_ok (a0 : Int) (r0 : IntKind.u64.has a0) : g16 a0 = some (Sp13.Bt.list a0, ()) := by
  have key : ∀ k, k ≤ 64 → Loop (g16_s0 a0) (((64 - k : Nat) : Int), listN a0 (64 - k), ()) = some (listN a0 64, ()) := by
    intro k
    induction k with
    | zero => intro _; rw [Loop_step]; rfl
    | succ k ih =>
      intro hk
      have c : ((64 - (k + 1) : Nat) : Int) < 64 := by omega
      have e : IntKind.wrap .i64 (((64 - (k + 1) : Nat) : Int) + 1) = ((64 - k : Nat) : Int) := by rw [wi64 (by omega) (by omega)]; omega
      have hl := listN_len a0 (64 - (k + 1))
      have hs : g16_s0 a0 (((64 - (k + 1) : Nat) : Int), listN a0 (64 - (k + 1)), ()) = some (.inl (((64 - k : Nat) : Int), listN a0 (64 - k), ())) := by
        have e2 : 64 - k = 64 - (k + 1) + 1 := by omega
        unfold g16_s0
        rw [e2, listN_succ, ← e2]
        simp only [c, decide_true, cond_true, has_tb (b := a0) (show 64 - (k + 1) < 64 by omega), room64 (n := (listN a0 (64 - (k + 1))).length) (by omega), e]
        cases tb a0 (64 - (k + 1)) <;> simp
      rw [Loop_step, hs]
      exact ih (by omega)
  have h := key 64 (Nat.le_refl _)
  unfold g16
  have h' : Loop (g16_s0 a0) ((0 : Int), [], ()) = some (listN a0 64, ()) := h
  rw [h']
  rfl

def wa (x y : Int) : Int := IntKind.wrap .u64 (Int.ofNat (BitVec.and (BitVec.ofInt 64 x) (BitVec.ofInt 64 y)).toNat)
theorem wa_nat {x y : Nat} (hx : x < 2 ^ 64) (hy : y < 2 ^ 64) : wa (x : Int) (y : Int) = ((x &&& y : Nat) : Int) := band (ucast hx) (ucast hy)
theorem fd (x d : Nat) : Int.fdiv (x : Int) (d : Int) = ((x / d : Nat) : Int) := by
  rw [Int.fdiv_eq_ediv_of_nonneg _ (by omega), ← Int.natCast_ediv]
theorem bit_and {x : Int} (hx : U x) (i : Nat) : IntKind.wrap .u64 (Int.ofNat (BitVec.and (BitVec.ofInt 64 (Int.fdiv x (2 ^ i))) (BitVec.ofInt 64 1)).toNat) = (((tb x i).toNat : Nat) : Int) := by
  obtain ⟨n, rfl, hn⟩ := nat_of hx
  have h1 : n / 2 ^ i < 2 ^ 64 := Nat.lt_of_le_of_lt (Nat.div_le_self _ _) hn
  have e : Int.fdiv (n : Int) (2 ^ i) = ((n / 2 ^ i : Nat) : Int) := by rw [pow_cast, fd]
  have a1 := wa_nat (x := n / 2 ^ i) (y := 1) h1 (by decide)
  simp only [Int.cast_ofNat_Int] at a1
  unfold wa at a1
  rw [e, a1, Nat.and_one_is_mod]
  unfold tb
  rw [Int.toNat_natCast, Nat.testBit_eq_decide_div_mod_eq]
  by_cases h : n / 2 ^ i % 2 = 1
  · rw [h]; rfl
  · have : n / 2 ^ i % 2 = 0 := by omega
    rw [this]; rfl
theorem g48_ok (a0 : Int) (a1 : Int) (r0 : IntKind.u64.has a0) (r1 : IntKind.i64.has a1) : g48 a0 a1 = some (Sp13.Bt.has a0 a1, ()) := by
  have hx := uh r0
  unfold g48 Sp13.Bt.has
  simp only [ge_iff_le]
  by_cases h1 : 0 ≤ a1
  · by_cases h2 : a1 < 64
    · obtain ⟨k, rfl⟩ : ∃ k : Nat, a1 = (k : Int) := ⟨a1.toNat, by omega⟩
      have e : IntKind.wrap .u64 (k : Int) = (k : Int) := wu64 (by omega) (by omega)
      rw [decide_eq_true h1, decide_eq_true h2, e, decide_eq_true h1, Int.toNat_natCast, show min k 64 = k by omega, pow2, bit_and hx]
      simp only [cond_true, Option.bind_some, Bool.true_and]
      cases tb a0 k <;> rfl
    · rw [decide_eq_true h1, decide_eq_false h2]
      rfl
  · rw [decide_eq_false h1]
    rfl

end Go.Abs.C13

namespace Go.Abs.C13
open Go Go.Proofs Sp13
set_option maxRecDepth 100000
theorem len_rt {l : List Rt} (h : (Ty.sl rtT).ok l) : l.length ≤ 8796093022208 := by
  have h : l.length * 16 ≤ 140737488355328 := h.1
  omega
theorem len_lk {l : List Lk} (h : (Ty.sl lkT).ok l) : l.length ≤ 8796093022208 := by
  have h : l.length * 40 ≤ 140737488355328 := h.1
  omega
theorem cond_some {α : Type} (b : Bool) (x y : α) : (bif b then some x else some y) = some (bif b then x else y) := by cases b <;> rfl
theorem getD_ix {α : Type} {l : List α} {d : α} {i : Nat} (h : i < l.length) : l.getD i d = l[i] := by
  rw [List.getD_eq_getElem?_getD, List.getElem?_eq_getElem h]
  rfl
theorem any_upR (l : List Rt) : (List.range l.length).any (fun i => decide (0 < i) && decide ((l.getD (i - 1) zR).1 ≥ (l.getD i zR).1)) = !upR l := by
  unfold upR
  rw [Bool.eq_iff_iff, List.any_eq_true]
  simp only [Bool.not_eq_true', Bool.and_eq_true, decide_eq_true_eq, List.mem_range]
  rw [Bool.eq_false_iff, ne_eq, List.all_eq_true]
  constructor
  · rintro ⟨i, h1, h2, h3⟩ hc
    have := of_decide_eq_true (hc (i - 1) (List.mem_range.2 (by omega)))
    rw [show i - 1 + 1 = i by omega] at this
    omega
  · intro hc
    refine Classical.byContradiction fun hn => hc fun i hi => ?_
    have hi := List.mem_range.1 hi
    refine decide_eq_true ?_
    refine Classical.byContradiction fun h2 => hn ⟨i + 1, by omega, by omega, ?_⟩
    rw [show i + 1 - 1 = i by omega]
    omega
theorem any_upL (l : List Lk) : (List.range l.length).any (fun i => decide (0 < i) && !lessL (l.getD (i - 1) zL) (l.getD i zL)) = !upL l := by
  unfold upL
  rw [Bool.eq_iff_iff, List.any_eq_true]
  simp only [Bool.not_eq_true', Bool.and_eq_true, decide_eq_true_eq, List.mem_range]
  rw [Bool.eq_false_iff, ne_eq, List.all_eq_true]
  constructor
  · rintro ⟨i, h1, h2, h3⟩ hc
    have := hc (i - 1) (List.mem_range.2 (by omega))
    rw [show i - 1 + 1 = i by omega, h3] at this
    cases this
  · intro hc
    refine Classical.byContradiction fun hn => hc fun i hi => ?_
    have hi := List.mem_range.1 hi
    refine Classical.byContradiction fun h2 => hn ⟨i + 1, by omega, by omega, ?_⟩
    rw [show i + 1 - 1 = i by omega]
    exact Bool.eq_false_iff.2 h2
theorem g98_ok (a0 : Int) (r0 : IntKind.i64.has a0) : g98 a0 = some (Sp13.inside a0 1 1000, ()) := by
  unfold g98 Sp13.inside
  show (Option.bind (bif decide (1 ≤ a0) then some (decide (a0 ≤ 1000), ()) else some (false, ())) fun y3 => some y3) = _
  cases decide (1 ≤ a0) <;> rfl
theorem first_loop {α β : Type} (f : (Int × Unit) → Option (Sum (Int × Unit) (Bool × (β × Unit)))) (l : List α) (d : α) (hit : α → Option β) (z : β)
    (hs : ∀ i : Nat, i < l.length → f ((i : Int), ()) = some (match hit (l.getD i d) with | some v => .inr (true, (v, ())) | none => .inl (((i + 1 : Nat) : Int), ())))
    (he : f ((l.length : Int), ()) = some (.inr (false, (z, ())))) : Loop f ((0 : Int), ()) = some (match l.findSome? hit with | some v => (true, (v, ())) | none => (false, (z, ()))) := by
  have key : ∀ j k, k + j = l.length → Loop f ((k : Int), ()) = some (match (l.drop k).findSome? hit with | some v => (true, (v, ())) | none => (false, (z, ()))) := by
    intro j
    induction j with
    | zero =>
      intro k hk
      have hk : k = l.length := by omega
      subst hk
      rw [Loop_step, he, List.drop_length]
      rfl
    | succ j ih =>
      intro k hk
      have hlt : k < l.length := by omega
      rw [Loop_step, hs k hlt, List.drop_eq_getElem_cons hlt, List.findSome?_cons, getD_ix hlt]
      cases hit l[k] with
      | some v => rfl
      | none => exact ih (k + 1) (by omega)
  exact key l.length 0 (by omega)
theorem scan1 {ρ : Type} (f : (Int × Unit) → Option (Sum (Int × Unit) ρ)) (n : Nat) (bad : Nat → Bool) (R1 R0 : ρ)
    (h1 : ∀ i : Nat, 1 ≤ i → i < n → f ((i : Int), ()) = some (bif bad i then .inr R1 else .inl (((i + 1 : Nat) : Int), ())))
    (h0 : ∀ i : Nat, n ≤ i → i ≤ n + 1 → f ((i : Int), ()) = some (.inr R0)) : Loop f ((1 : Int), ()) = some (bif (List.range n).any (fun i => decide (0 < i) && bad i) then R1 else R0) := by
  have key : ∀ j k, k + j = n → 1 ≤ k → (∀ i, 0 < i → i < k → bad i = false) → Loop f ((k : Int), ()) = some (bif (List.range n).any (fun i => decide (0 < i) && bad i) then R1 else R0) := by
    intro j
    induction j with
    | zero =>
      intro k hk hk1 hn
      have hk : k = n := by omega
      subst hk
      rw [Loop_step, h0 k (Nat.le_refl _) (by omega)]
      have : (List.range k).any (fun i => decide (0 < i) && bad i) = false := by
        rw [Bool.eq_false_iff]
        intro h
        obtain ⟨x, hx, hp⟩ := List.any_eq_true.1 h
        simp only [Bool.and_eq_true, decide_eq_true_eq] at hp
        rw [hn x hp.1 (List.mem_range.1 hx)] at hp
        cases hp.2
      rw [this]
      rfl
    | succ j ih =>
      intro k hk hk1 hn
      rw [Loop_step, h1 k hk1 (by omega)]
      cases hb : bad k with
      | true =>
        have : (List.range n).any (fun i => decide (0 < i) && bad i) = true := List.any_eq_true.2 ⟨k, List.mem_range.2 (by omega), by rw [hb, decide_eq_true (show 0 < k by omega)]; rfl⟩
        rw [this]
        rfl
      | false =>
        refine ih (k + 1) (by omega) (by omega) fun i hi hik => ?_
        by_cases h : i = k
        · rw [h]; exact hb
        · exact hn i hi (by omega)
  by_cases hn : 1 ≤ n
  · exact key (n - 1) 1 (by omega) (Nat.le_refl _) (fun i h1 h2 => by omega)
  · have : n = 0 := by omega
    subst this
    rw [Loop_step]
    have := h0 1 (by omega) (by omega)
    have this : f ((1 : Int), ()) = _ := this
    rw [this]
    rfl
theorem g99_ok (a0 : (List (Int × (Bool × Unit)))) (a1 : (List Sp13.Lk)) (a2 : Int) (r0 : (Ty.sl (rtT)).ok a0) (r1 : (Ty.sl (lkT)).ok a1) (r2 : IntKind.i64.has a2) : g99 a0 a1 a2 = some (Sp13.hasR a0 a2, ()) := by
  have hl := len_rt r0
  have h := first_loop (g99_s0 a0 a2) a0 (0, false, ()) (fun r => bif decide (r.1 = a2) then some (true, ()) else none) (false, ()) (fun i hi => by
    unfold g99_s0
    simp only [Int.ofNat_eq_natCast, Int.toNat_natCast]
    rw [decide_eq_true (show (i : Int) < (a0.length : Int) by omega), decide_eq_true (show (0 : Int) ≤ (i : Int) by omega), wi64 (n := (i : Int) + 1) (by omega) (by omega)]
    cases decide ((a0.getD i (0, false, ())).1 = a2) <;> rfl) (by
    unfold g99_s0
    simp only [Int.ofNat_eq_natCast]
    rw [decide_eq_false (show ¬ (a0.length : Int) < (a0.length : Int) by omega)]
    rfl)
  unfold g99
  rw [h]
  clear h r0 hl
  induction a0 with
  | nil => rfl
  | cons x r ih =>
    rw [List.findSome?_cons]
    show _ = some ((decide (x.1 = a2) || Sp13.hasR r a2), ())
    cases decide (x.1 = a2) with
    | true => rfl
    | false => exact ih
theorem order1 (l : List Rt) (hl : l.length ≤ 8796093022208) : Loop (g85_s1 l) ((1 : Int), ()) = some (bif !upR l then (true, ((25, ()), ())) else (false, ((0, ()), ()))) := by
  rw [← any_upR]
  refine scan1 (g85_s1 l) l.length _ _ _ (fun k h0 hlt => ?_) (fun i hi hi2 => ?_)
  · have e1 : IntKind.wrap .i64 ((k : Int) - 1) = ((k - 1 : Nat) : Int) := by rw [wi64 (by omega) (by omega)]; omega
    have e2 : IntKind.wrap .i64 ((k : Int) + 1) = ((k + 1 : Nat) : Int) := by rw [wi64 (by omega) (by omega)]; omega
    unfold g85_s1
    simp only [Int.ofNat_eq_natCast, Int.toNat_natCast, e1, e2]
    rw [decide_eq_true (show (k : Int) < (l.length : Int) by omega), decide_eq_true (show (0 : Int) ≤ ((k - 1 : Nat) : Int) by omega), decide_eq_true (show ((k - 1 : Nat) : Int) < (l.length : Int) by omega), decide_eq_true (show (0 : Int) ≤ (k : Int) by omega)]
    simp only [Bool.and_self, cond_true]
    exact cond_some _ _ _
  · unfold g85_s1
    simp only [Int.ofNat_eq_natCast]
    rw [decide_eq_false (show ¬ (i : Int) < (l.length : Int) by omega)]
    rfl
theorem order2 (l : List Lk) (hl : l.length ≤ 8796093022208) : Loop (g85_s5 l) ((1 : Int), ()) = some (bif !upL l then (true, ((25, ()), ())) else (false, ((0, ()), ()))) := by
  rw [← any_upL]
  refine scan1 (g85_s5 l) l.length _ _ _ (fun k h0 hlt => ?_) (fun i hi hi2 => ?_)
  · have e1 : IntKind.wrap .i64 ((k : Int) - 1) = ((k - 1 : Nat) : Int) := by rw [wi64 (by omega) (by omega)]; omega
    have e2 : IntKind.wrap .i64 ((k : Int) + 1) = ((k + 1 : Nat) : Int) := by rw [wi64 (by omega) (by omega)]; omega
    unfold g85_s5
    simp only [Int.ofNat_eq_natCast, Int.toNat_natCast, e1, e2]
    rw [decide_eq_true (show (k : Int) < (l.length : Int) by omega), decide_eq_true (show (0 : Int) ≤ ((k - 1 : Nat) : Int) by omega), decide_eq_true (show ((k - 1 : Nat) : Int) < (l.length : Int) by omega), decide_eq_true (show (0 : Int) ≤ (k : Int) by omega)]
    simp only [Bool.and_self, cond_true]
    have hb : ∀ a b : Lk, Option.bind (bif !decide (a.1 > b.1) then (bif decide (a.1 = b.1) then some (decide (a.2.1 ≥ b.2.1), ()) else some (false, ())) else some (true, ())) (fun y2 : Bool × Unit => bif y2.1 then some (Sum.inr (true, (((25 : Int), ()), ()))) else some (Sum.inl (((k + 1 : Nat) : Int), ()))) =
        some (bif !lessL a b then (Sum.inr (true, (((25 : Int), ()), ())) : Sum (Int × Unit) (Bool × ((Int × Unit) × Unit))) else Sum.inl (((k + 1 : Nat) : Int), ())) := by
      intro a b
      unfold lessL
      by_cases h1 : a.1 < b.1
      · rw [decide_eq_true h1, decide_eq_false (show ¬ a.1 > b.1 by omega), decide_eq_false (show ¬ a.1 = b.1 by omega)]; rfl
      by_cases h2 : a.1 > b.1
      · rw [decide_eq_false h1, decide_eq_true h2, decide_eq_false (show ¬ a.1 = b.1 by omega)]; rfl
      rw [decide_eq_false h1, decide_eq_false h2, decide_eq_true (show a.1 = b.1 by omega)]
      by_cases h3 : a.2.1 < b.2.1
      · rw [decide_eq_true h3, decide_eq_false (show ¬ a.2.1 ≥ b.2.1 by omega)]; rfl
      · rw [decide_eq_false h3, decide_eq_true (show a.2.1 ≥ b.2.1 by omega)]; rfl
    exact hb _ _
  · unfold g85_s5
    simp only [Int.ofNat_eq_natCast]
    rw [decide_eq_false (show ¬ (i : Int) < (l.length : Int) by omega)]
    rfl
theorem scan0 {α ρ : Type} (f : (Int × Unit) → Option (Sum (Int × Unit) ρ)) (l : List α) (d : α) (bad : α → Bool) (R1 R0 : ρ)
    (h1 : ∀ i : Nat, i < l.length → f ((i : Int), ()) = some (bif bad (l.getD i d) then .inr R1 else .inl (((i + 1 : Nat) : Int), ())))
    (h0 : f ((l.length : Int), ()) = some (.inr R0)) : Loop f ((0 : Int), ()) = some (bif l.any bad then R1 else R0) :=
  Loop_scan l d bad R1 R0 (fun i hi hlt => by
    obtain ⟨k, rfl⟩ : ∃ n : Nat, i = n := ⟨i.toNat, by omega⟩
    rw [h1 k (by omega), Int.toNat_natCast]
    rfl) h0
theorem g85_ok (a0 : (List (Int × (Bool × Unit)))) (a1 : (List Sp13.Lk)) (r0 : (Ty.sl (rtT)).ok a0) (r1 : (Ty.sl (lkT)).ok a1) : g85 a0 a1 = some (Sp13.chkT (a0, a1, ()), ()) := by
  have h1 := len_rt r0
  have h2 := len_lk r1
  have l0 : Loop (g85_s0 a0) ((0 : Int), ()) = some (bif a0.any badR then (true, ((2, ()), ())) else (false, ((0, ()), ()))) := by
    refine scan0 _ a0 (0, false, ()) badR _ _ (fun k hk => ?_) ?_
    · have e2 : IntKind.wrap .i64 ((k : Int) + 1) = ((k + 1 : Nat) : Int) := by rw [wi64 (by omega) (by omega)]; omega
      unfold g85_s0 badR Sp13.inside
      simp only [Int.ofNat_eq_natCast, Int.toNat_natCast, e2]
      rw [decide_eq_true (show (k : Int) < (a0.length : Int) by omega), decide_eq_true (show (0 : Int) ≤ (k : Int) by omega)]
      simp only [Bool.and_self, cond_true]
      by_cases q1 : (a0.getD k (0, false, ())).1 < 1
      · rw [decide_eq_true q1, decide_eq_false (show ¬ 1 ≤ (a0.getD k (0, false, ())).1 by omega)]; rfl
      by_cases q2 : (a0.getD k (0, false, ())).1 > 99
      · rw [decide_eq_false q1, decide_eq_true q2, decide_eq_true (show 1 ≤ (a0.getD k (0, false, ())).1 by omega), decide_eq_false (show ¬ (a0.getD k (0, false, ())).1 ≤ 99 by omega)]; rfl
      · rw [decide_eq_false q1, decide_eq_false q2, decide_eq_true (show 1 ≤ (a0.getD k (0, false, ())).1 by omega), decide_eq_true (show (a0.getD k (0, false, ())).1 ≤ 99 by omega)]; rfl
    · unfold g85_s0
      simp only [Int.ofNat_eq_natCast]
      rw [decide_eq_false (show ¬ (a0.length : Int) < (a0.length : Int) by omega)]
      rfl
  have l2 : Loop (g85_s2 a1) ((0 : Int), ()) = some (bif a1.any badK then (true, ((2, ()), ())) else (false, ((0, ()), ()))) := by
    refine scan0 _ a1 (0, 0, 0, 0, 0, ()) badK _ _ (fun k hk => ?_) ?_
    · have e2 : IntKind.wrap .i64 ((k : Int) + 1) = ((k + 1 : Nat) : Int) := by rw [wi64 (by omega) (by omega)]; omega
      have hb : ∀ x : Lk, badK x = (!Sp13.inside x.2.2.1 1 1000 || !Sp13.inside x.2.2.2.1 1 1000 || (decide (x.2.2.2.2.1 < 0) || decide (x.2.2.2.2.1 > 1000))) := by
        intro x
        unfold badK Sp13.inside
        congr 1
        by_cases q1 : x.2.2.2.2.1 < 0
        · rw [decide_eq_true q1, decide_eq_false (show ¬ 0 ≤ x.2.2.2.2.1 by omega)]; rfl
        by_cases q2 : x.2.2.2.2.1 > 1000
        · rw [decide_eq_false q1, decide_eq_true q2, decide_eq_true (show 0 ≤ x.2.2.2.2.1 by omega), decide_eq_false (show ¬ x.2.2.2.2.1 ≤ 1000 by omega)]; rfl
        · rw [decide_eq_false q1, decide_eq_false q2, decide_eq_true (show 0 ≤ x.2.2.2.2.1 by omega), decide_eq_true (show x.2.2.2.2.1 ≤ 1000 by omega)]; rfl
      unfold g85_s2
      simp only [Int.ofNat_eq_natCast, Int.toNat_natCast, e2]
      rw [decide_eq_true (show (k : Int) < (a1.length : Int) by omega), decide_eq_true (show (0 : Int) ≤ (k : Int) by omega), hb]
      cases Sp13.inside (a1.getD k (0, 0, 0, 0, 0, ())).2.2.1 1 1000 with
      | false => rfl
      | true =>
      cases Sp13.inside (a1.getD k (0, 0, 0, 0, 0, ())).2.2.2.1 1 1000 with
      | false => rfl
      | true =>
      cases decide ((a1.getD k (0, 0, 0, 0, 0, ())).2.2.2.2.1 < 0) with
      | true => rfl
      | false => cases decide ((a1.getD k (0, 0, 0, 0, 0, ())).2.2.2.2.1 > 1000) <;> rfl
    · unfold g85_s2
      simp only [Int.ofNat_eq_natCast]
      rw [decide_eq_false (show ¬ (a1.length : Int) < (a1.length : Int) by omega)]
      rfl
  have l3 : Loop (g85_s3 a0 a1) ((0 : Int), ()) = some (bif a1.any (fun l => !Sp13.hasR a0 l.1 || !Sp13.hasR a0 l.2.1) then (true, ((4, ()), ())) else (false, ((0, ()), ()))) := by
    refine scan0 _ a1 (0, 0, 0, 0, 0, ()) _ _ _ (fun k hk => ?_) ?_
    · have e2 : IntKind.wrap .i64 ((k : Int) + 1) = ((k + 1 : Nat) : Int) := by rw [wi64 (by omega) (by omega)]; omega
      unfold g85_s3
      simp only [Int.ofNat_eq_natCast, Int.toNat_natCast, e2]
      rw [decide_eq_true (show (k : Int) < (a1.length : Int) by omega), decide_eq_true (show (0 : Int) ≤ (k : Int) by omega)]
      cases Sp13.hasR a0 (a1.getD k (0, 0, 0, 0, 0, ())).1 with
      | false => rfl
      | true => cases Sp13.hasR a0 (a1.getD k (0, 0, 0, 0, 0, ())).2.1 <;> rfl
    · unfold g85_s3
      simp only [Int.ofNat_eq_natCast]
      rw [decide_eq_false (show ¬ (a1.length : Int) < (a1.length : Int) by omega)]
      rfl
  have l4 : Loop (g85_s4 a1) ((0 : Int), ()) = some (bif a1.any down then (true, ((8, ()), ())) else (false, ((0, ()), ()))) := by
    refine scan0 _ a1 (0, 0, 0, 0, 0, ()) down _ _ (fun k hk => ?_) ?_
    · have e2 : IntKind.wrap .i64 ((k : Int) + 1) = ((k + 1 : Nat) : Int) := by rw [wi64 (by omega) (by omega)]; omega
      unfold g85_s4
      simp only [Int.ofNat_eq_natCast, Int.toNat_natCast, e2]
      rw [decide_eq_true (show (k : Int) < (a1.length : Int) by omega), decide_eq_true (show (0 : Int) ≤ (k : Int) by omega)]
      simp only [Bool.and_self, cond_true]
      exact cond_some _ _ _
    · unfold g85_s4
      simp only [Int.ofNat_eq_natCast]
      rw [decide_eq_false (show ¬ (a1.length : Int) < (a1.length : Int) by omega)]
      rfl
  unfold g85 chkT
  rw [l0, order1 a0 h1, l2, l3, l4, order2 a1 h2]
  have e1 : decide (Int.ofNat a0.length > 24) = decide (24 < a0.length) := decide_eq_decide.2 (by simp only [Int.ofNat_eq_natCast]; omega)
  have e2 : decide (Int.ofNat a1.length > 60) = decide (60 < a1.length) := decide_eq_decide.2 (by simp only [Int.ofNat_eq_natCast]; omega)
  rw [e1, e2]
  simp only
  cases decide (24 < a0.length) with
  | true => rfl
  | false =>
  cases decide (60 < a1.length) with
  | true => rfl
  | false =>
  simp only [Bool.not_false, cond_true, Option.bind_some, cond_false, Bool.or_self]
  cases a0.any badR with
  | true => rfl
  | false =>
  cases upR a0 with
  | false => rfl
  | true =>
  cases a1.any badK with
  | true => rfl
  | false =>
  cases a1.any (fun l => !Sp13.hasR a0 l.1 || !Sp13.hasR a0 l.2.1) with
  | true => rfl
  | false =>
  cases a1.any down with
  | true => rfl
  | false =>
  cases upL a1 <;> rfl
theorem g104_ok (a0 : (List (Int × (Bool × Unit)))) (a1 : (List Sp13.Lk)) (a2 : Int) (r0 : (Ty.sl (rtT)).ok a0) (r1 : (Ty.sl (lkT)).ok a1) (r2 : IntKind.i64.has a2) : g104 a0 a1 a2 = some (Sp13.hasT (a0, a1, ()) a2, ()) := by
  unfold g104 hasT okT
  cases decide (chkT (a0, a1, ()) = 0) <;> rfl
theorem g101_ok (a0 : (List (Int × (Bool × Unit)))) (a1 : (List Sp13.Lk)) (a2 : Int) (r0 : (Ty.sl (rtT)).ok a0) (r1 : (Ty.sl (lkT)).ok a1) (r2 : IntKind.i64.has a2) : g101 a0 a1 a2 = some (Sp13.capT (a0, a1, ()) a2, ()) := by
  have hl := len_rt r0
  have h := first_loop (g101_s0 a0 a2) a0 (0, false, ()) (fun r => bif decide (r.1 = a2) then some r.2 else none) (false, ()) (fun i hi => by
    unfold g101_s0
    simp only [Int.ofNat_eq_natCast, Int.toNat_natCast]
    rw [decide_eq_true (show (i : Int) < (a0.length : Int) by omega), decide_eq_true (show (0 : Int) ≤ (i : Int) by omega), wi64 (n := (i : Int) + 1) (by omega) (by omega)]
    cases decide ((a0.getD i (0, false, ())).1 = a2) <;> rfl) (by
    unfold g101_s0
    simp only [Int.ofNat_eq_natCast]
    rw [decide_eq_false (show ¬ (a0.length : Int) < (a0.length : Int) by omega)]
    rfl)
  unfold g101 capT okT
  rw [h]
  have hf : ∀ l : List Rt, Option.bind (some (match l.findSome? (fun r => bif decide (r.1 = a2) then some r.2 else none) with | some v => (true, (v, ())) | none => (false, ((false, ()), ())))) (fun y3 : Bool × ((Bool × Unit) × Unit) => bif y3.1 then some y3.2.1 else some (false, ())) = some (capR l a2, ()) := by
    intro l
    induction l with
    | nil => rfl
    | cons x r ih =>
      rw [List.findSome?_cons]
      unfold capR
      rw [List.findIdx_cons]
      by_cases hx : x.1 = a2
      · simp only [decide_eq_true hx, cond_true]
        rfl
      · simp only [decide_eq_false hx, cond_false]
        exact ih
  cases decide (chkT (a0, a1, ()) = 0) with
  | false => rfl
  | true =>
    refine Eq.trans ?_ (hf a0)
    cases a0.findSome? (fun r => bif decide (r.1 = a2) then some r.2 else none) <;> rfl
theorem g111_ok (a0 : (List (Int × (Bool × Unit)))) (a1 : (List Sp13.Lk)) (a2 : Int) (a3 : Int) (r0 : (Ty.sl (rtT)).ok a0) (r1 : (Ty.sl (lkT)).ok a1) (r2 : IntKind.i64.has a2) (r3 : IntKind.i64.has a3) : g111 a0 a1 a2 a3 = some (Sp13.price a1 a2 a3, ()) := by
  have hl := len_lk r1
  have h := first_loop (g111_s0 a1 a2 a3) a1 (0, 0, 0, 0, 0, ()) (fun l => bif decide (l.1 = a2) && decide (l.2.1 = a3) then some (true, (l.2.2.1, ())) else bif decide (l.2.1 = a2) && decide (l.1 = a3) then some (true, (l.2.2.2.1, ())) else none) (false, (0, ())) (fun i hi => by
    unfold g111_s0
    simp only [Int.ofNat_eq_natCast, Int.toNat_natCast]
    rw [decide_eq_true (show (i : Int) < (a1.length : Int) by omega), decide_eq_true (show (0 : Int) ≤ (i : Int) by omega), wi64 (n := (i : Int) + 1) (by omega) (by omega)]
    cases decide ((a1.getD i (0, 0, 0, 0, 0, ())).1 = a2) <;> cases decide ((a1.getD i (0, 0, 0, 0, 0, ())).2.1 = a3) <;> cases decide ((a1.getD i (0, 0, 0, 0, 0, ())).2.1 = a2) <;> cases decide ((a1.getD i (0, 0, 0, 0, 0, ())).1 = a3) <;> rfl) (by
    unfold g111_s0
    simp only [Int.ofNat_eq_natCast]
    rw [decide_eq_false (show ¬ (a1.length : Int) < (a1.length : Int) by omega)]
    rfl)
  unfold g111
  rw [h]
  clear h r1 hl
  induction a1 with
  | nil => rfl
  | cons x r ih =>
    rw [List.findSome?_cons]
    unfold price
    cases h1 : (decide (x.1 = a2) && decide (x.2.1 = a3)) with
    | true => rfl
    | false =>
      cases h2 : (decide (x.2.1 = a2) && decide (x.1 = a3)) with
      | true => rfl
      | false => exact ih
theorem g110_ok (a0 : (List (Int × (Bool × Unit)))) (a1 : (List Sp13.Lk)) (a2 : Int) (r0 : (Ty.sl (rtT)).ok a0) (r1 : (Ty.sl (lkT)).ok a1) (r2 : IntKind.i64.has a2) : g110 a0 a1 a2 = some (Sp13.near (a0, a1, ()) a2, ()) := by
  have hl := len_rt r0
  have key : ∀ j k, k + j = a0.length → ∀ acc : List Int, acc.length ≤ k → Loop (g110_s0 a0 a1 a2) (acc, (k : Int), ()) = some (acc ++ ((a0.drop k).filter (fun x => (price a1 a2 x.1).2.1)).map (fun x => x.1), ()) := by
    intro j
    induction j with
    | zero =>
      intro k hk acc _
      have hk : k = a0.length := by omega
      subst hk
      rw [Loop_step]
      unfold g110_s0
      simp only [Int.ofNat_eq_natCast]
      rw [decide_eq_false (show ¬ (a0.length : Int) < (a0.length : Int) by omega), List.drop_length]
      simp
    | succ j ih =>
      intro k hk acc hacc
      have hlt : k < a0.length := by omega
      have e2 : IntKind.wrap .i64 ((k : Int) + 1) = ((k + 1 : Nat) : Int) := by rw [wi64 (by omega) (by omega)]; omega
      rw [Loop_step, List.drop_eq_getElem_cons hlt]
      have hs : g110_s0 a0 a1 a2 (acc, (k : Int), ()) = some (.inl (bif (price a1 a2 a0[k].1).2.1 then acc ++ [a0[k].1] else acc, ((k + 1 : Nat) : Int), ())) := by
        unfold g110_s0
        simp only [Int.ofNat_eq_natCast, Int.toNat_natCast, e2]
        rw [decide_eq_true (show (k : Int) < (a0.length : Int) by omega), decide_eq_true (show (0 : Int) ≤ (k : Int) by omega), getD_ix (d := (0, false, ())) hlt, show Nat.ble ((acc.length + 1) * 8) 140737488355328 = true from Nat.ble_eq_true_of_le (by omega)]
        cases (price a1 a2 a0[k].1).2.1 <;> rfl
      rw [hs, List.filter_cons]
      cases hp : (price a1 a2 a0[k].1).2.1 with
      | true =>
        simp only [cond_true, if_true, List.map_cons]
        rw [ih (k + 1) (by omega) _ (by rw [List.length_append]; show acc.length + 1 ≤ _; omega), List.append_assoc]
        rfl
      | false =>
        simp only [cond_false]
        rw [ih (k + 1) (by omega) acc (by omega)]
        rfl
  have h := key a0.length 0 (by omega) [] (Nat.le_refl _)
  have h : Loop (g110_s0 a0 a1 a2) ([], 0, ()) = _ := h
  unfold g110
  rw [h]
  rfl
def hi (r y : Int) : Int := bif decide (r < y) then y else r
theorem mixN_wf {l : List Rt} {t : Tp} (h : wf t = true) : ∀ k, wf (mixN l t k).2 = true ∧ (mixN l t k).1.length = l.length
  | 0 => ⟨h, rfl⟩
  | k + 1 => by
    obtain ⟨w, e⟩ := mixN_wf (l := l) h k
    rw [mixN]
    exact ⟨one_wf (n := 3) w, by rw [List.length_set]; exact e⟩
theorem loop31 (l : List Rt) (t : Tp) (ht : wf t = true) (hl : l.length ≤ 1000) (ls : List Lk × Unit) : ∀ j k, k + j = l.length →
    Loop g28_s0 ((k : Int), (mixN l t k).2, ((mixN l t k).1, ls), ()) = some ((mixN l t l.length).2, ((mixN l t l.length).1, ls), ())
  | 0, k, hk => by
    have hk : k = l.length := by omega
    subst hk
    have e := (mixN_wf (l := l) ht l.length).2
    rw [Loop_step]
    unfold g28_s0
    simp only [Int.ofNat_eq_natCast, e]
    rw [decide_eq_false (show ¬ (l.length : Int) < (l.length : Int) by omega)]
    rfl
  | j + 1, k, hk => by
    have ih := loop31 l t ht hl ls j (k + 1) (by omega)
    obtain ⟨w, e⟩ := mixN_wf (l := l) ht k
    have e2 : IntKind.wrap .i64 ((k : Int) + 1) = ((k + 1 : Nat) : Int) := by rw [wi64 (by omega) (by omega)]; omega
    have hs : g28_s0 ((k : Int), (mixN l t k).2, ((mixN l t k).1, ls), ()) = some (.inl (((k + 1 : Nat) : Int), (mixN l t (k + 1)).2, ((mixN l t (k + 1)).1, ls), ())) := by
      unfold g28_s0
      simp only [Int.ofNat_eq_natCast, e, e2, Int.toNat_natCast]
      rw [decide_eq_true (show (k : Int) < (l.length : Int) by omega), on_ws w (by decide), decide_eq_true (show (0 : Int) ≤ (k : Int) by omega), show Nat.blt k l.length = true from Nat.ble_eq_true_of_le (by omega)]
      rfl
    rw [Loop_step, hs]
    exact ih
theorem g28_ok (a0 : (List Int)) (a1 : Int) (a2 : Int) (r0 : (Ty.sl (.int .i64)).ok a0) (r1 : IntKind.i64.has a1) (r2 : IntKind.i64.has a2) (h : (Sp13.wf (a0, a1, ()) && Sp13.inside a2 1 50) = true) : g28 a0 a1 a2 = some (Sp13.mixed (a0, a1, ()) a2) := by
  simp only [Bool.and_eq_true, inside_iff] at h
  obtain ⟨w, l⟩ := topo_wf (n := 0) h.1 h.2
  unfold g28 mixed
  rw [on_true (show (wf (a0, a1, ()) && inside a2 1 50 && small 0) = true by rw [h.1, inside_iff.2 h.2]; rfl)]
  simp only [Option.bind_some]
  generalize topo (a0, a1, ()) a2 0 = g at w l ⊢
  have hl : Loop g28_s0 ((0 : Int), g.2, g.1, ()) = some ((mixN g.1.1 g.2 g.1.1.length).2, ((mixN g.1.1 g.2 g.1.1.length).1, g.1.2), ()) := loop31 g.1.1 g.2 w (by omega) g.1.2 g.1.1.length 0 (by omega)
  rw [hl]
  rfl
end Go.Abs.C13

namespace Go.Abs.C13
open Go Go.Proofs Sp13
set_option maxRecDepth 100000
theorem room1 {n : Nat} (h : n ≤ 5000) : Nat.ble ((n + 1) * 1) 140737488355328 = true := ble_t (by omega)

theorem text_wf {t : Tp} (h : wf t = true) : ∀ k, wf (textN k t).2 = true ∧ (textN k t).1.length = k
  | 0 => ⟨h, rfl⟩
  | k + 1 => ⟨next_wf (n := 256) (text_wf h k).1, by rw [textN, List.length_append, (text_wf h k).2]; rfl⟩

theorem text_run (t : Tp) (h : wf t = true) (n : Nat) (hn : n ≤ 1000) :
    Loop g19_s0 (t, [], (n : Int), ()) = some ((textN n t).2, (textN n t).1, ()) := by
  have key : ∀ k, k ≤ n → Loop g19_s0 ((textN (n - k) t).2, (textN (n - k) t).1, (k : Int), ()) = some ((textN n t).2, (textN n t).1, ()) := by
    intro k
    induction k with
    | zero => intro _; rw [Loop_step]; rfl
    | succ k ih =>
      intro hk
      obtain ⟨w1, w2⟩ := text_wf h (n - (k + 1))
      have c : ((k + 1 : Nat) : Int) > 0 := by omega
      have e : IntKind.wrap .i64 (((k + 1 : Nat) : Int) - 1) = (k : Int) := by rw [wi64 (by omega) (by omega)]; omega
      have r := next_range (t := (textN (n - (k + 1)) t).2) (n := 256) (by decide)
      have hs : g19_s0 ((textN (n - (k + 1)) t).2, (textN (n - (k + 1)) t).1, ((k + 1 : Nat) : Int), ()) = some (.inl ((textN (n - (k + 1) + 1) t).2, (textN (n - (k + 1) + 1) t).1, (k : Int), ())) := by
        unfold g19_s0
        rw [on_true w1]
        simp only [c, decide_true, cond_true, Option.bind_some, e, room1 (n := (textN (n - (k + 1)) t).1.length) (by omega), wu8 r.1 r.2]
        rfl
      rw [Loop_step, hs]
      simp only
      rw [show n - (k + 1) + 1 = n - k by omega]
      exact ih (by omega)
  have := key n (Nat.le_refl _)
  rw [Nat.sub_self] at this
  exact this

theorem g19_ok (a0 : (List Int)) (a1 : Int) (a2 : Int) (r0 : (Ty.sl (.int .i64)).ok a0) (r1 : IntKind.i64.has a1) (r2 : IntKind.i64.has a2) (h : (Sp13.wf (a0, a1, ()) && decide (0 ≤ a2) && decide (a2 ≤ 1000)) = true) : g19 a0 a1 a2 = some (Sp13.text (a0, a1, ()) a2) := by
  simp only [Bool.and_eq_true, decide_eq_true_eq] at h
  obtain ⟨⟨h1, h2⟩, h3⟩ := h
  have hs : small a2 = true := small_iff.2 (by omega)
  have h0 : small 0 = true := by decide
  have hr := range_in (t := (a0, a1, ())) (a := 0) (b := a2) h2
  unfold g19 Sp13.text
  rw [on_true (b := wf (a0, a1, ()) && small 0 && small a2) (by rw [h1, h0, hs]; rfl)]
  simp only [Option.bind_some]
  have hw := range_wf (a := 0) (b := a2) h1
  have hc : (range (a0, a1, ()) 0 a2).1 = (((range (a0, a1, ()) 0 a2).1.toNat : Nat) : Int) := by omega
  rw [hc, text_run _ hw _ (by omega)]
  rfl

theorem g94_ok (a0 : Int) (r0 : IntKind.i64.has a0) : g94 a0 = some (Sp13.Bt.full a0, ()) := by
  unfold g94
  cases hv : vlen a0 with
  | false => unfold Bt.full; rw [hv]; rfl
  | true => rcases vlen_iff.1 hv with rfl | rfl | rfl | rfl <;> rfl

theorem not_full {x : Nat} (hx : x < 2 ^ 64) {n : Nat} (hn : n ≤ 64) : (x &&& (18446744073709551615 - (2 ^ n - 1)) = 0) ↔ x < 2 ^ n := by
  have hle : 2 ^ n ≤ 2 ^ 64 := Nat.pow_le_pow_right (by decide) hn
  have hpos := Nat.two_pow_pos n
  have e : 18446744073709551615 - (2 ^ n - 1) = 2 ^ 64 - ((2 ^ n - 1) + 1) := by omega
  have hb : ∀ i, (x &&& (18446744073709551615 - (2 ^ n - 1))).testBit i = (x.testBit i && (decide (i < 64) && !decide (i < n))) := fun i => by
    rw [Nat.testBit_and, e, Nat.testBit_two_pow_sub_succ (by omega), Nat.testBit_two_pow_sub_one]
  constructor
  · intro h
    refine Nat.lt_pow_two_of_testBit _ fun i hi => ?_
    by_cases h64 : i < 64
    · have := hb i
      rw [h] at this
      have h3 : ¬ i < n := by omega
      simp [h64, h3] at this
      exact this
    · have h1 : 2 ^ 64 ≤ 2 ^ i := Nat.pow_le_pow_right (by decide) (by omega)
      exact Nat.testBit_lt_two_pow (Nat.lt_of_lt_of_le hx h1)
  · intro h
    refine Nat.eq_of_testBit_eq fun i => ?_
    rw [hb, Nat.zero_testBit]
    by_cases h3 : i < n
    · simp [h3]
    · have h1 : 2 ^ n ≤ 2 ^ i := Nat.pow_le_pow_right (by decide) (by omega)
      rw [Nat.testBit_lt_two_pow (Nat.lt_of_lt_of_le h h1)]
      rfl

theorem valid_run {x n : Int} (hx : U x) (hv : vlen n = true) : decide (IntKind.wrap .u64 (Int.ofNat (BitVec.and (BitVec.ofInt 64 x) (BitVec.not (BitVec.ofInt 64 (Bt.full n)))).toNat) = 0) = decide (x < 2 ^ n.toNat) := by
  rw [bandn hx (full_U n), full_nat hv, Int.toNat_natCast]
  have hn : n.toNat ≤ 64 := by rcases vlen_iff.1 hv with rfl | rfl | rfl | rfl <;> decide
  have := not_full (utn hx) hn
  have e : (x < 2 ^ n.toNat) ↔ x.toNat < 2 ^ n.toNat := by
    rw [pow_cast]
    have := hx.1
    generalize 2 ^ n.toNat = q
    omega
  have e2 : (((x.toNat &&& (18446744073709551615 - (2 ^ n.toNat - 1)) : Nat) : Int) = 0) ↔ (x.toNat &&& (18446744073709551615 - (2 ^ n.toNat - 1))) = 0 := by
    generalize x.toNat &&& (18446744073709551615 - (2 ^ n.toNat - 1)) = q
    omega
  congr 1
  exact propext (e2.trans (this.trans e.symm))

theorem g72_ok (a0 : Int) (a1 : Int) (r0 : IntKind.u64.has a0) (r1 : IntKind.i64.has a1) : g72 a0 a1 = some (Sp13.validB a0 a1, ()) := by
  unfold g72 Sp13.validB
  cases hv : vlen a1 with
  | false => rfl
  | true => rw [valid_run (uh r0) hv]; rfl

theorem g84_ok (a0 : Int) (a1 : Int) (r0 : IntKind.u64.has a0) (r1 : IntKind.i64.has a1) : g84 a0 a1 = some (Sp13.validB a0 a1, ()) := by
  unfold g84 Sp13.validB
  cases hv : vlen a1 with
  | false => rfl
  | true => rw [valid_run (uh r0) hv]; rfl

theorem bifAnd (p q : Bool) : (bif p then some (q, ()) else some (false, ())) = some (p && q, ()) := by cases p <;> rfl

theorem g71_ok (a0 : Int) (a1 : Int) (r0 : IntKind.i64.has a0) (r1 : IntKind.i64.has a1) : g71 a0 a1 = some (Sp13.inside a0 0 a1, ()) := by
  unfold g71 Sp13.inside
  simp only [bifAnd, Option.bind_some]

theorem g83_ok (a0 : Int) (a1 : Int) (r0 : IntKind.i64.has a0) (r1 : IntKind.i64.has a1) : g83 a0 a1 = some (Sp13.inside a0 0 a1, ()) := by
  unfold g83 Sp13.inside
  simp only [bifAnd, Option.bind_some]

theorem le64 (l : List Int) : decide (Int.ofNat l.length ≤ 64) = decide (l.length ≤ 64) := decide_eq_decide.2 (by simp; omega)

theorem g35_ok (a0 : Int) (a1 : Int) (a2 : Int) (a3 : Int) (a4 : Int) (a5 : Int) (a6 : Int) (a7 : Int) (a8 : Int) (a9 : (List Int)) (r0 : IntKind.i64.has a0) (r1 : IntKind.i64.has a1) (r2 : IntKind.i64.has a2) (r3 : IntKind.i64.has a3) (r4 : IntKind.i64.has a4) (r5 : IntKind.i64.has a5) (r6 : IntKind.i64.has a6) (r7 : IntKind.i64.has a7) (r8 : IntKind.u64.has a8) (r9 : Ty.str.ok a9) : g35 a0 a1 a2 a3 a4 a5 a6 a7 a8 a9 = some (Sp13.validK (a0, a1, a2, a3, a4, a5, a6, a7, a8, a9, ()), ()) := by
  unfold g35 validK
  simp only [md, sd, st, ln, tl, en, ig, pr, bt, py, bifAnd, Option.bind_some, le64, Bool.and_assoc]
  unfold Sp13.inside
  simp only [Bool.and_assoc]
  rfl

theorem g46_ok (a0 : Int) (a1 : Int) (a2 : Int) (a3 : Int) (a4 : Int) (a5 : Int) (a6 : Int) (a7 : Int) (a8 : Int) (a9 : (List Int)) (r0 : IntKind.i64.has a0) (r1 : IntKind.i64.has a1) (r2 : IntKind.i64.has a2) (r3 : IntKind.i64.has a3) (r4 : IntKind.i64.has a4) (r5 : IntKind.i64.has a5) (r6 : IntKind.i64.has a6) (r7 : IntKind.i64.has a7) (r8 : IntKind.u64.has a8) (r9 : Ty.str.ok a9) : g46 a0 a1 a2 a3 a4 a5 a6 a7 a8 a9 = some (Sp13.validK (a0, a1, a2, a3, a4, a5, a6, a7, a8, a9, ()), ()) := by
  unfold g46 validK
  simp only [md, sd, st, ln, tl, en, ig, pr, bt, py, bifAnd, Option.bind_some, le64, Bool.and_assoc]
  unfold Sp13.inside
  simp only [Bool.and_assoc]
  rfl

structure Fit (p : Pk) : Prop where
  hm : 1 ≤ md p ∧ md p ≤ 3
  hd : 0 ≤ sd p ∧ sd p ≤ 7
  hs : 0 ≤ Sp13.st p ∧ Sp13.st p ≤ 31
  hl : vlen (ln p) = true
  hb : bt p < 2 ^ (ln p).toNat
  ht : 0 ≤ tl p ∧ tl p ≤ 63
  he : 0 ≤ en p ∧ en p ≤ 1023
  hg : 0 ≤ ig p ∧ ig p ≤ 256
  hr : 0 ≤ pr p ∧ pr p ≤ 7
  hp : (py p).length ≤ 64
theorem valid_fit {p : Pk} : validK p = true ↔ Fit p := by
  unfold validK validB Sp13.inside
  simp only [Bool.and_eq_true, decide_eq_true_eq]
  constructor
  · rintro ⟨⟨⟨⟨⟨⟨⟨⟨h1, h2⟩, h3⟩, h4⟩, h5⟩, h6⟩, h7⟩, h8⟩, h9⟩
    exact ⟨h1, h2, h3, h4.1, h4.2, h5, h6, h7, h8, h9⟩
  · rintro ⟨h1, h2, h3, h4, h4', h5, h6, h7, h8, h9⟩
    exact ⟨⟨⟨⟨⟨⟨⟨⟨h1, h2⟩, h3⟩, h4, h4'⟩, h5⟩, h6⟩, h7⟩, h8⟩, h9⟩
theorem g36_ok (a0 : Int) (a1 : Int) (a2 : Int) (a3 : Int) (a4 : Int) (a5 : Int) (a6 : Int) (a7 : Int) (a8 : Int) (a9 : (List Int)) (r0 : IntKind.i64.has a0) (r1 : IntKind.i64.has a1) (r2 : IntKind.i64.has a2) (r3 : IntKind.i64.has a3) (r4 : IntKind.i64.has a4) (r5 : IntKind.i64.has a5) (r6 : IntKind.i64.has a6) (r7 : IntKind.i64.has a7) (r8 : IntKind.u64.has a8) (r9 : Ty.str.ok a9) : g36 a0 a1 a2 a3 a4 a5 a6 a7 a8 a9 = some (Sp13.plane (a0, a1, a2, a3, a4, a5, a6, a7, a8, a9, ()), ()) := by
  unfold g36 plane
  cases h : validK (a0, a1, a2, a3, a4, a5, a6, a7, a8, a9, ()) with
  | false => rfl
  | true =>
    have h1 : 0 ≤ a5 := (valid_fit.1 h).he.1
    simp only [Bool.not_true, cond_false, cond_true, tmod_nn h1]
    rfl

theorem g56_ok (a0 : Int) (a1 : Int) (a2 : Int) (a3 : Int) (a4 : Int) (a5 : Int) (a6 : Int) (a7 : Int) (a8 : Int) (a9 : (List Int)) (a10 : Int) (r0 : IntKind.i64.has a0) (r1 : IntKind.i64.has a1) (r2 : IntKind.i64.has a2) (r3 : IntKind.i64.has a3) (r4 : IntKind.i64.has a4) (r5 : IntKind.i64.has a5) (r6 : IntKind.i64.has a6) (r7 : IntKind.i64.has a7) (r8 : IntKind.u64.has a8) (r9 : Ty.str.ok a9) (r10 : IntKind.i64.has a10) : g56 a0 a1 a2 a3 a4 a5 a6 a7 a8 a9 a10 = some (Sp13.only (a0, a1, a2, a3, a4, a5, a6, a7, a8, a9, ()) a10, ()) := by
  have hx := uh r8
  unfold g56 only
  cases h : validK (a0, a1, a2, a3, a4, a5, a6, a7, a8, a9, ()) with
  | false => rfl
  | true =>
    simp only [Bool.not_true, Bool.not_false, cond_true, gt_iff_lt, Bool.true_and]
    by_cases h1 : a10 < 0
    · have h1' : ¬ 0 ≤ a10 := by omega
      simp [Bt.has, h1, h1', zp]
    · by_cases h2 : 63 < a10
      · have h2' : ¬ a10 < 64 := by omega
        simp [Bt.has, h1, h2, h2', zp]
      · obtain ⟨k, rfl⟩ : ∃ k : Nat, a10 = (k : Int) := ⟨a10.toNat, by omega⟩
        have hk : k < 64 := by omega
        have hp := pow_U hk
        have e2 : IntKind.wrap .u64 ((2 : Int) ^ k) = 2 ^ k := wu64 hp.1 hp.2
        have hh : Bt.has a8 (k : Int) = Bt.tb a8 k := has_tb hk
        simp only [h1, h2, decide_false, Bool.not_false, cond_true, show (0 : Int) ≤ (k : Int) by omega, decide_true, Int.toNat_natCast, show min k 64 = k by omega, pow2, bit_and hx, Int.one_mul, e2, bt, hh]
        cases hc : Bt.tb a8 k with
        | true =>
          have hb : Bt.bit1 (k : Int) = 2 ^ k := by
            unfold Bt.bit1
            rw [decide_eq_false h1, decide_eq_false h2]
            rfl
          simp only [hb]
          rfl
        | false => rfl

theorem g18_ok (a0 : Int) (a1 : Int) (a2 : Int) (a3 : Int) (a4 : Int) (a5 : Int) (a6 : Int) (a7 : Int) (a8 : Int) (a9 : (List Int)) (a10 : Int) (r0 : IntKind.i64.has a0) (r1 : IntKind.i64.has a1) (r2 : IntKind.i64.has a2) (r3 : IntKind.i64.has a3) (r4 : IntKind.i64.has a4) (r5 : IntKind.i64.has a5) (r6 : IntKind.i64.has a6) (r7 : IntKind.i64.has a7) (r8 : IntKind.u64.has a8) (r9 : Ty.str.ok a9) (r10 : IntKind.i64.has a10) : g18 a0 a1 a2 a3 a4 a5 a6 a7 a8 a9 a10 = some (Sp13.only (a0, a1, a2, a3, a4, a5, a6, a7, a8, a9, ()) a10, ()) := by
  unfold g18 only
  cases h : validK (a0, a1, a2, a3, a4, a5, a6, a7, a8, a9, ()) with
  | false => rfl
  | true =>
    simp only [Bool.not_true, Bool.not_false, cond_true, Bool.true_and, Option.bind_some, bt]
    cases Bt.has a8 a10 <;> rfl

theorem masked_run {a0 a1 a2 a3 a4 a5 a6 a7 a8 a10 : Int} {a9 : List Int} (r8 : IntKind.u64.has a8) (r10 : IntKind.u64.has a10) : g41 a0 a1 a2 a3 a4 a5 a6 a7 a8 a9 a10 = some (masked (a0, a1, a2, a3, a4, a5, a6, a7, a8, a9, ()) a10, ()) := by
  unfold g41 masked
  rw [band (uh r8) (uh r10)]
  cases h : validK (a0, a1, a2, a3, a4, a5, a6, a7, a8, a9, ()) with
  | false => rfl
  | true =>
    have ht : 0 ≤ a4 ∧ a4 ≤ 63 := (valid_fit.1 h).ht
    simp only [Bool.not_true, Bool.not_false, cond_true, Bool.true_and, tl, bt]
    rw [wi64 (n := a4 - 1) (by omega) (by omega)]
    show _ = some (bif !decide (a4 = 0) && !decide (((a8.toNat &&& a10.toNat : Nat) : Int) = 0) then _ else _, ())
    by_cases h1 : a4 = 0
    · simp only [h1, decide_true, Bool.not_true, cond_false, Bool.false_and, Option.bind_some, cond_true]
      rfl
    · by_cases h2 : ((a8.toNat &&& a10.toNat : Nat) : Int) = 0
      · simp only [h1, h2, decide_true, decide_false, Bool.not_true, Bool.not_false, cond_false, cond_true, Bool.true_and, Option.bind_some]
        rfl
      · simp only [h1, h2, decide_false, Bool.not_false, cond_true, cond_false, Bool.true_and, Option.bind_some]
        rfl

theorem g41_ok (a0 : Int) (a1 : Int) (a2 : Int) (a3 : Int) (a4 : Int) (a5 : Int) (a6 : Int) (a7 : Int) (a8 : Int) (a9 : (List Int)) (a10 : Int) (r0 : IntKind.i64.has a0) (r1 : IntKind.i64.has a1) (r2 : IntKind.i64.has a2) (r3 : IntKind.i64.has a3) (r4 : IntKind.i64.has a4) (r5 : IntKind.i64.has a5) (r6 : IntKind.i64.has a6) (r7 : IntKind.i64.has a7) (r8 : IntKind.u64.has a8) (r9 : Ty.str.ok a9) (r10 : IntKind.u64.has a10) : g41 a0 a1 a2 a3 a4 a5 a6 a7 a8 a9 a10 = some (Sp13.masked (a0, a1, a2, a3, a4, a5, a6, a7, a8, a9, ()) a10, ()) := by
  exact masked_run r8 r10

theorem bits_wf {t : Tp} {n : Int} (h : wf t = true) : wf (Bt.bits t n).2 = true := by
  have h1 := raw_wf h
  have h2 := raw_wf h1
  have h3 := next_wf (n := 6) h2
  have h4 := next_wf (n := n) h3
  simp only [Bt.bits, Bt.bitsV]
  cases decide ((next (raw (raw t).2).2 6).1 = 0) <;> cases decide ((next (raw (raw t).2).2 6).1 = 1) <;> cases decide ((next (raw (raw t).2).2 6).1 = 2) <;> simp only [cond_true, cond_false] <;> assumption
theorem text_wf2 {t : Tp} {n : Int} (h : wf t = true) : wf (text t n).2 = true := (text_wf (range_wf h) _).1
theorem text_len {t : Tp} {n : Int} (h : wf t = true) (hn : 0 ≤ n) : ((text t n).1.length : Int) ≤ n := by
  have h1 := range_in (t := t) hn
  have h2 := (text_wf (range_wf (a := 0) (b := n) h) (range t 0 n).1.toNat).2
  show ((textN (range t 0 n).1.toNat (range t 0 n).2).1.length : Int) ≤ n
  omega
theorem pad_loop (x0 x1 x2 x3 x4 x5 x6 x7 x8 : Int) : ∀ (k : Nat) (l : List Int), (64 - l.length) / 3 = k →
    Loop g23_s0 ((x0, x1, x2, x3, x4, x5, x6, x7, x8, l, ()), ()) = some ((x0, x1, x2, x3, x4, x5, x6, x7, x8, l ++ (List.replicate k [97, 98, 99]).flatten, ()), ())
  | 0, l, h => by
    rw [Loop_step]
    unfold g23_s0
    simp only [Int.ofNat_eq_natCast]
    rw [decide_eq_false (show ¬ (l.length : Int) < 62 by omega)]
    simp
  | k + 1, l, h => by
    rw [Loop_step]
    have hs : g23_s0 ((x0, x1, x2, x3, x4, x5, x6, x7, x8, l, ()), ()) = some (.inl ((x0, x1, x2, x3, x4, x5, x6, x7, x8, l ++ [97, 98, 99], ()), ())) := by
      unfold g23_s0
      simp only [Int.ofNat_eq_natCast]
      rw [decide_eq_true (show (l.length : Int) < 62 by omega), show Nat.ble (l.length + 3) 9223372036854775807 = true from Nat.ble_eq_true_of_le (by omega)]
      rfl
    rw [hs]
    have := pad_loop x0 x1 x2 x3 x4 x5 x6 x7 x8 k (l ++ [97, 98, 99]) (by simp only [List.length_append, List.length_cons, List.length_nil]; omega)
    simp only
    rw [this, List.replicate_succ, List.flatten_cons, List.append_assoc]
theorem pad_len (l : List Int) (h : l.length ≤ 64) : (pad l).length ≤ 64 := by
  unfold pad
  simp only [List.length_append, List.length_flatten, List.map_replicate, List.sum_replicate_nat, List.length_cons, List.length_nil]
  omega

theorem g23_ok (a0 : (List Int)) (a1 : Int) (a2 : Int) (r0 : (Ty.sl (.int .i64)).ok a0) (r1 : IntKind.i64.has a1) (r2 : IntKind.i64.has a2) (h : (Sp13.wf (a0, a1, ()) && Sp13.small a2) = true) : g23 a0 a1 a2 = some (Sp13.packet (a0, a1, ()) a2) := by
  simp only [Bool.and_eq_true] at h
  obtain ⟨w0, hsm⟩ := h
  unfold g23 packet pkt
  simp only
  rw [on_true w0]
  simp only [Option.bind_some]
  have w : wf (Sp13.length (a0, a1, ())).2 = true := pick_wf w0
  generalize Sp13.length (a0, a1, ()) = y3 at w ⊢
  rw [on_true (show (wf y3.2 && small 1 && small 3) = true by rw [w]; rfl)]
  simp only [Option.bind_some]
  replace w := range_wf (a := 1) (b := 3) w
  generalize range y3.2 1 3 = y4 at w ⊢
  rw [on_true (show (wf y4.2 && small 0 && small 7) = true by rw [w]; rfl)]
  simp only [Option.bind_some]
  replace w := range_wf (a := 0) (b := 7) w
  generalize range y4.2 0 7 = y5 at w ⊢
  rw [on_true (show (wf y5.2 && decide (0 < 5) && decide (5 ≤ 1000)) = true by rw [w]; rfl)]
  simp only [Option.bind_some]
  replace w := pick_wf (l := [0, 0, 1, 2, 31]) w
  generalize pick y5.2 [0, 0, 1, 2, 31] = y6 at w ⊢
  rw [on_true (show (wf y6.2 && decide (0 < 5) && decide (5 ≤ 1000)) = true by rw [w]; rfl)]
  simp only [Option.bind_some]
  replace w := pick_wf (l := [0, 1, 2, 5, 63]) w
  generalize pick y6.2 [0, 1, 2, 5, 63] = y7 at w ⊢
  rw [on_true w]
  simp only [Option.bind_some]
  replace w := next_wf (n := 1024) w
  generalize next y7.2 1024 = y8 at w ⊢
  rw [on_true (show (wf y8.2 && decide (0 < 5) && decide (5 ≤ 1000)) = true by rw [w]; rfl)]
  simp only [Option.bind_some]
  replace w := pick_wf (l := [0, 1, 8, 255, 256]) w
  generalize pick y8.2 [0, 1, 8, 255, 256] = y9 at w ⊢
  rw [on_true w]
  simp only [Option.bind_some]
  replace w := next_wf (n := 8) w
  generalize next y9.2 8 = y10 at w ⊢
  rw [on_true w]
  simp only [Option.bind_some]
  replace w := bits_wf (n := y3.1) w
  generalize Bt.bits y10.2 y3.1 = y11 at w ⊢
  rw [on_true (show (wf y11.2 && decide ((0 : Int) ≤ 6) && decide ((6 : Int) ≤ 1000)) = true by rw [w]; rfl)]
  simp only [Option.bind_some]
  have hl := text_len (n := 6) w (by decide)
  replace w := text_wf2 (n := 6) w
  generalize text y11.2 6 = y12 at w hl ⊢
  simp only [gt_iff_lt]
  by_cases hp : 0 < a2
  rotate_left
  · simp only [hp, decide_false, cond_false, Option.bind_some]
  simp only [hp, decide_true, cond_true]
  rw [on_true (show (wf y12.2 && small a2) = true by rw [w, hsm]; rfl)]
  simp only [Option.bind_some]
  replace w := one_wf (n := a2) w
  generalize one y12.2 a2 = y13 at w ⊢
  obtain ⟨b13, t13⟩ := y13
  cases b13 with
  | false => simp only [cond_false, Option.bind_some]
  | true =>
    simp only [cond_true]
    unfold spoilK
    simp only
    simp only at w
    rw [on_true w]
    simp only [Option.bind_some]
    replace w := next_wf (n := 9) w
    generalize next t13 9 = y14 at w ⊢
    have ww := wild_wf w
    rw [on_true w, on_true (show (wf y14.2 && decide (0 < 8) && decide (8 ≤ 1000)) = true by rw [w]; rfl), on_true (show (wf y14.2 && decide ((0 : Int) ≤ 4) && decide ((4 : Int) ≤ 1000)) = true by rw [w]; rfl), pad_loop _ _ _ _ _ _ _ _ _ _ y12.1 rfl]
    have hl4 := text_len (n := 4) w (by decide)
    have hpad := pad_len y12.1 (by omega)
    have hpe : y12.1 ++ (List.replicate ((64 - y12.1.length) / 3) [97, 98, 99]).flatten = pad y12.1 := rfl
    simp only [Option.bind_some, hpe]
    rw [show Nat.ble ((pad y12.1).length + (text y14.2 4).1.length) 9223372036854775807 = true from Nat.ble_eq_true_of_le (by omega)]
    simp only [cond_true, Option.bind_some, md, sd, Sp13.st, ln, tl, en, ig, pr, bt, py]
    by_cases k0 : y14.1 = 0
    · simp only [k0, decide_true, cond_true, Option.bind_some]
    by_cases k1 : y14.1 = 1
    · simp only [k0, k1, decide_true, decide_false, cond_true, cond_false, Option.bind_some]; rfl
    by_cases k2 : y14.1 = 2
    · simp only [k0, k1, k2, decide_true, decide_false, cond_true, cond_false, Option.bind_some]; rfl
    by_cases k3 : y14.1 = 3
    · simp only [k0, k1, k2, k3, decide_true, decide_false, cond_true, cond_false, Option.bind_some]; rfl
    by_cases k4 : y14.1 = 4
    · simp only [k0, k1, k2, k3, k4, decide_true, decide_false, cond_true, cond_false, Option.bind_some]; rfl
    by_cases k5 : y14.1 = 5
    · simp only [k0, k1, k2, k3, k4, k5, decide_true, decide_false, cond_true, cond_false, Option.bind_some]; rfl
    by_cases k6 : y14.1 = 6
    · simp only [k0, k1, k2, k3, k4, k5, k6, decide_true, decide_false, cond_true, cond_false, Option.bind_some]; rfl
    by_cases k7 : y14.1 = 7
    · simp only [k0, k1, k2, k3, k4, k5, k6, k7, decide_true, decide_false, cond_true, cond_false, Option.bind_some]; rfl
    simp only [k0, k1, k2, k3, k4, k5, k6, k7, decide_false, cond_false, Option.bind_some]


end Go.Abs.C13

namespace Go.Abs.C13
open Go Go.Proofs Sp13
set_option maxRecDepth 100000
theorem len_sl {t : Ty} {l : List t.den} (h : (Ty.sl t).ok l) (ht : 0 < t.bsz) : l.length ≤ 281474976710656 := by
  have h1 : l.length * t.bsz ≤ big := h.1
  have : l.length * 1 ≤ l.length * t.bsz := Nat.mul_le_mul_left _ ht
  have e : big = 281474976710656 ∨ big = 140737488355328 := by unfold big; omega
  omega

theorem g93_ok (a0 : (List Int)) (a1 : Int) (r0 : (Ty.sl (.int .i64)).ok a0) (r1 : IntKind.i64.has a1) : g93 a0 a1 = some (Sp13.idx (fun y => decide (a1 = y)) a0, ()) := by
  have hl := len_sl r0 (by decide)
  unfold g93
  refine find_loop _ a0 (fun y => decide (a1 = y)) 0 (fun i hi => ?_) ?_
  · unfold g93_s0
    simp only [Int.ofNat_eq_natCast, Int.toNat_natCast]
    rw [decide_eq_true (show (i : Int) < (a0.length : Int) by omega), decide_eq_true (show (0 : Int) ≤ (i : Int) by omega), wi64 (n := (i : Int) + 1) (by omega) (by omega)]
    cases decide (a1 = a0.getD i 0) <;> rfl
  · unfold g93_s0
    simp only [Int.ofNat_eq_natCast]
    rw [decide_eq_false (show ¬ (a0.length : Int) < (a0.length : Int) by omega)]
    rfl

theorem g70_ok (a0 : (List Int)) (a1 : Int) (r0 : (Ty.sl (.int .i64)).ok a0) (r1 : IntKind.i64.has a1) : g70 a0 a1 = some (a0.any fun y => decide (a1 = y), ()) := by
  unfold g70
  rw [idx_any]


theorem g21_ok (a0 : (List Int)) (a1 : Int) (r0 : (Ty.sl (.int .i64)).ok a0) (r1 : IntKind.i64.has a1) : g21 a0 a1 = some (Sp13.has a0 a1, ()) := by
  have hl := len_i r0
  have hL : Loop (g21_s0 a0 a1) ((0 : Int), ()) = some (bif Sp13.has a0 a1 then (true, ((true, ()), ())) else (false, ((false, ()), ()))) := by
    refine scan0 _ a0 0 (fun x => decide (x = a1)) _ _ (fun k hk => ?_) ?_
    · unfold g21_s0
      simp only [Int.ofNat_eq_natCast, Int.toNat_natCast]
      rw [dT (show (k : Int) < (a0.length : Int) by omega), dT (show (0 : Int) ≤ (k : Int) by omega), wi64n (by omega)]
      cases decide (a0.getD k 0 = a1) <;> rfl
    · unfold g21_s0
      simp only [Int.ofNat_eq_natCast]
      rw [dF (show ¬ (a0.length : Int) < (a0.length : Int) by omega)]
      rfl
  unfold g21
  rw [hL]
  cases Sp13.has a0 a1 <;> rfl

end Go.Abs.C13

namespace Go.Abs.C13
open Go Go.Proofs Sp13
set_option maxRecDepth 100000
theorem len_rw {l : List Rw} (h : (Ty.sl rwT).ok l) : l.length ≤ 4398046511104 := by
  have h : l.length * 32 ≤ 140737488355328 := h.1
  omega
theorem scan_up (n : Nat) (key : Nat → Int) : ((List.range n).any fun i => decide (0 < i) && decide (key i ≤ key (i - 1))) = !((List.range (n - 1)).all fun i => decide (key i < key (i + 1))) := by
  rw [Bool.eq_iff_iff, List.any_eq_true, Bool.not_eq_true', List.all_eq_false]
  constructor
  · rintro ⟨i, hi, h⟩
    have hi := List.mem_range.1 hi
    simp only [Bool.and_eq_true, decide_eq_true_eq] at h
    refine ⟨i - 1, List.mem_range.2 (by omega), ?_⟩
    rw [show i - 1 + 1 = i by omega, decide_eq_true_eq]
    omega
  · rintro ⟨i, hi, h⟩
    have hi := List.mem_range.1 hi
    rw [decide_eq_true_eq] at h
    refine ⟨i + 1, List.mem_range.2 (by omega), ?_⟩
    rw [Nat.add_sub_cancel, dT (show 0 < i + 1 by omega), Bool.true_and, decide_eq_true_eq]
    omega
theorem g63_ok (a0 : Int) (a1 : Int) (a2 : Int) (r0 : IntKind.i64.has a0) (r1 : IntKind.i64.has a1) (r2 : IntKind.i64.has a2) : g63 a0 a1 a2 = some (Sp13.inside a0 a1 a2, ()) := by
  unfold g63 Sp13.inside
  rw [orI]
  rfl
theorem g92_ok (a0 : Int) (r0 : IntKind.i64.has a0) : g92 a0 = some (!Sp13.inside a0 1 99, ()) := by
  rfl
theorem g103_ok (a0 : (List Int)) (r0 : (Ty.sl (.int .i64)).ok a0) : g103 a0 = some (Sp13.idx (fun n => !Sp13.inside n 1 99) a0, ()) := by
  have hl := len_i r0
  unfold g103
  refine find_loop (g103_s0 a0) a0 (fun n => !Sp13.inside n 1 99) 0 (fun i hi => ?_) ?_
  · unfold g103_s0
    simp only [Int.ofNat_eq_natCast, Int.toNat_natCast]
    rw [dT (show (i : Int) < (a0.length : Int) by omega), dT (show (0 : Int) ≤ (i : Int) by omega), wi64 (n := (i : Int) + 1) (by omega) (by omega)]
    rfl
  · unfold g103_s0
    simp only [Int.ofNat_eq_natCast]
    rw [dF (show ¬ (a0.length : Int) < (a0.length : Int) by omega)]
    rfl
theorem g91_ok (a0 : (List Int)) (r0 : (Ty.sl (.int .i64)).ok a0) : g91 a0 = some (a0.any (fun n => !Sp13.inside n 1 99), ()) := by
  unfold g91
  rw [idx_any]
theorem g66_ok (a0 : Int) (a1 : (List Int)) (r0 : IntKind.i64.has a0) (r1 : (Ty.sl (.int .i64)).ok a1) : g66 a0 a1 = some (Sp13.badW (a0, a1, ()), ()) := by
  unfold g66 badW
  cases Sp13.inside a0 1 256 <;> rfl
theorem g67_ok (a0 : Int) (a1 : (List Int)) (r0 : IntKind.i64.has a0) (r1 : (Ty.sl (.int .i64)).ok a1) : g67 a0 a1 = some (decide (24 < a1.length), ()) := by
  unfold g67
  congr 2
  exact decide_eq_decide.2 (by simp only [Int.ofNat_eq_natCast]; omega)
theorem g69_ok (a0 : Int) (a1 : (List Int)) (a2 : Int) (a3 : Int) (a4 : Int) (a5 : (List (Int × ((List Int) × Unit)))) (r0 : IntKind.i64.has a0) (r1 : (Ty.sl (.int .i64)).ok a1) (r2 : IntKind.i64.has a2) (r3 : IntKind.i64.has a3) (r4 : IntKind.i64.has a4) (r5 : (Ty.sl (rwT)).ok a5) : g69 a0 a1 a2 a3 a4 a5 = some (Sp13.selfW a2 (a0, a1, ()), ()) := by
  unfold g69 selfW
  simp only [Int.ofNat_eq_natCast]
  by_cases h : 1 < a1.length
  · rw [dT (show (a1.length : Int) > 1 by omega), dT h]
    rfl
  · rw [dF (show ¬ (a1.length : Int) > 1 by omega), dF h]
    rfl
theorem g90_ok (a0 : (List (Int × ((List Int) × Unit)))) (r0 : (Ty.sl (rwT)).ok a0) : g90 a0 = some (Sp13.idx Sp13.badW a0, ()) := by
  have hl := len_rw r0
  unfold g90
  refine find_loop (g90_s0 a0) a0 badW zW (fun i hi => ?_) ?_
  · unfold g90_s0
    simp only [Int.ofNat_eq_natCast, Int.toNat_natCast]
    rw [dT (show (i : Int) < (a0.length : Int) by omega), dT (show (0 : Int) ≤ (i : Int) by omega), wi64 (n := (i : Int) + 1) (by omega) (by omega)]
    rfl
  · unfold g90_s0
    simp only [Int.ofNat_eq_natCast]
    rw [dF (show ¬ (a0.length : Int) < (a0.length : Int) by omega)]
    rfl
theorem g65_ok (a0 : (List (Int × ((List Int) × Unit)))) (r0 : (Ty.sl (rwT)).ok a0) : g65 a0 = some (a0.any Sp13.badW, ()) := by
  unfold g65
  rw [idx_any]
theorem g90v_ok (a0 : (List (Int × ((List Int) × Unit)))) (r0 : (Ty.sl (rwT)).ok a0) : g90v a0 = some (Sp13.idx (fun r => decide (24 < r.2.1.length)) a0, ()) := by
  have hl := len_rw r0
  unfold g90v
  refine find_loop (g90v_s0 a0) a0 (fun r => decide (24 < r.2.1.length)) zW (fun i hi => ?_) ?_
  · unfold g90v_s0
    simp only [Int.ofNat_eq_natCast, Int.toNat_natCast]
    rw [dT (show (i : Int) < (a0.length : Int) by omega), dT (show (0 : Int) ≤ (i : Int) by omega), wi64 (n := (i : Int) + 1) (by omega) (by omega)]
    rfl
  · unfold g90v_s0
    simp only [Int.ofNat_eq_natCast]
    rw [dF (show ¬ (a0.length : Int) < (a0.length : Int) by omega)]
    rfl
theorem g65w1_ok (a0 : (List (Int × ((List Int) × Unit)))) (r0 : (Ty.sl (rwT)).ok a0) : g65w1 a0 = some (a0.any (fun r => decide (24 < r.2.1.length)), ()) := by
  unfold g65w1
  rw [idx_any]
theorem g90x_ok (a0 : (List (Int × ((List Int) × Unit)))) (a1 : Int) (a2 : Int) (a3 : Int) (a4 : (List (Int × ((List Int) × Unit)))) (r0 : (Ty.sl (rwT)).ok a0) (r1 : IntKind.i64.has a1) (r2 : IntKind.i64.has a2) (r3 : IntKind.i64.has a3) (r4 : (Ty.sl (rwT)).ok a4) : g90x a0 a1 a2 a3 a4 = some (Sp13.idx (Sp13.selfW a1) a0, ()) := by
  have hl := len_rw r0
  unfold g90x
  refine find_loop (g90x_s0 a0 a1) a0 (selfW a1) zW (fun i hi => ?_) ?_
  · unfold g90x_s0
    simp only [Int.ofNat_eq_natCast, Int.toNat_natCast]
    rw [dT (show (i : Int) < (a0.length : Int) by omega), dT (show (0 : Int) ≤ (i : Int) by omega), wi64 (n := (i : Int) + 1) (by omega) (by omega)]
    rfl
  · unfold g90x_s0
    simp only [Int.ofNat_eq_natCast]
    rw [dF (show ¬ (a0.length : Int) < (a0.length : Int) by omega)]
    rfl
theorem g65w2_ok (a0 : (List (Int × ((List Int) × Unit)))) (a1 : Int) (a2 : Int) (a3 : Int) (a4 : (List (Int × ((List Int) × Unit)))) (r0 : (Ty.sl (rwT)).ok a0) (r1 : IntKind.i64.has a1) (r2 : IntKind.i64.has a2) (r3 : IntKind.i64.has a3) (r4 : (Ty.sl (rwT)).ok a4) : g65w2 a0 a1 a2 a3 a4 = some (a0.any (Sp13.selfW a1), ()) := by
  unfold g65w2
  rw [idx_any]
theorem g68_ok (a0 : (List Int)) (r0 : (Ty.sl (.int .i64)).ok a0) : g68 a0 = some (Sp13.upI a0, ()) := by
  have hl := len_i r0
  have hL : Loop (g68_s0 a0) ((0 : Int), ()) = some (bif (List.range a0.length).any (fun i => decide (0 < i) && decide (a0.getD i 0 ≤ a0.getD (i - 1) 0)) then (true, ((false, ()), ())) else (false, ((false, ()), ()))) := by
    refine scanN _ a0.length _ _ _ (fun i hi => ?_) ?_
    · unfold g68_s0
      simp only [Int.ofNat_eq_natCast, Int.toNat_natCast]
      rw [dT (show (i : Int) < (a0.length : Int) by omega), dT (show (0 : Int) ≤ (i : Int) by omega), wi64n (by omega)]
      by_cases h0 : 0 < i
      · rw [dT (show (i : Int) > 0 by omega), dT h0, wi64p h0 (by omega)]
        simp only [Int.toNat_natCast]
        rw [dT (show (0 : Int) ≤ ((i - 1 : Nat) : Int) by omega), dT (show ((i - 1 : Nat) : Int) < (a0.length : Int) by omega)]
        by_cases h1 : a0.getD i 0 ≤ a0.getD (i - 1) 0
        · rw [dT (show a0.getD (i - 1) 0 ≥ a0.getD i 0 from h1)]; first | rfl | (rw [dT h1]; rfl)
        · rw [dF (show ¬ a0.getD (i - 1) 0 ≥ a0.getD i 0 from h1)]; first | rfl | (rw [dF h1]; rfl)
      · rw [dF (show ¬ (i : Int) > 0 by omega), dF h0]; rfl
    · unfold g68_s0
      simp only [Int.ofNat_eq_natCast]
      rw [dF (show ¬ (a0.length : Int) < (a0.length : Int) by omega)]
      rfl
  unfold g68
  rw [hL, scan_up a0.length fun i => a0.getD i 0]
  unfold upI
  cases (List.range (a0.length - 1)).all fun i => decide (a0.getD i 0 < a0.getD (i + 1) 0) <;> rfl
def badUp (l : List Rw) (i : Nat) : Bool := !upI (l.getD i zW).2.1 || (decide (0 < i) && decide ((l.getD i zW).1 ≤ (l.getD (i - 1) zW).1))
theorem badUp_any (l : List Rw) : (List.range l.length).any (badUp l) = (!(l.all fun r => upI r.2.1) || !upW l) := by
  unfold upW
  rw [← scan_up l.length fun i => (l.getD i zW).1]
  rw [show (List.range l.length).any (badUp l) = (List.range l.length).any (fun i => !upI (l.getD i zW).2.1 || (decide (0 < i) && decide ((l.getD i zW).1 ≤ (l.getD (i - 1) zW).1))) from rfl, any_or]
  congr 1
  rw [Bool.eq_iff_iff, List.any_eq_true, Bool.not_eq_true', List.all_eq_false]
  constructor
  · rintro ⟨i, hi, h⟩
    have hi := List.mem_range.1 hi
    refine ⟨l.getD i zW, ?_, by simpa using h⟩
    rw [getD_ix hi]
    exact List.getElem_mem _
  · rintro ⟨x, hx, h⟩
    obtain ⟨i, hi, rfl⟩ := List.getElem_of_mem hx
    refine ⟨i, List.mem_range.2 hi, ?_⟩
    rw [getD_ix hi]
    simpa using h
theorem g34_ok (a0 : Int) (a1 : Int) (a2 : Int) (a3 : (List (Int × ((List Int) × Unit)))) (r0 : IntKind.i64.has a0) (r1 : IntKind.i64.has a1) (r2 : IntKind.i64.has a2) (r3 : (Ty.sl (rwT)).ok a3) : g34 a0 a1 a2 a3 = some (Sp13.chkB (a0, a1, a2, a3, ()), ()) := by
  have hl := len_rw r3
  have hL : Loop (g34_s0 a3) ((0 : Int), ()) = some (bif (List.range a3.length).any (badUp a3) then (true, ((25, ()), ())) else (false, ((0, ()), ()))) := by
    refine scanN _ a3.length _ _ _ (fun i hi => ?_) ?_
    · unfold g34_s0 badUp
      simp only [Int.ofNat_eq_natCast, Int.toNat_natCast]
      rw [dT (show (i : Int) < (a3.length : Int) by omega), dT (show (0 : Int) ≤ (i : Int) by omega), wi64n (by omega)]
      cases upI (a3.getD i (0, [], ())).2.1 with
      | false => rfl
      | true =>
        by_cases h0 : 0 < i
        · rw [dT (show (i : Int) > 0 by omega), dT h0, wi64p h0 (by omega)]
          simp only [Int.toNat_natCast]
          rw [dT (show (0 : Int) ≤ ((i - 1 : Nat) : Int) by omega), dT (show ((i - 1 : Nat) : Int) < (a3.length : Int) by omega)]
          by_cases h1 : (a3.getD i (0, [], ())).1 ≤ (a3.getD (i - 1) (0, [], ())).1
          · rw [dT (show (a3.getD (i - 1) (0, [], ())).1 ≥ (a3.getD i (0, [], ())).1 from h1)]; first | rfl | (rw [dT h1]; rfl)
          · rw [dF (show ¬ (a3.getD (i - 1) (0, [], ())).1 ≥ (a3.getD i (0, [], ())).1 from h1)]; first | rfl | (rw [dF h1]; rfl)
        · rw [dF (show ¬ (i : Int) > 0 by omega), dF h0]; rfl
    · unfold g34_s0
      simp only [Int.ofNat_eq_natCast]
      rw [dF (show ¬ (a3.length : Int) < (a3.length : Int) by omega)]
      rfl
  unfold g34 chkB
  rw [hL, badUp_any]
  simp only [Int.ofNat_eq_natCast]
  have e1 : decide ((a3.length : Int) = 0) = decide (a3.length = 0) := decide_eq_decide.2 (by omega)
  have e2 : decide ((a3.length : Int) > 256) = decide (256 < a3.length) := decide_eq_decide.2 (by omega)
  rw [e1, e2]
  cases decide (a2 = 0) <;> cases decide (a3.length = 0) <;> cases Sp13.inside a0 1 99 <;> cases Sp13.inside a1 0 7 <;> cases vlen a2 <;> cases a3.any badW <;> cases decide (256 < a3.length) <;> cases (a3.any fun r => decide (24 < r.2.1.length)) <;> cases (a3.all fun r => upI r.2.1) <;> cases upW a3 <;> cases a3.any (selfW a0) <;> rfl
end Go.Abs.C13

namespace Go.Abs.C13
open Go Go.Proofs Sp13
set_option maxRecDepth 100000
theorem g75_ok (a0 : Int) (a1 : Int) (a2 : Int) (a3 : (List (Int × ((List Int) × Unit)))) (a4 : Int) (a5 : Int) (r0 : IntKind.i64.has a0) (r1 : IntKind.i64.has a1) (r2 : IntKind.i64.has a2) (r3 : (Ty.sl (rwT)).ok a3) (r4 : IntKind.i64.has a4) (r5 : IntKind.i64.has a5) : g75 a0 a1 a2 a3 a4 a5 = some (Sp13.validM (a0, a1, a2, a3, ()) a4 a5, ()) := by
  unfold g75 validM
  simp only [GE.ge]
  cases decide (chkB (a0, a1, a2, a3, ()) = 0) <;> cases decide (0 ≤ a4) <;> cases decide (a4 < 8) <;> cases decide (0 ≤ a5) <;> rfl
theorem find_ix (l : List Rw) (id : Int) : ((List.range l.length).find? fun i => decide ((l.getD i zW).1 = id)).map (fun i => l.getD i zW) = l.find? fun r => decide (r.1 = id) := by
  have h : l = (List.range l.length).map fun i => l.getD i zW := List.ext_getElem (by simp) fun i h1 h2 => by
    rw [List.getElem_map, List.getElem_range, getD_ix h1]
  conv => rhs; rw [h, List.find?_map]
  rfl
theorem findW_ix (t : Tb) (id : Int) : findW t id = match (List.range t.2.2.2.1.length).find? (fun i => decide ((t.2.2.2.1.getD i zW).1 = id)) with
    | some i => (t.2.2.2.1.getD i zW, true, ())
    | none => (zW, false, ()) := by
  unfold findW
  rw [← find_ix]
  cases (List.range t.2.2.2.1.length).find? (fun i => decide ((t.2.2.2.1.getD i zW).1 = id)) <;> rfl
theorem g76_ok (a0 : Int) (a1 : Int) (a2 : Int) (a3 : (List (Int × ((List Int) × Unit)))) (a4 : Int) (r0 : IntKind.i64.has a0) (r1 : IntKind.i64.has a1) (r2 : IntKind.i64.has a2) (r3 : (Ty.sl (rwT)).ok a3) (r4 : IntKind.i64.has a4) : g76 a0 a1 a2 a3 a4 = some (Sp13.findW (a0, a1, a2, a3, ()) a4, ()) := by
  have hl := len_rw r3
  have hL := Loop_seqE (step := g76_s0 a3 a4) (fun k => (zW, ((k : Int), ()))) a3.length (false, ((false, (zW, ())), (zW, ())))
    (fun k => bif decide ((a3.getD k zW).1 = a4) then some (true, ((true, ((a4, (a3.getD k zW).2), ())), (zW, ()))) else none) (fun k hk => by
      unfold g76_s0
      simp only [Int.ofNat_eq_natCast, Int.toNat_natCast]
      rw [dT (show (k : Int) < (a3.length : Int) by omega), dT (show (0 : Int) ≤ (k : Int) by omega), wi64n (by omega)]
      by_cases h : (a3.getD k zW).1 = a4
      · rw [dT h]; rfl
      · rw [dF h]; rfl) (by
      unfold g76_s0
      simp only [Int.ofNat_eq_natCast]
      rw [dF (show ¬ (a3.length : Int) < (a3.length : Int) by omega)]
      rfl)
  rw [findSome_find] at hL
  unfold g76
  have hL : Loop (g76_s0 a3 a4) ((0, [], ()), 0, ()) = _ := hL
  rw [hL, findW_ix]
  simp only
  cases hf : (List.range a3.length).find? (fun i => decide ((a3.getD i zW).1 = a4)) with
  | none => rfl
  | some i =>
    have e := List.find?_some hf
    have e : (a3.getD i zW).1 = a4 := of_decide_eq_true e
    show some (((a4, (a3.getD i zW).2), true, ()), ()) = some ((a3.getD i zW, true, ()), ())
    rw [← e]
theorem tmod_nat {a : Int} (h : 0 ≤ a) (n : Nat) : Int.tmod a (n : Int) = a % (n : Int) := Int.tmod_eq_emod_of_nonneg h
theorem g77_ok (a0 : Int) (a1 : (List Int)) (a2 : Int) (r0 : IntKind.i64.has a0) (r1 : (Ty.sl (.int .i64)).ok a1) (r2 : IntKind.i64.has a2) (h : (decide (0 ≤ a2)) = true) : g77 a0 a1 a2 = some (Sp13.nextW (a0, a1, ()) a2, ()) := by
  have h := of_decide_eq_true h
  unfold g77 nextW
  simp only [Int.ofNat_eq_natCast]
  by_cases h0 : a1.length = 0
  · rw [dT (show (a1.length : Int) = 0 by omega), dT h0]
    rfl
  · have e1 := Int.emod_nonneg a2 (show (a1.length : Int) ≠ 0 by omega)
    have e2 := Int.emod_lt_of_pos a2 (show 0 < (a1.length : Int) by omega)
    simp only [tmod_nat h]
    rw [dF (show ¬ (a1.length : Int) = 0 by omega), dF h0, dT e1, dT e2]
    rfl
theorem g39_ok (a0 : Int) (a1 : Int) (a2 : Int) (a3 : (List (Int × ((List Int) × Unit)))) (a4 : Int) (a5 : Int) (r0 : IntKind.i64.has a0) (r1 : IntKind.i64.has a1) (r2 : IntKind.i64.has a2) (r3 : (Ty.sl (rwT)).ok a3) (r4 : IntKind.i64.has a4) (r5 : IntKind.i64.has a5) : g39 a0 a1 a2 a3 a4 a5 = some (bif Sp13.validM (a0, a1, a2, a3, ()) a5 0 then Sp13.nextW (Sp13.findW (a0, a1, a2, a3, ()) a4).1 a5 else 0, ()) := by
  unfold g39
  cases hv : validM (a0, a1, a2, a3, ()) a5 0 with
  | false => rfl
  | true =>
    have h5 : decide (0 ≤ a5) = true := by
      unfold validM at hv
      simp only [Bool.and_eq_true] at hv
      exact hv.1.1.1.2
    rw [on_true h5]
    rfl
theorem map_take_succ {α β : Type} (f : α → β) (l : List α) (d : α) (k : Nat) (hk : k < l.length) : (l.take (k + 1)).map f = (l.take k).map f ++ [f (l.getD k d)] := by
  rw [List.take_succ_eq_append_getElem hk, List.map_append, List.map_singleton, getD_ix hk]
theorem g25_ok (a0 : Int) (a1 : Int) (a2 : Int) (a3 : (List (Int × ((List Int) × Unit)))) (a4 : Int) (a5 : Int) (a6 : Int) (a7 : (List Sp13.Cp)) (a8 : Int) (a9 : Int) (a10 : Int) (a11 : Int) (a12 : Int) (a13 : Int) (a14 : Int) (a15 : Int) (a16 : Int) (a17 : (List Int)) (r0 : IntKind.i64.has a0) (r1 : IntKind.i64.has a1) (r2 : IntKind.i64.has a2) (r3 : (Ty.sl (rwT)).ok a3) (r4 : IntKind.i64.has a4) (r5 : IntKind.u64.has a5) (r6 : IntKind.u64.has a6) (r7 : (Ty.sl (cpT)).ok a7) (r8 : IntKind.i64.has a8) (r9 : IntKind.i64.has a9) (r10 : IntKind.i64.has a10) (r11 : IntKind.i64.has a11) (r12 : IntKind.i64.has a12) (r13 : IntKind.i64.has a13) (r14 : IntKind.i64.has a14) (r15 : IntKind.i64.has a15) (r16 : IntKind.u64.has a16) (r17 : Ty.str.ok a17) : g25 a0 a1 a2 a3 a4 a5 a6 a7 a8 a9 a10 a11 a12 a13 a14 a15 a16 a17 = some (Sp13.local1 a4 (a5, a6, a7, ()) (a8, a9, a10, a11, a12, a13, a14, a15, a16, a17, ()), ()) := by
  have hl : (Bt.list a5).length ≤ 64 := by rw [list_len]; exact ones_len a5
  have hL : Loop (g25_s0 a4 a5 a8 a9 a10 a11 a12 a13 a14 a15 a16 a17) ((0 : Int), (([] : List Dl), ())) = some ((Bt.list a5).map (fun k => ((a4, only (a8, a9, a10, a11, a12, a13, a14, a15, a16, a17, ()) k, ()) : Dl)), ()) := by
    refine (Loop_seq (step := g25_s0 a4 a5 a8 a9 a10 a11 a12 a13 a14 a15 a16 a17) (fun k => ((k : Int), (((Bt.list a5).take k).map (fun k => ((a4, only (a8, a9, a10, a11, a12, a13, a14, a15, a16, a17, ()) k, ()) : Dl)), ()))) (Bt.list a5).length _ (fun k hk => ?_) ?_ 0 (Nat.zero_le _))
    · rw [map_take_succ _ _ 0 k hk]
      unfold g25_s0
      simp only [Int.ofNat_eq_natCast, Int.toNat_natCast]
      rw [dT (show (k : Int) < ((Bt.list a5).length : Int) by omega), dT (show (0 : Int) ≤ (k : Int) by omega), wi64n (by omega), ble_t (by rw [List.length_map, List.length_take]; omega)]
      rfl
    · unfold g25_s0
      simp only [Int.ofNat_eq_natCast]
      rw [dF (show ¬ ((Bt.list a5).length : Int) < ((Bt.list a5).length : Int) by omega), List.take_length]
      rfl
  unfold g25
  rw [hL]
  rfl
theorem g27_ok (a0 : Int) (a1 : Int) (a2 : Int) (a3 : (List Sp13.Cp)) (a4 : Int) (a5 : Int) (a6 : Int) (a7 : Int) (a8 : Int) (a9 : Int) (a10 : Int) (a11 : Int) (a12 : Int) (a13 : (List Int)) (r0 : IntKind.i64.has a0) (r1 : IntKind.u64.has a1) (r2 : IntKind.u64.has a2) (r3 : (Ty.sl (cpT)).ok a3) (r4 : IntKind.i64.has a4) (r5 : IntKind.i64.has a5) (r6 : IntKind.i64.has a6) (r7 : IntKind.i64.has a7) (r8 : IntKind.i64.has a8) (r9 : IntKind.i64.has a9) (r10 : IntKind.i64.has a10) (r11 : IntKind.i64.has a11) (r12 : IntKind.u64.has a12) (r13 : Ty.str.ok a13) : g27 a0 a1 a2 a3 a4 a5 a6 a7 a8 a9 a10 a11 a12 a13 = some (Sp13.local1 a0 (a1, a2, a3, ()) (a4, a5, a6, a7, a8, a9, a10, a11, a12, a13, ()), ()) := by
  have hl : (Bt.list a1).length ≤ 64 := by rw [list_len]; exact ones_len a1
  have hL : Loop (g27_s0 a0 a1 a4 a5 a6 a7 a8 a9 a10 a11 a12 a13) ((0 : Int), (([] : List Dl), ())) = some ((Bt.list a1).map (fun k => ((a0, only (a4, a5, a6, a7, a8, a9, a10, a11, a12, a13, ()) k, ()) : Dl)), ()) := by
    refine (Loop_seq (step := g27_s0 a0 a1 a4 a5 a6 a7 a8 a9 a10 a11 a12 a13) (fun k => ((k : Int), (((Bt.list a1).take k).map (fun k => ((a0, only (a4, a5, a6, a7, a8, a9, a10, a11, a12, a13, ()) k, ()) : Dl)), ()))) (Bt.list a1).length _ (fun k hk => ?_) ?_ 0 (Nat.zero_le _))
    · rw [map_take_succ _ _ 0 k hk]
      unfold g27_s0
      simp only [Int.ofNat_eq_natCast, Int.toNat_natCast]
      rw [dT (show (k : Int) < ((Bt.list a1).length : Int) by omega), dT (show (0 : Int) ≤ (k : Int) by omega), wi64n (by omega), ble_t (by rw [List.length_map, List.length_take]; omega)]
      rfl
    · unfold g27_s0
      simp only [Int.ofNat_eq_natCast]
      rw [dF (show ¬ ((Bt.list a1).length : Int) < ((Bt.list a1).length : Int) by omega), List.take_length]
      rfl
  unfold g27
  rw [hL]
  rfl
end Go.Abs.C13

namespace Go.Abs.C13
open Go Go.Proofs Sp13
set_option maxRecDepth 100000
theorem or_U {x y : Int} (hx : U x) (hy : U y) : U (Bt.or x y) := ucast (Nat.or_lt_two_pow (utn hx) (utn hy))
theorem wbor {x y : Int} (hx : U x) (hy : U y) : IntKind.wrap .u64 (Int.ofNat (BitVec.or (BitVec.ofInt 64 x) (BitVec.ofInt 64 y)).toNat) = Bt.or x y := bor hx hy
abbrev zC : Cp := (0, ([], (0, 0, 0, 0, 0, 0, 0, 0, 0, [], ()), ()), ())
end Go.Abs.C13
