/- Chapter 01: proved is that the functions on bits, lists, texts and the tape keep their contracts; no conditions but those that each theorem states. -/
import Derived.Test.YtpdbnojanodkbaaDoorRunA
import Derived.Lib.TrailingZeros
set_option linter.unusedVariables false
set_option linter.unusedSimpArgs false
/- Chapter 01: bits of numbers. -/
namespace Sp01
open Go Go.Abs

theorem on_some {α : Type} {b : Bool} {x y : α} (h : on b x = some y) : b = true ∧ x = y := by
  unfold on at h
  cases b with
  | false => cases h
  | true => exact ⟨rfl, Option.some.inj h⟩
theorem on_true {α : Type} {b : Bool} {x : α} (h : b = true) : on b x = some x := by rw [h]; rfl

/-! Numbers with given bits. -/
theorem natB_lt (f : Nat → Bool) : ∀ n, natB f n < 2 ^ n
  | 0 => by simp [natB]
  | n + 1 => by
    have := natB_lt f n
    have hb : (f n).toNat ≤ 1 := by cases f n <;> decide
    rw [natB, Nat.pow_succ]
    have : (f n).toNat * 2 ^ n ≤ 1 * 2 ^ n := Nat.mul_le_mul_right _ hb
    omega
theorem natB_bit (f : Nat → Bool) : ∀ n i, (natB f n).testBit i = (decide (i < n) && f i)
  | 0, i => by simp [natB]
  | n + 1, i => by
    have h1 := natB_lt f n
    rw [natB, Nat.add_comm, Nat.mul_comm]
    by_cases h : i < n
    · rw [Nat.testBit_two_pow_mul_add _ h1, if_pos h, natB_bit f n i]
      simp [h, show i < n + 1 by omega]
    · rw [Nat.testBit_two_pow_mul_add _ h1, if_neg h]
      by_cases h2 : i = n
      · subst h2
        cases f i <;> simp
      · have : ¬ i < n + 1 := by omega
        rw [decide_eq_false this, Bool.false_and]
        have h3 : i - n ≠ 0 := by omega
        cases f n with
        | false => simp
        | true =>
          show Nat.testBit 1 (i - n) = false
          rw [show (1 : Nat) = 2 ^ 0 from rfl, Nat.testBit_two_pow]
          simp; omega
/-- Two numbers of 64 bits with the same bits. -/
theorem eq_bits {x y : Nat} (hx : x < 2 ^ 64) (hy : y < 2 ^ 64) (h : ∀ i, i < 64 → x.testBit i = y.testBit i) : x = y := by
  refine Nat.eq_of_testBit_eq fun i => ?_
  by_cases hi : i < 64
  · exact h i hi
  · have h1 : 2 ^ 64 ≤ 2 ^ i := Nat.pow_le_pow_right (by decide) (by omega)
    rw [Nat.testBit_lt_two_pow (Nat.lt_of_lt_of_le hx h1), Nat.testBit_lt_two_pow (Nat.lt_of_lt_of_le hy h1)]
/-- A bit string, as a natural number. -/
def U (b : Int) : Prop := 0 ≤ b ∧ b < 18446744073709551616
theorem nat_of {b : Int} (h : U b) : ∃ m : Nat, b = m ∧ m < 2 ^ 64 := ⟨b.toNat, by have := h.1; omega, by have := h.2; omega⟩

theorem w64_eq (b : Int) : w64 b = 64 := by unfold w64; simp
/-! The bits in ascending order. -/
theorem ones_mem {b : Int} {k : Nat} : k ∈ ones b ↔ k < 64 ∧ tb b k = true := by simp [ones]
theorem rankN_le (b : Int) (k : Nat) : rankN b k ≤ k := by
  unfold rankN
  have := List.length_filter_le (tb b) (List.range k)
  simpa using this
theorem rankN_succ (b : Int) (k : Nat) : rankN b (k + 1) = rankN b k + (tb b k).toNat := by
  unfold rankN
  rw [List.range_succ, List.filter_append, List.length_append]
  congr 1
  cases h : tb b k <;> simp [h]
theorem count_rank (b : Int) : (ones b).length = rankN b 64 := rfl
theorem rankN_mono (b : Int) {i j : Nat} (h : i ≤ j) : rankN b i ≤ rankN b j := by
  induction j with
  | zero => have : i = 0 := by omega
            subst this; exact Nat.le_refl _
  | succ j ih =>
    by_cases hij : i = j + 1
    · subst hij; exact Nat.le_refl _
    · rw [rankN_succ]
      have := ih (by omega)
      omega
theorem filt_mono (f : Nat → Bool) {i j : Nat} (h : i ≤ j) : ((List.range i).filter f).length ≤ ((List.range j).filter f).length := by
  induction j with
  | zero => have : i = 0 := by omega
            subst this; exact Nat.le_refl _
  | succ j ih =>
    by_cases hij : i = j + 1
    · subst hij; exact Nat.le_refl _
    · have e : ((List.range (j + 1)).filter f).length = ((List.range j).filter f).length + ((List.filter f [j]).length) := by
        rw [List.range_succ, List.filter_append, List.length_append]
      have := ih (by omega)
      omega
/-- The filter of a range, place by place: the n-th bit is the one with rank n. -/
theorem filter_get (f : Nat → Bool) : ∀ (m k : Nat), k < m → f k = true → ((List.range m).filter f).getD ((List.range k).filter f).length 0 = k
  | 0, k, h, _ => by omega
  | m + 1, k, h, hf => by
    rw [List.range_succ, List.filter_append]
    by_cases hk : k = m
    · subst hk
      rw [List.getD_eq_getElem?_getD, List.getElem?_append_right (Nat.le_refl _)]
      simp [hf]
    · have hlt : k < m := by omega
      have ih := filter_get f m k hlt hf
      have hl : ((List.range k).filter f).length < ((List.range m).filter f).length := by
        have h1 : ((List.range (k + 1)).filter f).length ≤ ((List.range m).filter f).length := filt_mono f (by omega)
        have h2 : ((List.range (k + 1)).filter f).length = ((List.range k).filter f).length + 1 := by
          rw [List.range_succ, List.filter_append, List.length_append]
          simp [hf]
        omega
      rw [List.getD_eq_getElem?_getD, List.getElem?_append_left hl, ← List.getD_eq_getElem?_getD]
      exact ih
theorem ones_rank {b : Int} {k : Nat} (h : k < 64) (hb : tb b k = true) : (ones b).getD (rankN b k) 0 = k := filter_get (tb b) 64 k h hb
theorem rank_lt {b : Int} {k : Nat} (h : k < 64) (hb : tb b k = true) : rankN b k < (ones b).length := by
  have h1 := rankN_succ b k
  rw [hb] at h1
  have h2 := rankN_mono b (show k + 1 ≤ 64 by omega)
  rw [count_rank]
  have : (true : Bool).toNat = 1 := rfl
  omega
theorem filter_rank (f : Nat → Bool) : ∀ (m i : Nat), i < ((List.range m).filter f).length → ((List.range (((List.range m).filter f).getD i 0)).filter f).length = i
  | 0, i, h => by simp at h
  | m + 1, i, h => by
    have e : (List.range (m + 1)).filter f = (List.range m).filter f ++ (if f m then [m] else []) := by
      rw [List.range_succ, List.filter_append]
      by_cases hm : f m = true <;> simp [hm]
    rw [e] at h ⊢
    by_cases hi : i < ((List.range m).filter f).length
    · rw [List.getD_eq_getElem?_getD, List.getElem?_append_left hi, ← List.getD_eq_getElem?_getD]
      exact filter_rank f m i hi
    · by_cases hm : f m = true
      · rw [if_pos hm, List.length_append, List.length_singleton] at h
        have : i = ((List.range m).filter f).length := by omega
        subst this
        rw [if_pos hm, List.getD_eq_getElem?_getD, List.getElem?_append_right (Nat.le_refl _)]
        simp
      · rw [if_neg hm, List.append_nil] at h
        exact absurd h hi
theorem rank_ones {b : Int} {i : Nat} (h : i < (ones b).length) : rankN b ((ones b).getD i 0) = i ∧ (ones b).getD i 0 < 64 ∧ tb b ((ones b).getD i 0) = true := by
  have hm : (ones b).getD i 0 ∈ ones b := getD_mem h
  obtain ⟨h1, h2⟩ := ones_mem.1 hm
  exact ⟨filter_rank (tb b) 64 i h, h1, h2⟩
end Sp01

/- Chapter 01: the frame of the contracts. -/
namespace Go.Abs.C01
open Go Go.Proofs
abbrev B : Env := mkE tab gl 0 false []
theorem glue {f : Nat} {fn : Func} {n : Nat} {hp : Bool} {md : List (Nat × Nat)} (L : List (Nat × Con)) (hL : ∀ g con, lookC L g = some con → FunOk Tryd.prog B g con) (plan : Plan) {c : Con}
    (hf : Tryd.prog.funcs[f]? = some fn) (hck : fnCheck (mkE tab gl n hp md) fn c = true)
    (hF : ∀ x y, (Ty.cons (lfTy c.pre) (shTy c.ps)).ok x → c.F x = some y → (evF (fun _ _ => Loop) (mkE tab gl n hp md) (lookC L) fn plan c x).den = some y) : FunOk Tryd.prog B f c :=
  FunOk.env (E := mkE tab gl n hp md) rfl (fun_ok (pok n hp md) mix (fun g con h => FunOk.env (E := B) rfl (hL g con h)) plan hf hck hF)

end Go.Abs.C01

/- Chapter 01: the functions keep their contracts: the tape. -/
namespace Go.Abs.C01
open Go Go.Proofs Sp01

theorem wf_iff {t : Tp} : wf t = true ↔ 0 ≤ t.2.1 ∧ t.2.1 ≤ t.1.length ∧ t.1.length ≤ 600 := by
  simp [wf, and_assoc]
theorem small_iff {n : Int} : small n = true ↔ -2305843009213693952 ≤ n ∧ n ≤ 2305843009213693952 := by
  simp [small]
theorem raw_wf {t : Tp} (h : wf t = true) : wf (raw t).2 = true := by
  obtain ⟨l, a, ⟨⟩⟩ := t
  obtain ⟨h1, h2, h3⟩ := wf_iff.1 h
  simp only at h1 h2 h3
  unfold raw
  by_cases h4 : a < l.length
  · simp only [h4, decide_true, cond_true]
    exact wf_iff.2 ⟨by simp only; omega, by simp only; omega, h3⟩
  · simp only [h4, decide_false, cond_false]
    exact h
theorem next_wf {t : Tp} {n : Int} (h : wf t = true) : wf (next t n).2 = true := raw_wf h
theorem cut_nonneg {x n : Int} : 0 ≤ cut x n := by
  unfold cut
  by_cases h : n < 1
  · simp [h]
  · simp only [h, decide_false, cond_false]
    exact Int.emod_nonneg x (by omega)
theorem cut_lt {x n : Int} (h : 1 ≤ n) : cut x n < n := by
  unfold cut
  have h' : ¬ n < 1 := by omega
  simp only [h', decide_false, cond_false]
  exact Int.emod_lt_of_pos x (by omega)
theorem next_range {t : Tp} {n : Int} (h : 1 ≤ n) : 0 ≤ (next t n).1 ∧ (next t n).1 < n := ⟨cut_nonneg, cut_lt h⟩
theorem range_wf {t : Tp} {a b : Int} (h : wf t = true) : wf (range t a b).2 = true := next_wf (n := b - a + 1) h
theorem range_in {t : Tp} {a b : Int} (h : a ≤ b) : a ≤ (range t a b).1 ∧ (range t a b).1 ≤ b := by
  have := next_range (t := t) (n := b - a + 1) (by omega)
  unfold range
  simp only
  omega
theorem next_bound {t : Tp} {n : Int} : 0 ≤ (next t n).1 ∧ ((next t n).1 < n ∨ (next t n).1 = 0) := by
  by_cases h : 1 ≤ n
  · have := next_range (t := t) h
    exact ⟨this.1, .inl this.2⟩
  · refine ⟨cut_nonneg, .inr ?_⟩
    show cut (raw t).1 n = 0
    unfold cut
    have : n < 1 := by omega
    simp [this]
theorem one_wf {t : Tp} {n : Int} (h : wf t = true) : wf (one t n).2 = true := next_wf (n := n) h
theorem wild_wf {t : Tp} (h : wf t = true) : wf (wild t).2 = true := next_wf (n := (wilds.length : Int)) h
theorem tape_wf (l : List Int) : wf (Sp01.tape l) = true := wf_iff.2 ⟨by simp [Sp01.tape], by simp [Sp01.tape], by simp [Sp01.tape]; omega⟩

theorem g58_ok (a0 : (List Int)) (a1 : Int) (r0 : (Ty.sl (.int .i64)).ok a0) (r1 : IntKind.i64.has a1) (h : (Sp01.wf (a0, a1, ())) = true) : g58 a0 a1 = some (Sp01.raw (a0, a1, ())) := by
  obtain ⟨h1, h2, h3⟩ := wf_iff.1 h
  simp only at h1 h2 h3
  unfold g58 Sp01.raw
  by_cases h4 : a1 < a0.length
  · have h5 : ¬ a1 ≥ (a0.length : Int) := by omega
    have e1 : IntKind.wrap .i64 (a1 + 1) = a1 + 1 := wi64 (by omega) (by omega)
    have e2 : IntKind.wrap .i64 (a1 + 1 - 1) = a1 := by rw [show a1 + 1 - 1 = a1 by omega]; exact wi64 (by omega) (by omega)
    simp only [Int.ofNat_eq_natCast, e1, e2, h5, h4, h1, decide_true, decide_false, cond_true, cond_false, Bool.and_self]
  · have h5 : a1 ≥ (a0.length : Int) := by omega
    simp only [Int.ofNat_eq_natCast, h5, h4, decide_true, decide_false, cond_true, cond_false]

theorem g59_ok (a0 : Int) (a1 : Int) (r0 : IntKind.i64.has a0) (r1 : IntKind.i64.has a1) : g59 a0 a1 = some (Sp01.cut a0 a1, ()) := by
  have hm := (has_i64 r1).2
  unfold g59 Sp01.cut
  by_cases h : a1 < 1
  · simp [h]
  · have h0 : ¬ a1 = 0 := by omega
    have hp : 0 < a1 := by omega
    have e1 := Int.emod_nonneg a0 h0
    have e2 := Int.emod_lt_of_pos a0 hp
    have e3 : a0.tmod a1 = if 0 ≤ a0 ∨ a1 ∣ a0 then a0 % a1 else a0 % a1 - a1 := by
      rw [Int.tmod_eq_emod]
      split <;> rename_i h <;> simp [h]
      omega
    by_cases h5 : 0 ≤ a0 ∨ a1 ∣ a0
    · rw [if_pos h5] at e3
      have : ¬ a0 % a1 < 0 := by omega
      simp [h, h0, e3, this]
      rfl
    · rw [if_neg h5] at e3
      have h6 : a0 % a1 - a1 < 0 := by omega
      have h7 : a0 % a1 - a1 + a1 = a0 % a1 := by omega
      have h8 : IntKind.wrap .i64 (a0 % a1) = a0 % a1 := wi64 (by omega) (by omega)
      simp only [h, h0, e3, h6, h7, h8, decide_true, decide_false, cond_true, cond_false, Bool.not_false, Option.bind]
      rfl

theorem g22_ok (a0 : (List Int)) (a1 : Int) (a2 : Int) (r0 : (Ty.sl (.int .i64)).ok a0) (r1 : IntKind.i64.has a1) (r2 : IntKind.i64.has a2) (h : (Sp01.wf (a0, a1, ())) = true) : g22 a0 a1 a2 = some (Sp01.next (a0, a1, ()) a2) := by
  unfold g22
  rw [on_true h]
  rfl

theorem g12_ok (a0 : (List Int)) (a1 : Int) (a2 : Int) (a3 : Int) (r0 : (Ty.sl (.int .i64)).ok a0) (r1 : IntKind.i64.has a1) (r2 : IntKind.i64.has a2) (r3 : IntKind.i64.has a3) (h : (Sp01.wf (a0, a1, ()) && Sp01.small a2 && Sp01.small a3) = true) : g12 a0 a1 a2 a3 = some (Sp01.range (a0, a1, ()) a2 a3) := by
  simp only [Bool.and_eq_true] at h
  have k2 := small_iff.1 h.1.2
  have k3 := small_iff.1 h.2
  unfold g12 Sp01.range
  rw [on_true h.1.1]
  have e1 : IntKind.wrap .i64 (a3 - a2) = a3 - a2 := wi64 (by omega) (by omega)
  have e2 : IntKind.wrap .i64 (a3 - a2 + 1) = a3 - a2 + 1 := wi64 (by omega) (by omega)
  have hb := next_bound (t := (a0, a1, ())) (n := a3 - a2 + 1)
  have e3 : IntKind.wrap .i64 (a2 + (next (a0, a1, ()) (a3 - a2 + 1)).1) = a2 + (next (a0, a1, ()) (a3 - a2 + 1)).1 := wi64 (by omega) (by omega)
  simp only [e1, e2, Option.bind, e3]

theorem g53_ok (a0 : (List Int)) (a1 : Int) (a2 : Int) (r0 : (Ty.sl (.int .i64)).ok a0) (r1 : IntKind.i64.has a1) (r2 : IntKind.i64.has a2) (h : (Sp01.wf (a0, a1, ()) && Sp01.small a2) = true) : g53 a0 a1 a2 = some (Sp01.one (a0, a1, ()) a2) := by
  simp only [Bool.and_eq_true] at h
  have k2 := small_iff.1 h.2
  unfold g53 Sp01.one
  rw [on_true h.1]
  have e1 : IntKind.wrap .i64 (a2 - 1) = a2 - 1 := wi64 (by omega) (by omega)
  simp only [e1, Option.bind]

theorem g57_ok (a0 : (List Int)) (a1 : Int) (a2 : (List Int)) (r0 : (Ty.sl (.int .i64)).ok a0) (r1 : IntKind.i64.has a1) (r2 : (Ty.sl (.int .i64)).ok a2) (h : (Sp01.wf (a0, a1, ()) && decide (0 < a2.length) && decide (a2.length ≤ 1000)) = true) : g57 a0 a1 a2 = some (Sp01.pick (a0, a1, ()) a2) := by
  simp only [Bool.and_eq_true, decide_eq_true_eq] at h
  unfold g57 Sp01.pick
  rw [on_true h.1.1]
  have hb := next_range (t := (a0, a1, ())) (n := (a2.length : Int)) (by omega)
  simp only [Int.ofNat_eq_natCast, Option.bind, hb.1, hb.2, decide_true, Bool.and_self, cond_true]

theorem g54_ok (a0 : List Int) (a1 : Int) (r0 : (Ty.sl (.int .i64)).ok a0) (r1 : IntKind.i64.has a1) (h : (Sp01.wf (a0, a1, ())) = true) : g54 a0 a1 = some (Sp01.wild (a0, a1, ())) := by
  unfold g54
  rw [show (wf (a0, a1, ()) && true && true) = true by rw [h]; rfl]
  rfl

theorem g11_ok (a0 : (List Int)) (r0 : (Ty.sl (.int .i64)).ok a0) : g11 a0 = some (Sp01.tape a0, ()) := by
  unfold g11 Sp01.tape
  by_cases h : (600 : Int) < a0.length
  · have h2 : (600 : Int) ≤ a0.length := by omega
    simp [GT.gt, h, h2]
  · have : a0.take 600 = a0 := List.take_of_length_le (by omega)
    simp [GT.gt, h, this]

end Go.Abs.C01

/- Chapter 01: the functions keep their contracts: small ones, the tape's bit strings. -/
namespace Go.Abs.C01
open Go Go.Proofs Sp01
set_option maxRecDepth 100000

theorem ofN (n : Nat) : Int.ofNat n = (n : Int) := rfl
theorem uh {x : Int} (h : IntKind.u64.has x) : U x := has_u64 h
theorem utn {x : Int} (h : U x) : x.toNat < 2 ^ 64 := by have := h.1; have := h.2; omega
theorem band {x y : Int} (hx : U x) (hy : U y) : IntKind.wrap .u64 (Int.ofNat (BitVec.and (BitVec.ofInt 64 x) (BitVec.ofInt 64 y)).toNat) = ((x.toNat &&& y.toNat : Nat) : Int) := by
  have h : x.toNat &&& y.toNat < 2 ^ 64 := Nat.and_lt_two_pow _ (utn hy)
  rw [bvand hx.1 (by have := hx.2; omega) hy.1 (by have := hy.2; omega), ofN]
  exact wu64 (by omega) (by omega)
theorem bor {x y : Int} (hx : U x) (hy : U y) : IntKind.wrap .u64 (Int.ofNat (BitVec.or (BitVec.ofInt 64 x) (BitVec.ofInt 64 y)).toNat) = ((x.toNat ||| y.toNat : Nat) : Int) := by
  have h : x.toNat ||| y.toNat < 2 ^ 64 := Nat.or_lt_two_pow (utn hx) (utn hy)
  rw [bvor hx.1 (by have := hx.2; omega) hy.1 (by have := hy.2; omega), ofN]
  exact wu64 (by omega) (by omega)
theorem bxor {x y : Int} (hx : U x) (hy : U y) : IntKind.wrap .u64 (Int.ofNat (BitVec.xor (BitVec.ofInt 64 x) (BitVec.ofInt 64 y)).toNat) = ((x.toNat ^^^ y.toNat : Nat) : Int) := by
  have h : x.toNat ^^^ y.toNat < 2 ^ 64 := Nat.xor_lt_two_pow (utn hx) (utn hy)
  rw [bvxor hx.1 (by have := hx.2; omega) hy.1 (by have := hy.2; omega), ofN]
  exact wu64 (by omega) (by omega)
theorem bandn {x y : Int} (hx : U x) (hy : U y) : IntKind.wrap .u64 (Int.ofNat (BitVec.and (BitVec.ofInt 64 x) (BitVec.not (BitVec.ofInt 64 y))).toNat) = ((x.toNat &&& (18446744073709551615 - y.toNat) : Nat) : Int) := by
  have hy2 := utn hy
  have h : x.toNat &&& (18446744073709551615 - y.toNat) < 2 ^ 64 := Nat.and_lt_two_pow _ (by omega)
  have e : (BitVec.and (BitVec.ofInt 64 x) (BitVec.not (BitVec.ofInt 64 y))).toNat = x.toNat &&& (18446744073709551615 - y.toNat) := by
    show (BitVec.ofInt 64 x &&& ~~~ BitVec.ofInt 64 y).toNat = _
    rw [BitVec.toNat_and, BitVec.toNat_not, toNat_ofInt hx.1 (by have := hx.2; omega), toNat_ofInt hy.1 (by have := hy.2; omega)]
  rw [e, ofN]
  exact wu64 (by omega) (by omega)
theorem ucast {n : Nat} (h : n < 2 ^ 64) : U (n : Int) := ⟨by omega, by omega⟩

theorem g13_ok (a0 : (List Int)) (a1 : Int) (r0 : (Ty.sl (.int .i64)).ok a0) (r1 : IntKind.i64.has a1) (h : (Sp01.wf (a0, a1, ())) = true) : g13 a0 a1 = some (Sp01.length (a0, a1, ())) := by
  unfold g13 Sp01.length
  rw [on_true (by rw [h]; rfl)]
  rfl

theorem room8 {n : Nat} (h : n ≤ 5000) : Nat.ble ((n + 1) * 8) 140737488355328 = true := ble_t (by omega)
theorem room1 {n : Nat} (h : n ≤ 5000) : Nat.ble ((n + 1) * 1) 140737488355328 = true := ble_t (by omega)

theorem g51_ok (a0 : (List Int)) (a1 : Int) (a2 : Int) (a3 : Int) (r0 : (Ty.sl (.int .i64)).ok a0) (r1 : IntKind.i64.has a1) (r2 : IntKind.i64.has a2) (r3 : IntKind.i64.has a3) (h : (Sp01.wf (a0, a1, ()) && Sp01.small a3) = true) : g51 a0 a1 a2 a3 = some (Sp01.spoil (a0, a1, ()) a2 a3) := by
  simp only [Bool.and_eq_true] at h
  unfold g51 Sp01.spoil
  simp only [gt_iff_lt]
  by_cases h0 : 0 < a3
  · rw [decide_eq_true h0, on_true (b := wf (a0, a1, ()) && small a3) (by rw [h.1, h.2]; rfl)]
    simp only [cond_true, Option.bind_some]
    rw [on_true (one_wf h.1)]
    cases (one (a0, a1, ()) a3).1 <;> rfl
  · rw [decide_eq_false h0]
    rfl

theorem ints_wf {a b : Int} {t : Tp} (h : wf t = true) : ∀ k, wf (intsN a b k t).2 = true ∧ (intsN a b k t).1.length = k
  | 0 => ⟨h, rfl⟩
  | k + 1 => ⟨range_wf (a := a) (b := b) (ints_wf h k).1, by rw [intsN, List.length_append, (ints_wf h k).2]; rfl⟩
theorem ints_run {a b : Int} (ha : small a = true) (hb : small b = true) (t : Tp) (h : wf t = true) (n : Nat) (hn : n ≤ 1000) :
    Loop (g52_s0 a b) (t, [], (n : Int), ()) = some ((intsN a b n t).2, (intsN a b n t).1, ()) := by
  have key : ∀ k, k ≤ n → Loop (g52_s0 a b) ((intsN a b (n - k) t).2, (intsN a b (n - k) t).1, (k : Int), ()) = some ((intsN a b n t).2, (intsN a b n t).1, ()) := by
    intro k
    induction k with
    | zero => intro _; rw [Loop_step]; rfl
    | succ k ih =>
      intro hk
      obtain ⟨w1, w2⟩ := ints_wf (a := a) (b := b) h (n - (k + 1))
      have c : ((k + 1 : Nat) : Int) > 0 := by omega
      have e : IntKind.wrap .i64 (((k + 1 : Nat) : Int) - 1) = (k : Int) := by rw [wi64 (by omega) (by omega)]; omega
      have hs : g52_s0 a b ((intsN a b (n - (k + 1)) t).2, (intsN a b (n - (k + 1)) t).1, ((k + 1 : Nat) : Int), ()) = some (.inl ((intsN a b (n - (k + 1) + 1) t).2, (intsN a b (n - (k + 1) + 1) t).1, (k : Int), ())) := by
        unfold g52_s0
        rw [on_true (b := wf (intsN a b (n - (k + 1)) t).2 && small a && small b) (by rw [w1, ha, hb]; rfl)]
        simp only [c, decide_true, cond_true, Option.bind_some, e, room8 (n := (intsN a b (n - (k + 1)) t).1.length) (by omega)]
        rfl
      rw [Loop_step, hs]
      simp only
      rw [show n - (k + 1) + 1 = n - k by omega]
      exact ih (by omega)
  have := key n (Nat.le_refl _)
  rw [Nat.sub_self] at this
  exact this

theorem g52_ok (a0 : (List Int)) (a1 : Int) (a2 : Int) (a3 : Int) (a4 : Int) (r0 : (Ty.sl (.int .i64)).ok a0) (r1 : IntKind.i64.has a1) (r2 : IntKind.i64.has a2) (r3 : IntKind.i64.has a3) (r4 : IntKind.i64.has a4) (h : (Sp01.wf (a0, a1, ()) && decide (0 ≤ a2) && decide (a2 ≤ 1000) && Sp01.small a3 && Sp01.small a4) = true) : g52 a0 a1 a2 a3 a4 = some (Sp01.ints (a0, a1, ()) a2 a3 a4) := by
  simp only [Bool.and_eq_true, decide_eq_true_eq] at h
  obtain ⟨⟨⟨⟨h1, h2⟩, h3⟩, h4⟩, h5⟩ := h
  have hs : small a2 = true := small_iff.2 (by omega)
  have h0 : small 0 = true := by decide
  have hr := range_in (t := (a0, a1, ())) (a := 0) (b := a2) h2
  unfold g52 Sp01.ints
  rw [on_true (b := wf (a0, a1, ()) && small 0 && small a2) (by rw [h1, h0, hs]; rfl)]
  simp only [Option.bind_some]
  have hw := range_wf (a := 0) (b := a2) h1
  have hc : (range (a0, a1, ()) 0 a2).1 = (((range (a0, a1, ()) 0 a2).1.toNat : Nat) : Int) := by omega
  rw [hc, ints_run h4 h5 _ hw _ (by omega)]
  rfl

theorem text_wf {t : Tp} (h : wf t = true) : ∀ k, wf (textN k t).2 = true ∧ (textN k t).1.length = k
  | 0 => ⟨h, rfl⟩
  | k + 1 => ⟨next_wf (n := 256) (text_wf h k).1, by rw [textN, List.length_append, (text_wf h k).2]; rfl⟩
theorem text_run (t : Tp) (h : wf t = true) (n : Nat) (hn : n ≤ 1000) :
    Loop g45_s0 (t, [], (n : Int), ()) = some ((textN n t).2, (textN n t).1, ()) := by
  have key : ∀ k, k ≤ n → Loop g45_s0 ((textN (n - k) t).2, (textN (n - k) t).1, (k : Int), ()) = some ((textN n t).2, (textN n t).1, ()) := by
    intro k
    induction k with
    | zero => intro _; rw [Loop_step]; rfl
    | succ k ih =>
      intro hk
      obtain ⟨w1, w2⟩ := text_wf h (n - (k + 1))
      have c : ((k + 1 : Nat) : Int) > 0 := by omega
      have e : IntKind.wrap .i64 (((k + 1 : Nat) : Int) - 1) = (k : Int) := by rw [wi64 (by omega) (by omega)]; omega
      have r := next_range (t := (textN (n - (k + 1)) t).2) (n := 256) (by decide)
      have hs : g45_s0 ((textN (n - (k + 1)) t).2, (textN (n - (k + 1)) t).1, ((k + 1 : Nat) : Int), ()) = some (.inl ((textN (n - (k + 1) + 1) t).2, (textN (n - (k + 1) + 1) t).1, (k : Int), ())) := by
        unfold g45_s0
        rw [on_true w1]
        simp only [c, decide_true, cond_true, Option.bind_some, e, room1 (n := (textN (n - (k + 1)) t).1.length) (by omega), wu8 r.1 r.2]
        rfl
      rw [Loop_step, hs]
      simp only
      rw [show n - (k + 1) + 1 = n - k by omega]
      exact ih (by omega)
  have := key n (Nat.le_refl _)
  rw [Nat.sub_self] at this
  exact this

theorem g45_ok (a0 : (List Int)) (a1 : Int) (a2 : Int) (r0 : (Ty.sl (.int .i64)).ok a0) (r1 : IntKind.i64.has a1) (r2 : IntKind.i64.has a2) (h : (Sp01.wf (a0, a1, ()) && decide (0 ≤ a2) && decide (a2 ≤ 1000)) = true) : g45 a0 a1 a2 = some (Sp01.text (a0, a1, ()) a2) := by
  simp only [Bool.and_eq_true, decide_eq_true_eq] at h
  obtain ⟨⟨h1, h2⟩, h3⟩ := h
  have hs : small a2 = true := small_iff.2 (by omega)
  have h0 : small 0 = true := by decide
  have hr := range_in (t := (a0, a1, ())) (a := 0) (b := a2) h2
  unfold g45 Sp01.text
  rw [on_true (b := wf (a0, a1, ()) && small 0 && small a2) (by rw [h1, h0, hs]; rfl)]
  simp only [Option.bind_some]
  have hw := range_wf (a := 0) (b := a2) h1
  have hc : (range (a0, a1, ()) 0 a2).1 = (((range (a0, a1, ()) 0 a2).1.toNat : Nat) : Int) := by omega
  rw [hc, text_run _ hw _ (by omega)]
  rfl

theorem g15_ok (a0 : Int) (r0 : IntKind.i64.has a0) : g15 a0 = some (Sp01.vlen a0, ()) := by
  unfold g15 Sp01.vlen
  cases decide (a0 = 8) <;> cases decide (a0 = 16) <;> cases decide (a0 = 32) <;> rfl

theorem g16_ok (a0 : Int) (r0 : IntKind.i64.has a0) : g16 a0 = some (Sp01.vlen a0, ()) := by
  unfold g16 Sp01.vlen
  cases decide (a0 = 8) <;> cases decide (a0 = 16) <;> cases decide (a0 = 32) <;> rfl

theorem vlen_iff {n : Int} (h : vlen n = true) : n = 8 ∨ n = 16 ∨ n = 32 ∨ n = 64 := by
  simpa [vlen, or_assoc] using h

theorem pow_U {k : Nat} (h : k < 64) : U ((2 : Int) ^ k) := by
  rw [pow_cast]
  exact ucast (Nat.pow_lt_pow_right (by decide) h)
theorem bit1_U (k : Int) : U (bit1 k) := by
  unfold bit1
  by_cases h1 : k < 0
  · simp [h1, U]
  · by_cases h2 : 63 < k
    · simp [h2, U]
    · rw [decide_eq_false h1, decide_eq_false h2]
      exact pow_U (by omega)

theorem g41_ok (a0 : Int) (r0 : IntKind.i64.has a0) : g41 a0 = some (Sp01.bit1 a0, ()) := by
  unfold g41 Sp01.bit1
  simp only [gt_iff_lt]
  by_cases h1 : a0 < 0
  · rw [decide_eq_true h1]; rfl
  · by_cases h2 : 63 < a0
    · rw [decide_eq_false h1, decide_eq_true h2]; rfl
    · have e1 : IntKind.wrap .u64 a0 = a0 := wu64 (by omega) (by omega)
      have hp := pow_U (k := a0.toNat) (by omega)
      have e2 : IntKind.wrap .u64 ((2 : Int) ^ a0.toNat) = 2 ^ a0.toNat := wu64 hp.1 hp.2
      rw [decide_eq_false h1, decide_eq_false h2, e1, decide_eq_true (show (0 : Int) ≤ a0 by omega), show min a0.toNat 64 = a0.toNat by omega, pow2, Int.one_mul, e2]
      rfl

theorem g17_ok (a0 : Int) (r0 : IntKind.i64.has a0) : g17 a0 = some (Sp01.full a0, ()) := by
  unfold g17
  cases hv : vlen a0 with
  | false => unfold Sp01.full; rw [hv]; rfl
  | true => rcases vlen_iff hv with rfl | rfl | rfl | rfl <;> rfl

theorem or_full (i : Nat) : (2 ^ i - 1) ||| 2 ^ i = 2 ^ (i + 1) - 1 := by
  refine Nat.eq_of_testBit_eq fun j => ?_
  rw [Nat.testBit_or, Nat.testBit_two_pow_sub_one, Nat.testBit_two_pow, Nat.testBit_two_pow_sub_one]
  by_cases h1 : j < i
  · simp [h1]; omega
  · by_cases h2 : i = j
    · simp [h2]
    · have : ¬ j < i + 1 := by omega
      simp [h1, h2, this]
theorem full_loop (n : Nat) (hn : n ≤ 64) : Loop (g18_s0 (n : Int)) ((0 : Int), (0 : Int), ()) = some (((2 ^ n - 1 : Nat) : Int), ()) := by
  have key : ∀ k, k ≤ n → Loop (g18_s0 (n : Int)) (((n - k : Nat) : Int), ((2 ^ (n - k) - 1 : Nat) : Int), ()) = some (((2 ^ n - 1 : Nat) : Int), ()) := by
    intro k
    induction k with
    | zero =>
      intro _
      have c : ¬ ((n - 0 : Nat) : Int) < (n : Int) := by omega
      have hs : g18_s0 (n : Int) (((n - 0 : Nat) : Int), ((2 ^ (n - 0) - 1 : Nat) : Int), ()) = some (.inr (((2 ^ (n - 0) - 1 : Nat) : Int), ())) := by
        unfold g18_s0
        simp only [c, decide_false, cond_false]
      rw [Loop_step, hs]
      rfl
    | succ k ih =>
      intro hk
      have c : ((n - (k + 1) : Nat) : Int) < (n : Int) := by omega
      have e : IntKind.wrap .i64 (((n - (k + 1) : Nat) : Int) + 1) = ((n - k : Nat) : Int) := by rw [wi64 (by omega) (by omega)]; omega
      have hb : bit1 ((n - (k + 1) : Nat) : Int) = ((2 ^ (n - (k + 1)) : Nat) : Int) := by
        unfold bit1
        rw [decide_eq_false (by omega), decide_eq_false (by omega)]
        simp only [Bool.or_self, cond_false, Int.toNat_natCast]
        exact pow_cast _
      have hlt : 2 ^ (n - (k + 1)) < 2 ^ 64 := Nat.pow_lt_pow_right (by decide) (by omega)
      have hpos := Nat.two_pow_pos (n - (k + 1))
      have hs : g18_s0 (n : Int) (((n - (k + 1) : Nat) : Int), ((2 ^ (n - (k + 1)) - 1 : Nat) : Int), ()) = some (.inl (((n - k : Nat) : Int), ((2 ^ (n - k) - 1 : Nat) : Int), ())) := by
        unfold g18_s0
        simp only [c, decide_true, cond_true, e, hb]
        rw [bor (ucast (by omega)) (ucast hlt), Int.toNat_natCast, Int.toNat_natCast, or_full, show n - (k + 1) + 1 = n - k by omega]
      rw [Loop_step, hs]
      exact ih (by omega)
  have := key n (Nat.le_refl _)
  rw [Nat.sub_self] at this
  exact this
theorem full_nat {n : Int} (h : vlen n = true) : full n = ((2 ^ n.toNat - 1 : Nat) : Int) := by
  rcases vlen_iff h with rfl | rfl | rfl | rfl <;> rfl

theorem g18_ok (a0 : Int) (r0 : IntKind.i64.has a0) : g18 a0 = some (Sp01.full a0, ()) := by
  unfold g18
  cases hv : vlen a0 with
  | false => unfold Sp01.full; rw [hv]; rfl
  | true =>
    have h1 := vlen_iff hv
    rw [full_nat hv]
    obtain ⟨n, rfl⟩ : ∃ n : Nat, a0 = (n : Int) := ⟨a0.toNat, by omega⟩
    rw [full_loop n (by omega)]
    rfl

theorem U0 : U 0 := ⟨by decide, by decide⟩
theorem Um : U 18446744073709551615 := ⟨by decide, by decide⟩
theorem full_U (n : Int) : U (full n) := by
  cases hv : vlen n with
  | false => unfold full; rw [hv]; exact U0
  | true => rcases vlen_iff hv with rfl | rfl | rfl | rfl <;> exact ⟨by decide, by decide⟩
theorem not_full {x : Nat} (hx : x < 2 ^ 64) {n : Nat} (hn : n ≤ 64) : (x &&& (18446744073709551615 - (2 ^ n - 1)) = 0) ↔ x < 2 ^ n := by
  have hle : 2 ^ n ≤ 2 ^ 64 := Nat.pow_le_pow_right (by decide) hn
  have hpos := Nat.two_pow_pos n
  have e : 18446744073709551615 - (2 ^ n - 1) = 2 ^ 64 - ((2 ^ n - 1) + 1) := by omega
  have hb : ∀ i, (x &&& (18446744073709551615 - (2 ^ n - 1))).testBit i = (x.testBit i && (decide (i < 64) && !decide (i < n))) := fun i => by
    rw [Nat.testBit_and, e, Nat.testBit_two_pow_sub_succ (by omega), Nat.testBit_two_pow_sub_one]
  constructor
  · intro h
    refine Nat.lt_pow_two_of_testBit _ fun i hi => ?_
    by_cases h64 : i < 64
    · have := hb i
      rw [h] at this
      have h3 : ¬ i < n := by omega
      simp [h64, h3] at this
      exact this
    · have h1 : 2 ^ 64 ≤ 2 ^ i := Nat.pow_le_pow_right (by decide) (by omega)
      exact Nat.testBit_lt_two_pow (Nat.lt_of_lt_of_le hx h1)
  · intro h
    refine Nat.eq_of_testBit_eq fun i => ?_
    rw [hb, Nat.zero_testBit]
    by_cases h3 : i < n
    · simp [h3]
    · have h1 : 2 ^ n ≤ 2 ^ i := Nat.pow_le_pow_right (by decide) (by omega)
      rw [Nat.testBit_lt_two_pow (Nat.lt_of_lt_of_le h h1)]
      rfl
theorem valid_run {x n : Int} (hx : U x) (hv : vlen n = true) : decide (IntKind.wrap .u64 (Int.ofNat (BitVec.and (BitVec.ofInt 64 x) (BitVec.not (BitVec.ofInt 64 (full n)))).toNat) = 0) = decide (x < 2 ^ n.toNat) := by
  rw [bandn hx (full_U n), full_nat hv, Int.toNat_natCast]
  have hn : n.toNat ≤ 64 := by rcases vlen_iff hv with rfl | rfl | rfl | rfl <;> decide
  have := not_full (utn hx) hn
  have e : (x < 2 ^ n.toNat) ↔ x.toNat < 2 ^ n.toNat := by
    rw [pow_cast]
    have := hx.1
    generalize 2 ^ n.toNat = q
    omega
  have e2 : (((x.toNat &&& (18446744073709551615 - (2 ^ n.toNat - 1)) : Nat) : Int) = 0) ↔ (x.toNat &&& (18446744073709551615 - (2 ^ n.toNat - 1))) = 0 := by
    generalize x.toNat &&& (18446744073709551615 - (2 ^ n.toNat - 1)) = q
    omega
  congr 1
  exact propext (e2.trans (this.trans e.symm))

theorem g19_ok (a0 : Int) (a1 : Int) (r0 : IntKind.u64.has a0) (r1 : IntKind.i64.has a1) : g19 a0 a1 = some (Sp01.valid a0 a1, ()) := by
  unfold g19 Sp01.valid
  cases hv : vlen a1 with
  | false => rfl
  | true => rw [valid_run (uh r0) hv]; rfl

theorem g20_ok (a0 : Int) (a1 : Int) (r0 : IntKind.u64.has a0) (r1 : IntKind.i64.has a1) : g20 a0 a1 = some (Sp01.valid a0 a1, ()) := by
  unfold g20 Sp01.valid
  cases hv : vlen a1 with
  | false => rfl
  | true => rw [valid_run (uh r0) hv]; rfl

theorem wu_mod (x : Int) : IntKind.wrap .u64 x = x.emod 18446744073709551616 := wu64m x
theorem emod_U (x : Int) : U (x.emod 18446744073709551616) := ⟨Int.emod_nonneg x (by decide), Int.emod_lt_of_pos x (by decide)⟩
theorem mod_U (x : Int) : U (x % 18446744073709551616) := emod_U x
theorem bitsV_U (t : Tp) (n : Int) : U (bitsV t n).1 := by
  unfold bitsV
  simp only
  cases decide ((next (raw (raw t).2).2 6).1 = 0) with
  | true => exact U0
  | false =>
    cases decide ((next (raw (raw t).2).2 6).1 = 1) with
    | true => exact bit1_U _
    | false =>
      cases decide ((next (raw (raw t).2).2 6).1 = 2) with
      | true => exact Um
      | false => exact ucast (Nat.xor_lt_two_pow (utn (mod_U _)) (utn (emod_U _)))

theorem g14_ok (a0 : (List Int)) (a1 : Int) (a2 : Int) (r0 : (Ty.sl (.int .i64)).ok a0) (r1 : IntKind.i64.has a1) (r2 : IntKind.i64.has a2) (h : (Sp01.wf (a0, a1, ())) = true) : g14 a0 a1 a2 = some (Sp01.bits (a0, a1, ()) a2) := by
  have w1 := raw_wf h
  have w2 := raw_wf w1
  have w3 := next_wf (n := 6) w2
  have hu := bitsV_U (a0, a1, ()) a2
  unfold g14 Sp01.bits
  rw [on_true h]
  simp only [Option.bind_some]
  rw [on_true w1]
  simp only [Option.bind_some]
  rw [on_true w2]
  simp only [Option.bind_some]
  rw [on_true w3]
  have hx : IntKind.wrap .u64 (Int.ofNat (BitVec.xor (BitVec.ofInt 64 (IntKind.wrap .u64 (IntKind.wrap .u64 (raw (a0, a1, ())).1 * 11400714819323198485))) (BitVec.ofInt 64 (IntKind.wrap .u64 (raw (raw (a0, a1, ())).2).1))).toNat) = (((Nat.xor ((raw (a0, a1, ())).1.emod 18446744073709551616 * 11400714819323198485 % 18446744073709551616).toNat ((raw (raw (a0, a1, ())).2).1.emod 18446744073709551616).toNat : Nat) : Int)) := by
    rw [wu_mod (raw (a0, a1, ())).1, wu_mod (raw (raw (a0, a1, ())).2).1, wu_mod (_ * 11400714819323198485), bxor (emod_U _) (emod_U _)]
    rfl
  rw [hx]
  have hs : ∀ v : Int, U v → IntKind.wrap .u64 (Int.ofNat (BitVec.and (BitVec.ofInt 64 v) (BitVec.ofInt 64 (full a2))).toNat) = Sp01.and v (full a2) := fun v hv => band hv (full_U a2)
  have hv : bitsV (a0, a1, ()) a2 = bif decide ((next (raw (raw (a0, a1, ())).2).2 6).1 = 0) then (0, (next (raw (raw (a0, a1, ())).2).2 6).2) else
      bif decide ((next (raw (raw (a0, a1, ())).2).2 6).1 = 1) then (bit1 (next (next (raw (raw (a0, a1, ())).2).2 6).2 a2).1, (next (next (raw (raw (a0, a1, ())).2).2 6).2 a2).2) else
      bif decide ((next (raw (raw (a0, a1, ())).2).2 6).1 = 2) then (18446744073709551615, (next (raw (raw (a0, a1, ())).2).2 6).2) else
      ((((Nat.xor ((raw (a0, a1, ())).1.emod 18446744073709551616 * 11400714819323198485 % 18446744073709551616).toNat ((raw (raw (a0, a1, ())).2).1.emod 18446744073709551616).toNat : Nat) : Int)), (next (raw (raw (a0, a1, ())).2).2 6).2) := rfl
  rw [hv] at hu ⊢
  revert hu
  cases decide ((next (raw (raw (a0, a1, ())).2).2 6).1 = 0) with
  | true => intro hu; simp only [cond_true, Option.bind_some] at hu ⊢; rw [hs _ hu]
  | false =>
    cases decide ((next (raw (raw (a0, a1, ())).2).2 6).1 = 1) with
    | true => intro hu; simp only [cond_true, cond_false, Option.bind_some] at hu ⊢; rw [hs _ hu]
    | false =>
      cases decide ((next (raw (raw (a0, a1, ())).2).2 6).1 = 2) with
      | true => intro hu; simp only [cond_true, cond_false, Option.bind_some] at hu ⊢; rw [hs _ hu]
      | false => intro hu; simp only [cond_false, Option.bind_some] at hu ⊢; rw [hs _ hu]
end Go.Abs.C01

/- Chapter 01: the functions keep their contracts: counting, the lowest bit, lists of bits. -/
namespace Go.Abs.C01
open Go Go.Proofs Sp01
set_option maxRecDepth 100000

/-! The lowest bit. -/
theorem clr_bit (k m i : Nat) : (2 ^ k * (2 * m + 1) &&& (2 ^ k * (2 * m + 1) - 1)).testBit i = ((2 ^ k * (2 * m + 1)).testBit i && decide (i ≠ k)) := by
  have hp := Nat.two_pow_pos k
  have e : 2 ^ k * (2 * m + 1) - 1 = 2 ^ k * (2 * m) + (2 ^ k - 1) := by
    rw [Nat.mul_add, Nat.mul_one]
    omega
  rw [Nat.testBit_and, e, Nat.testBit_two_pow_mul_add _ (by omega), Nat.testBit_two_pow_mul]
  by_cases h1 : i < k
  · have : ¬ i ≥ k := by omega
    simp [this]
  · rw [if_neg h1]
    by_cases h2 : i = k
    · subst h2; simp
    · obtain ⟨j, rfl⟩ : ∃ j, i = k + (j + 1) := ⟨i - k - 1, by omega⟩
      have e1 : k + (j + 1) - k = j + 1 := by omega
      have e2 : (2 * m + 1).testBit (j + 1) = m.testBit j := by rw [Nat.testBit_succ]; congr 1; omega
      have e3 : (2 * m).testBit (j + 1) = m.testBit j := by rw [Nat.testBit_succ]; congr 1; omega
      rw [e1, e2, e3]
      have : k + (j + 1) ≠ k := by omega
      simp [this]
theorem low_bit (k m i : Nat) : (2 ^ k * (2 * m + 1)).testBit i = true → k ≤ i := by
  rw [Nat.testBit_two_pow_mul]
  intro h
  simp at h
  exact h.1
theorem low_self (k m : Nat) : (2 ^ k * (2 * m + 1)).testBit k = true := by
  rw [Nat.testBit_two_pow_mul]
  simp
theorem filter_cut {p q : Nat → Bool} {k : Nat} (hp : p k = true) (hlt : ∀ i, i < k → p i = false) (hq : ∀ i, q i = (p i && decide (i ≠ k))) : ∀ m, k < m → (List.range m).filter p = k :: (List.range m).filter q
  | 0, h => by omega
  | m + 1, h => by
    rw [List.range_succ, List.filter_append, List.filter_append]
    by_cases hk : k = m
    · subst hk
      have e1 : (List.range k).filter p = [] := by
        rw [List.filter_eq_nil_iff]
        intro i hi
        rw [List.mem_range] at hi
        simp [hlt i hi]
      have e2 : (List.range k).filter q = [] := by
        rw [List.filter_eq_nil_iff]
        intro i hi
        rw [List.mem_range] at hi
        simp [hq, hlt i hi]
      rw [e1, e2]
      simp [hp, hq]
    · rw [filter_cut hp hlt hq m (by omega), List.cons_append]
      congr 2
      have : m ≠ k := fun h => hk h.symm
      by_cases hm : p m = true
      · simp [hm, hq, this]
      · simp [hm, hq]
def clr (b : Int) : Int := Sp01.and b (b - 1)
theorem ones_cons {b : Int} (hb : U b) (h : b ≠ 0) : ones b = Lib.ctz 64 b.toNat :: ones (clr b) ∧ Lib.ctz 64 b.toNat < 64 := by
  obtain ⟨n, rfl, hn⟩ := nat_of hb
  have h0 : 0 < n := by omega
  obtain ⟨m, h1, h2⟩ := Lib.ctzFrom_spec 64 n h0 hn
  have hc : Lib.ctz 64 n = Lib.ctzFrom 64 n := by unfold Lib.ctz; rw [if_neg (by omega)]
  simp only [Int.toNat_natCast]
  rw [hc]
  refine ⟨?_, h2⟩
  unfold ones
  refine filter_cut (k := Lib.ctzFrom 64 n) ?_ ?_ (fun i => ?_) 64 h2
  · show n.testBit _ = true
    conv => lhs; arg 1; rw [h1]
    exact low_self _ _
  · intro i hi
    show n.testBit i = false
    cases hq : n.testBit i with
    | false => rfl
    | true =>
      rw [h1] at hq
      have := low_bit _ _ _ hq
      omega
  · show (clr (n : Int)).toNat.testBit i = (n.testBit i && _)
    unfold clr Sp01.and
    rw [Int.toNat_natCast, Int.toNat_natCast, show ((n : Int) - 1).toNat = n - 1 by omega]
    have := clr_bit (Lib.ctzFrom 64 n) m i
    rw [← h1] at this
    exact this
theorem clr_run {b : Int} (hb : U b) (h : b ≠ 0) : IntKind.wrap .u64 (Int.ofNat (BitVec.and (BitVec.ofInt 64 b) (BitVec.ofInt 64 (IntKind.wrap .u64 (b - 1)))).toNat) = clr b ∧ U (clr b) := by
  have h1 := hb.1
  have h2 := hb.2
  have e : IntKind.wrap .u64 (b - 1) = b - 1 := wu64 (by omega) (by omega)
  have hu : U (b - 1) := ⟨by omega, by omega⟩
  rw [e, band hb hu]
  exact ⟨rfl, ucast (Nat.and_lt_two_pow _ (utn hu))⟩
theorem ones_zero : ones 0 = [] := by decide
theorem ones_len (b : Int) : (ones b).length ≤ 64 := rankN_le b 64
theorem list_get (b : Int) (i : Nat) (h : i < (ones b).length) : (list b).getD i 0 = (((ones b).getD i 0 : Nat) : Int) := by
  unfold list
  rw [List.getD_eq_getElem?_getD, List.getElem?_map, List.getD_eq_getElem?_getD, List.getElem?_eq_getElem h]
  rfl
theorem list_len (b : Int) : (list b).length = (ones b).length := by simp [list]
theorem nth0 {b : Int} (hb : U b) (h : b ≠ 0) : Sp01.nth b 0 = ((Lib.ctz 64 b.toNat : Nat) : Int) := by
  obtain ⟨h1, _⟩ := ones_cons hb h
  have hl : 0 < (ones b).length := by rw [h1]; simp
  unfold Sp01.nth
  have c : ¬ (((list b).length : Nat) : Int) ≤ 0 := by rw [list_len]; omega
  rw [decide_eq_false (show ¬ (0 : Int) < 0 by omega), decide_eq_false c]
  show (list b).getD 0 0 = _
  rw [list_get b 0 hl, h1]
  rfl

theorem tab_nat : ∀ i : Fin 64, ([0,1,56,2,57,49,28,3,61,58,42,50,38,29,17,4,62,47,59,36,45,43,51,22,53,39,33,30,24,18,12,5,63,55,48,27,60,41,37,16,46,35,44,21,52,32,23,11,54,26,40,15,34,20,31,10,25,14,19,9,13,8,7,6] : List Int).getD i.val 0 = ((Lib.deBruijn64tab.getD i.val 0 : Nat) : Int) := by decide +kernel

def tabL : List Int := [0,1,56,2,57,49,28,3,61,58,42,50,38,29,17,4,62,47,59,36,45,43,51,22,53,39,33,30,24,18,12,5,63,55,48,27,60,41,37,16,46,35,44,21,52,32,23,11,54,26,40,15,34,20,31,10,25,14,19,9,13,8,7,6]
def tz (q : Int) : Option (Int × Unit) := bif (decide (0 ≤ q)) && (decide (q < 64)) then (bif Nat.blt (0 + (Int.toNat q) * 1) 64 then some (IntKind.wrap .i64 (List.getD tabL (0 + (Int.toNat q) * 1) 0), ()) else none) else none
theorem tz_at {q : Nat} (h : q < 64) : tz (q : Int) = some (((Lib.deBruijn64tab.getD q 0 : Nat) : Int), ()) := by
  have ht : tabL.getD q 0 = ((Lib.deBruijn64tab.getD q 0 : Nat) : Int) := tab_nat ⟨q, h⟩
  have hb : ∀ i : Fin 64, Lib.deBruijn64tab.getD i.val 0 < 64 := by decide +kernel
  have hb := hb ⟨q, h⟩
  simp only at hb
  unfold tz
  rw [decide_eq_true (show (0 : Int) ≤ (q : Int) by omega), decide_eq_true (show (q : Int) < 64 by omega), Int.toNat_natCast, Nat.zero_add, Nat.mul_one, blt_t h, ht, wi64 (by omega) (by omega)]
  rfl
theorem tz_low {b : Int} (hb : U b) (h0 : b ≠ 0) : Int.fdiv (IntKind.wrap .u64 (IntKind.wrap .u64 (Int.ofNat (BitVec.and (BitVec.ofInt 64 b) (BitVec.ofInt 64 (IntKind.wrap .u64 (0 - b)))).toNat) * 285870213051353865)) 288230376151711744 = ((2 ^ Lib.ctz 64 b.toNat * 285870213051353865 % 18446744073709551616 / 288230376151711744 : Nat) : Int) := by
  obtain ⟨n, rfl, hn⟩ := nat_of hb
  obtain ⟨q1, q2⟩ := Lib.lowest_bit 64 n (by omega) hn
  have e1 : IntKind.wrap .u64 (0 - (n : Int)) = ((2 ^ 64 - n : Nat) : Int) := by rw [wu64m]; omega
  rw [e1, band hb (ucast (by omega)), Int.toNat_natCast, Int.toNat_natCast, q1, wu64m, Int.fdiv_eq_ediv_of_nonneg _ (by decide)]
  generalize 2 ^ Lib.ctz 64 n = q
  omega
theorem g61_short (a0 : Int) : g61 a0 = bif decide (a0 = 0) then some (64, ()) else tz (Int.fdiv (IntKind.wrap .u64 (IntKind.wrap .u64 (Int.ofNat (BitVec.and (BitVec.ofInt 64 a0) (BitVec.ofInt 64 (IntKind.wrap .u64 (0 - a0)))).toNat) * 285870213051353865)) 288230376151711744) := rfl

theorem g61_ok (a0 : Int) (r0 : IntKind.u64.has a0) (h : (!decide (a0 = 0)) = true) : g61 a0 = some (Sp01.nth a0 0, ()) := by
  have hb := uh r0
  have h0 : a0 ≠ 0 := by simpa using h
  obtain ⟨q3, q4⟩ := Lib.deBruijn64_at _ (ones_cons hb h0).2
  rw [g61_short, decide_eq_false h0, tz_low hb h0, tz_at q3, q4, nth0 hb h0]
  rfl

theorem g23_ok (a0 : Int) (r0 : IntKind.u64.has a0) : g23 a0 = some (Sp01.count a0, ()) := by
  rfl

theorem g25_ok (a0 : Int) (r0 : IntKind.u64.has a0) : g25 a0 = some (Sp01.nth a0 0, ()) := by
  unfold g25
  by_cases h : a0 = 0
  · subst h
    rfl
  · rw [decide_eq_false h]
    rfl

theorem room64 {n : Nat} (h : n ≤ 64) : Nat.ble ((n + 1) * 8) 140737488355328 = true := ble_t (by omega)
theorem list_cons {b : Int} (hb : U b) (h : b ≠ 0) : list b = Sp01.nth b 0 :: list (clr b) := by
  rw [nth0 hb h]
  unfold list
  rw [(ones_cons hb h).1, List.map_cons]
theorem list_loop : ∀ (n : Nat) (acc : List Int) (b : Int), U b → (ones b).length = n → acc.length + n ≤ 64 → Loop g28_s0 (acc, b, ()) = some (acc ++ list b, ())
  | 0, acc, b, hb, hn, _ => by
    have h0 : b = 0 := by
      by_cases h : b = 0
      · exact h
      · have := (ones_cons hb h).1
        rw [this] at hn
        simp at hn
    subst h0
    rw [Loop_step]
    show some (acc, ()) = some (acc ++ list 0, ())
    unfold list
    rw [ones_zero]
    simp
  | n + 1, acc, b, hb, hn, hl => by
    have h0 : b ≠ 0 := by
      intro h
      subst h
      rw [ones_zero] at hn
      simp at hn
    obtain ⟨q1, q2⟩ := clr_run hb h0
    have hn2 : (ones (clr b)).length = n := by
      rw [(ones_cons hb h0).1, List.length_cons] at hn
      omega
    have hs : g28_s0 (acc, b, ()) = some (.inl (acc ++ [Sp01.nth b 0], clr b, ())) := by
      unfold g28_s0
      simp only [h0, decide_false, Bool.not_false, cond_true, room64 (n := acc.length) (by omega), q1]
    rw [Loop_step, hs]
    simp only
    rw [list_loop n _ _ q2 hn2 (by simp only [List.length_append, List.length_singleton]; omega), list_cons hb h0, List.append_assoc]
    rfl

theorem g28_ok (a0 : Int) (r0 : IntKind.u64.has a0) : g28 a0 = some (Sp01.list a0, ()) := by
  unfold g28
  rw [list_loop _ [] a0 (uh r0) rfl (by have := ones_len a0; simp only [List.length_nil]; omega)]
  rfl

theorem has_tb {b : Int} {k : Nat} (h : k < 64) : has b (k : Int) = tb b k := by
  unfold has
  rw [decide_eq_true (show (0 : Int) ≤ (k : Int) by omega), decide_eq_true (show (k : Int) < 64 by omega)]
  rfl
def listN (b : Int) (k : Nat) : List Int := ((List.range k).filter (tb b)).map fun (k : Nat) => (k : Int)
theorem listN_succ (b : Int) (k : Nat) : listN b (k + 1) = listN b k ++ (if tb b k then [(k : Int)] else []) := by
  unfold listN
  rw [List.range_succ, List.filter_append, List.map_append]
  congr 1
  by_cases h : tb b k = true <;> simp [h]
theorem listN_len (b : Int) (k : Nat) : (listN b k).length ≤ k := by
  unfold listN
  rw [List.length_map]
  exact rankN_le b k

theorem g29_ok (a0 : Int) (r0 : IntKind.u64.has a0) : g29 a0 = some (Sp01.list a0, ()) := by
  have key : ∀ k, k ≤ 64 → Loop (g29_s0 a0) (((64 - k : Nat) : Int), listN a0 (64 - k), ()) = some (listN a0 64, ()) := by
    intro k
    induction k with
    | zero => intro _; rw [Loop_step]; rfl
    | succ k ih =>
      intro hk
      have c : ((64 - (k + 1) : Nat) : Int) < 64 := by omega
      have e : IntKind.wrap .i64 (((64 - (k + 1) : Nat) : Int) + 1) = ((64 - k : Nat) : Int) := by rw [wi64 (by omega) (by omega)]; omega
      have hl := listN_len a0 (64 - (k + 1))
      have hs : g29_s0 a0 (((64 - (k + 1) : Nat) : Int), listN a0 (64 - (k + 1)), ()) = some (.inl (((64 - k : Nat) : Int), listN a0 (64 - k), ())) := by
        have e2 : 64 - k = 64 - (k + 1) + 1 := by omega
        unfold g29_s0
        rw [e2, listN_succ, ← e2]
        simp only [c, decide_true, cond_true, has_tb (b := a0) (show 64 - (k + 1) < 64 by omega), room64 (n := (listN a0 (64 - (k + 1))).length) (by omega), e]
        cases tb a0 (64 - (k + 1)) <;> simp
      rw [Loop_step, hs]
      exact ih (by omega)
  have h := key 64 (Nat.le_refl _)
  unfold g29
  have h' : Loop (g29_s0 a0) ((0 : Int), [], ()) = some (listN a0 64, ()) := h
  rw [h']
  rfl

theorem g24_ok (a0 : Int) (r0 : IntKind.u64.has a0) : g24 a0 = some (Sp01.count a0, ()) := by
  rfl

theorem g26_ok (a0 : Int) (r0 : IntKind.u64.has a0) : g26 a0 = some (Sp01.nth a0 0, ()) := by
  rfl

theorem g31_ok (a0 : Int) (a1 : Int) (r0 : IntKind.u64.has a0) (r1 : IntKind.i64.has a1) : g31 a0 a1 = some (Sp01.nth a0 a1, ()) := by
  unfold g31 Sp01.nth
  simp only [Int.ofNat_eq_natCast, ge_iff_le]
  by_cases h1 : a1 < 0
  · rw [decide_eq_true h1]; rfl
  · by_cases h2 : ((list a0).length : Int) ≤ a1
    · rw [decide_eq_false h1, decide_eq_true h2]; rfl
    · rw [decide_eq_false h1, decide_eq_false h2, decide_eq_true (show (0 : Int) ≤ a1 by omega), decide_eq_true (show a1 < ((list a0).length : Int) by omega)]
      rfl

theorem nth_loop (n : Nat) (hn : n ≤ 64) : ∀ (k : Nat) (b : Int), k ≤ n → U b → k < (ones b).length → ∃ b', Loop (g30_s0 (n : Int)) (((n - k : Nat) : Int), b, ()) = some (b', ()) ∧ U b' ∧ ones b' = (ones b).drop k
  | 0, b, _, hb, _ => by
    refine ⟨b, ?_, hb, rfl⟩
    have c : ¬ ((n - 0 : Nat) : Int) < (n : Int) := by omega
    have hs : g30_s0 (n : Int) (((n - 0 : Nat) : Int), b, ()) = some (.inr (b, ())) := by
      unfold g30_s0
      simp only [c, decide_false, cond_false]
    rw [Loop_step, hs]
  | k + 1, b, hk, hb, hl => by
    have h0 : b ≠ 0 := by
      intro h
      subst h
      rw [ones_zero] at hl
      simp at hl
    obtain ⟨q1, q2⟩ := clr_run hb h0
    have hc := (ones_cons hb h0).1
    have c : ((n - (k + 1) : Nat) : Int) < (n : Int) := by omega
    have e : IntKind.wrap .i64 (((n - (k + 1) : Nat) : Int) + 1) = ((n - k : Nat) : Int) := by rw [wi64 (by omega) (by omega)]; omega
    have hs : g30_s0 (n : Int) (((n - (k + 1) : Nat) : Int), b, ()) = some (.inl (((n - k : Nat) : Int), clr b, ())) := by
      unfold g30_s0
      simp only [c, decide_true, cond_true, e, q1]
    obtain ⟨b', h1, h2, h3⟩ := nth_loop n hn k (clr b) (by omega) q2 (by rw [hc, List.length_cons] at hl; omega)
    refine ⟨b', by rw [Loop_step, hs]; exact h1, h2, ?_⟩
    rw [h3, hc]
    rfl

theorem g30_ok (a0 : Int) (a1 : Int) (r0 : IntKind.u64.has a0) (r1 : IntKind.i64.has a1) : g30 a0 a1 = some (Sp01.nth a0 a1, ()) := by
  have hb := uh r0
  have hl := ones_len a0
  unfold g30
  simp only [ge_iff_le]
  by_cases h1 : a1 < 0
  · unfold Sp01.nth
    rw [decide_eq_true h1]; rfl
  · by_cases h2 : count a0 ≤ a1
    · unfold Sp01.nth
      rw [decide_eq_false h1, decide_eq_true h2, show decide (((list a0).length : Int) ≤ a1) = true from decide_eq_true h2]; rfl
    · have hc : a1 < ((ones a0).length : Int) := by
        have h3 : count a0 = ((ones a0).length : Int) := by unfold count; rw [list_len]
        omega
      obtain ⟨n, rfl⟩ : ∃ n : Nat, a1 = (n : Int) := ⟨a1.toNat, by omega⟩
      obtain ⟨b', h3, h4, h5⟩ := nth_loop n (by omega) n a0 (Nat.le_refl _) hb (by omega)
      rw [Nat.sub_self] at h3
      have h3' : Loop (g30_s0 (n : Int)) ((0 : Int), a0, ()) = some (b', ()) := h3
      rw [decide_eq_false h1, decide_eq_false h2, h3']
      simp only [Bool.not_false, cond_true, cond_false, Option.bind_some]
      have hd : (ones a0).drop n = (ones a0).getD n 0 :: (ones a0).drop (n + 1) := by
        rw [List.drop_eq_getElem_cons (by omega), List.getD_eq_getElem?_getD, List.getElem?_eq_getElem (by omega)]
        rfl
      have hl' : 0 < (ones b').length := by rw [h5, hd]; simp
      have e1 : Sp01.nth b' 0 = (((ones a0).getD n 0 : Nat) : Int) := by
        unfold Sp01.nth
        have c : ¬ (((list b').length : Nat) : Int) ≤ 0 := by rw [list_len]; omega
        rw [decide_eq_false (show ¬ (0 : Int) < 0 by omega), decide_eq_false c]
        show (list b').getD 0 0 = _
        rw [list_get b' 0 hl', h5, hd]
        rfl
      have e2 : Sp01.nth a0 (n : Int) = (((ones a0).getD n 0 : Nat) : Int) := by
        unfold Sp01.nth
        have c : ¬ (((list a0).length : Nat) : Int) ≤ (n : Int) := by rw [list_len]; omega
        rw [decide_eq_false h1, decide_eq_false c]
        show (list a0).getD n 0 = _
        rw [list_get a0 n (by omega)]
      rw [e1, e2]

theorem filter_lt (p : Nat → Bool) (k : Nat) : ∀ m, k ≤ m → (List.range m).filter (fun i => p i && decide (i < k)) = (List.range k).filter p
  | 0, h => by have : k = 0 := by omega
               subst this; rfl
  | m + 1, h => by
    by_cases hk : k = m + 1
    · subst hk
      refine List.filter_congr fun i hi => ?_
      rw [List.mem_range] at hi
      simp [hi]
    · rw [List.range_succ, List.filter_append, filter_lt p k m (by omega)]
      have : ¬ m < k := by omega
      simp [this]
theorem count_mask {b : Int} {k : Nat} (hk : k ≤ 64) : count (((b.toNat &&& (2 ^ k - 1) : Nat) : Int)) = (rankN b k : Int) := by
  unfold count
  rw [list_len]
  unfold ones rankN
  have e : tb (((b.toNat &&& (2 ^ k - 1) : Nat) : Int)) = fun i => tb b i && decide (i < k) := by
    funext i
    unfold tb
    rw [Int.toNat_natCast, Nat.testBit_and, Nat.testBit_two_pow_sub_one]
  rw [e, filter_lt (tb b) k 64 hk]

theorem g32_ok (a0 : Int) (a1 : Int) (r0 : IntKind.u64.has a0) (r1 : IntKind.i64.has a1) : g32 a0 a1 = some (Sp01.rank a0 a1, ()) := by
  have hb := uh r0
  unfold g32 Sp01.rank
  simp only [gt_iff_lt]
  by_cases h1 : a1 < 0
  · rw [decide_eq_true h1, show a1.toNat = 0 by omega]; rfl
  · by_cases h2 : 63 < a1
    · rw [decide_eq_false h1, decide_eq_true h2, show min a1.toNat 64 = 64 by omega]
      simp only [cond_false, cond_true]
      unfold count
      rw [list_len]
      rfl
    · obtain ⟨n, rfl⟩ : ∃ n : Nat, a1 = (n : Int) := ⟨a1.toNat, by omega⟩
      have hp := pow_U (k := n) (by omega)
      have hpos := pow2_pos n
      have hlt : 2 ^ n < 2 ^ 64 := Nat.pow_lt_pow_right (by decide) (by omega)
      have hpn := Nat.two_pow_pos n
      rw [decide_eq_false h1, decide_eq_false h2, decide_eq_true (show (0 : Int) ≤ (n : Int) by omega), Int.toNat_natCast, show min n 64 = n by omega, pow2, Int.one_mul, wu64 hp.1 hp.2, pow_cast]
      have e : IntKind.wrap .u64 (((2 ^ n : Nat) : Int) - 1) = ((2 ^ n - 1 : Nat) : Int) := by
        generalize 2 ^ n = q at hlt hpn
        rw [wu64 (by omega) (by omega)]
        omega
      rw [e]
      simp only [cond_false, cond_true]
      rw [band hb (ucast (by omega)), Int.toNat_natCast, count_mask (by omega)]

theorem rank_loop (b : Int) (m : Nat) (hm : m ≤ 64) (k : Int) (h1 : ∀ i : Nat, i < m → (i : Int) < k) (h2 : m = 64 ∨ k ≤ (m : Int)) :
    Loop (g33_s0 b k) ((0 : Int), (0 : Int), ()) = some ((rankN b m : Int), ()) := by
  have key : ∀ j, j ≤ m → Loop (g33_s0 b k) (((m - j : Nat) : Int), (rankN b (m - j) : Int), ()) = some ((rankN b m : Int), ()) := by
    intro j
    induction j with
    | zero =>
      intro _
      have hs : g33_s0 b k (((m - 0 : Nat) : Int), (rankN b (m - 0) : Int), ()) = some (.inr ((rankN b m : Int), ())) := by
        unfold g33_s0
        rcases h2 with h2 | h2
        · have c : ¬ ((m - 0 : Nat) : Int) < 64 := by omega
          simp only [c, decide_false, cond_false, Option.bind_some]
          rfl
        · have c : ¬ ((m - 0 : Nat) : Int) < k := by omega
          by_cases c2 : ((m - 0 : Nat) : Int) < 64
          · simp only [c, c2, decide_false, decide_true, cond_true, cond_false, Option.bind_some]
            rfl
          · simp only [c2, decide_false, cond_false, Option.bind_some]
            rfl
      rw [Loop_step, hs]
    | succ j ih =>
      intro hj
      have c1 : ((m - (j + 1) : Nat) : Int) < 64 := by omega
      have c2 : ((m - (j + 1) : Nat) : Int) < k := h1 _ (by omega)
      have e : IntKind.wrap .i64 (((m - (j + 1) : Nat) : Int) + 1) = ((m - j : Nat) : Int) := by rw [wi64 (by omega) (by omega)]; omega
      have hr := rankN_le b (m - (j + 1))
      have e2 : m - j = m - (j + 1) + 1 := by omega
      have er : IntKind.wrap .i64 ((rankN b (m - (j + 1)) : Int) + 1) = (rankN b (m - (j + 1)) : Int) + 1 := wi64 (by omega) (by omega)
      have hs : g33_s0 b k (((m - (j + 1) : Nat) : Int), (rankN b (m - (j + 1)) : Int), ()) = some (.inl (((m - j : Nat) : Int), (rankN b (m - j) : Int), ())) := by
        unfold g33_s0
        simp only [c1, c2, decide_true, cond_true, Option.bind_some, has_tb (b := b) (show m - (j + 1) < 64 by omega), e, er]
        rw [show rankN b (m - j) = rankN b (m - (j + 1)) + (tb b (m - (j + 1))).toNat by rw [e2, rankN_succ]]
        cases tb b (m - (j + 1))
        · rfl
        · simp
      rw [Loop_step, hs]
      exact ih (by omega)
  have := key m (Nat.le_refl _)
  rw [Nat.sub_self] at this
  exact this

theorem g33_ok (a0 : Int) (a1 : Int) (r0 : IntKind.u64.has a0) (r1 : IntKind.i64.has a1) : g33 a0 a1 = some (Sp01.rank a0 a1, ()) := by
  unfold g33 Sp01.rank
  by_cases h : a1 < 0
  · rw [rank_loop a0 0 (by omega) a1 (fun i hi => by omega) (.inr (by omega)), show min a1.toNat 64 = 0 by omega]
    rfl
  · rw [rank_loop a0 (min a1.toNat 64) (by omega) a1 (fun i hi => by omega) (by omega)]
    rfl
end Go.Abs.C01

/- Chapter 01: the functions keep their contracts: counting the bits of a number byte by byte. -/
namespace Go.Abs.C01
open Go Go.Proofs Sp01
set_option maxRecDepth 100000

/-! Numbers as bytes. -/
def num : List Nat → Nat
  | [] => 0
  | a :: r => a + 256 * num r
def mask (c : Nat) : Nat → Nat
  | 0 => 0
  | k + 1 => c + 256 * mask c k
theorem and_byte {a b c d : Nat} (ha : a < 256) (hc : c < 256) : (a + 256 * b) &&& (c + 256 * d) = (a &&& c) + 256 * (b &&& d) := by
  have h0 : (a &&& c) < 2 ^ 8 := Nat.and_lt_two_pow _ (by omega)
  refine Nat.eq_of_testBit_eq fun i => ?_
  have e : ∀ x y : Nat, x + 256 * y = 2 ^ 8 * y + x := fun x y => by omega
  rw [e, e, e, Nat.testBit_and, Nat.testBit_two_pow_mul_add _ (by omega), Nat.testBit_two_pow_mul_add _ (by omega), Nat.testBit_two_pow_mul_add _ h0]
  by_cases hi : i < 8
  · rw [if_pos hi, if_pos hi, if_pos hi, Nat.testBit_and]
  · rw [if_neg hi, if_neg hi, if_neg hi, Nat.testBit_and]
theorem num_lt : ∀ (l : List Nat), (∀ a ∈ l, a < 256) → num l < 256 ^ l.length
  | [], _ => by simp [num]
  | a :: r, h => by
    have h1 := h a (List.mem_cons_self ..)
    have h2 := num_lt r fun x hx => h x (List.mem_cons_of_mem _ hx)
    simp only [num, List.length_cons, Nat.pow_succ]
    omega
def p1 (a : Nat) : Nat := (a / 2 &&& 85) + (a &&& 85)
def p2 (a : Nat) : Nat := (a / 4 &&& 51) + (a &&& 51)
def p3 (a : Nat) : Nat := (a / 16 + a) &&& 15
theorem f1 : ∀ a : Fin 256, ∀ e : Fin 2, (a.val / 2 + 128 * e.val) &&& 85 = a.val / 2 &&& 85 := by decide +kernel
theorem f2 : ∀ a : Fin 256, ∀ e : Fin 4, (a.val / 4 + 64 * e.val) &&& 51 = a.val / 4 &&& 51 := by decide +kernel
theorem f1r : ∀ a : Fin 256, p1 a.val < 256 := by decide +kernel
theorem f2r : ∀ a : Fin 256, p2 (p1 a.val) % 16 ≤ 4 ∧ p2 (p1 a.val) / 16 ≤ 4 := by decide +kernel
theorem f3r : ∀ a : Fin 256, p3 (p2 (p1 a.val)) = ((List.range 8).filter a.val.testBit).length := by decide +kernel
theorem n1 : ∀ (l : List Nat), (∀ a ∈ l, a < 256) → (num l / 2 &&& mask 85 l.length) + (num l &&& mask 85 l.length) = num (l.map p1)
  | [], _ => by simp [num, mask]
  | a :: r, h => by
    have h1 := h a (List.mem_cons_self ..)
    have ih := n1 r fun x hx => h x (List.mem_cons_of_mem _ hx)
    have e : (a + 256 * num r) / 2 = (a / 2 + 128 * (num r % 2)) + 256 * (num r / 2) := by omega
    have k := f1 ⟨a, h1⟩ ⟨num r % 2, by omega⟩
    simp only at k
    simp only [num, mask, List.length_cons, List.map_cons]
    rw [e, and_byte (by omega) (by decide), and_byte h1 (by decide), k, ← ih]
    unfold p1
    omega
theorem n2 : ∀ (l : List Nat), (∀ a ∈ l, a < 256) → (num l / 4 &&& mask 51 l.length) + (num l &&& mask 51 l.length) = num (l.map p2)
  | [], _ => by simp [num, mask]
  | a :: r, h => by
    have h1 := h a (List.mem_cons_self ..)
    have ih := n2 r fun x hx => h x (List.mem_cons_of_mem _ hx)
    have e : (a + 256 * num r) / 4 = (a / 4 + 64 * (num r % 4)) + 256 * (num r / 4) := by omega
    have k := f2 ⟨a, h1⟩ ⟨num r % 4, by omega⟩
    simp only at k
    simp only [num, mask, List.length_cons, List.map_cons]
    rw [e, and_byte (by omega) (by decide), and_byte h1 (by decide), k, ← ih]
    unfold p2
    omega
theorem low15 (x : Nat) : x &&& 15 = x % 16 := by
  rw [show (15 : Nat) = 2 ^ 4 - 1 from rfl, Nat.and_two_pow_sub_one_eq_mod]
theorem num_mod16 : ∀ (l : List Nat), (∀ a ∈ l, a % 16 ≤ 4 ∧ a / 16 ≤ 4) → num l % 16 ≤ 4
  | [], _ => by simp [num]
  | a :: r, h => by
    have h1 := h a (List.mem_cons_self ..)
    simp only [num]
    omega
theorem n3 : ∀ (l : List Nat), (∀ a ∈ l, a % 16 ≤ 4 ∧ a / 16 ≤ 4) → (num l / 16 + num l) &&& mask 15 l.length = num (l.map p3)
  | [], _ => by simp [num, mask]
  | a :: r, h => by
    have h1 := h a (List.mem_cons_self ..)
    have hr : ∀ x ∈ r, x % 16 ≤ 4 ∧ x / 16 ≤ 4 := fun x hx => h x (List.mem_cons_of_mem _ hx)
    have ih := n3 r hr
    have h2 := num_mod16 r hr
    have e : (a + 256 * num r) / 16 + (a + 256 * num r) = (a / 16 + 16 * (num r % 16) + a) + 256 * (num r / 16 + num r) := by omega
    simp only [num, mask, List.length_cons, List.map_cons]
    rw [e, and_byte (by omega) (by decide), ih]
    unfold p3
    rw [low15, low15]
    omega
/-- The eight bytes of a number. -/
def by8 (x : Nat) : List Nat := [x % 256, x / 256 % 256, x / 65536 % 256, x / 16777216 % 256, x / 4294967296 % 256, x / 1099511627776 % 256, x / 281474976710656 % 256, x / 72057594037927936 % 256]
theorem by8_num {x : Nat} (h : x < 2 ^ 64) : num (by8 x) = x := by
  simp only [num, by8]
  omega
theorem by8_lt {x : Nat} : ∀ a ∈ by8 x, a < 256 := by
  intro a ha
  simp only [by8, List.mem_cons, List.not_mem_nil, or_false] at ha
  omega
def rk (x n : Nat) : Nat := ((List.range n).filter x.testBit).length
theorem rk_add (a b n : Nat) (ha : a < 256) : rk (a + 256 * b) (8 + n) = rk a 8 + rk b n := by
  unfold rk
  rw [List.range_add, List.filter_append, List.length_append]
  have e : a + 256 * b = 2 ^ 8 * b + a := by omega
  have q1 : (List.range 8).filter (a + 256 * b).testBit = (List.range 8).filter a.testBit := by
    refine List.filter_congr fun i hi => ?_
    rw [List.mem_range] at hi
    rw [e, Nat.testBit_two_pow_mul_add _ (by omega), if_pos hi]
  have q2 : ((List.range n).map (fun x => 8 + x)).filter (a + 256 * b).testBit = ((List.range n).filter b.testBit).map (fun x => 8 + x) := by
    rw [List.filter_map]
    refine congrArg _ (List.filter_congr fun i _ => ?_)
    show (a + 256 * b).testBit (8 + i) = b.testBit i
    rw [e, Nat.testBit_two_pow_mul_add _ (by omega), if_neg (by omega)]
    congr 1
    omega
  rw [q1, q2, List.length_map]
theorem rk_num : ∀ (l : List Nat), (∀ a ∈ l, a < 256) → rk (num l) (8 * l.length) = (l.map fun a => p3 (p2 (p1 a))).sum
  | [], _ => rfl
  | a :: r, h => by
    have h1 := h a (List.mem_cons_self ..)
    have ih := rk_num r fun x hx => h x (List.mem_cons_of_mem _ hx)
    have k := f3r ⟨a, h1⟩
    simp only at k
    simp only [num, List.length_cons, List.map_cons, List.sum_cons]
    rw [show 8 * (r.length + 1) = 8 + 8 * r.length by omega, rk_add a _ _ h1, ih, k]
    rfl
theorem p3_le (a : Nat) : p3 a ≤ 15 := by unfold p3; rw [low15]; omega

/-! The function's steps. -/
def wa (x y : Int) : Int := IntKind.wrap .u64 (Int.ofNat (BitVec.and (BitVec.ofInt 64 x) (BitVec.ofInt 64 y)).toNat)
def s1 (a : Int) : Int := IntKind.wrap .u64 (wa (Int.fdiv a 2) 6148914691236517205 + wa a 6148914691236517205)
def s2 (a : Int) : Int := IntKind.wrap .u64 (wa (Int.fdiv a 4) 3689348814741910323 + wa a 3689348814741910323)
def s3 (a : Int) : Int := wa (IntKind.wrap .u64 (Int.fdiv a 16 + a)) 1085102592571150095
def s4 (a : Int) : Int := IntKind.wrap .u64 (a + Int.fdiv a 256)
def s5 (a : Int) : Int := IntKind.wrap .u64 (a + Int.fdiv a 65536)
def s6 (a : Int) : Int := IntKind.wrap .u64 (a + Int.fdiv a 4294967296)
def s7 (a : Int) : Int := IntKind.wrap .i64 (Int.ofNat (BitVec.and (BitVec.ofInt 64 (IntKind.wrap .i64 a)) (BitVec.ofInt 64 127)).toNat)
theorem g60_short (a0 : Int) : g60 a0 = some (s7 (s6 (s5 (s4 (s3 (s2 (s1 a0)))))), ()) := rfl
theorem wa_nat {x y : Nat} (hx : x < 2 ^ 64) (hy : y < 2 ^ 64) : wa (x : Int) (y : Int) = ((x &&& y : Nat) : Int) := band (ucast hx) (ucast hy)
theorem fd (x d : Nat) : Int.fdiv (x : Int) (d : Int) = ((x / d : Nat) : Int) := by
  rw [Int.fdiv_eq_ediv_of_nonneg _ (by omega), ← Int.natCast_ediv]
theorem wun {x : Int} {n : Nat} (h : x = n) (hn : n < 2 ^ 64) : IntKind.wrap .u64 x = (n : Int) := by
  subst h
  exact wu64 (by omega) (by omega)
theorem s1_nat {l : List Nat} (hl : l.length = 8) (h : ∀ a ∈ l, a < 256) : s1 (num l : Int) = (num (l.map p1) : Int) := by
  have h1 := n1 l h
  have hb := num_lt l h
  have hb2 := num_lt (l.map p1) fun a ha => by
    obtain ⟨x, hx, rfl⟩ := List.mem_map.1 ha
    exact f1r ⟨x, h x hx⟩
  rw [List.length_map] at hb2
  rw [hl] at h1 hb hb2
  have hm : mask 85 8 = 6148914691236517205 := by decide
  have e256 : (256 : Nat) ^ 8 = 2 ^ 64 := by decide
  rw [hm] at h1
  rw [e256] at hb hb2
  unfold s1
  have d := fd (num l) 2
  simp only [Int.cast_ofNat_Int] at d
  have a1 := wa_nat (x := num l / 2) (y := 6148914691236517205) (by omega) (by decide)
  have a2 := wa_nat (x := num l) (y := 6148914691236517205) hb (by decide)
  simp only [Int.cast_ofNat_Int] at a1 a2
  rw [d, a1, a2]
  exact wun (by omega) hb2
theorem s2_nat {l : List Nat} (hl : l.length = 8) (h : ∀ a ∈ l, a < 256) (h' : ∀ a ∈ l, p2 a < 256) : s2 (num l : Int) = (num (l.map p2) : Int) := by
  have h1 := n2 l h
  have hb := num_lt l h
  have hb2 := num_lt (l.map p2) fun a ha => by
    obtain ⟨x, hx, rfl⟩ := List.mem_map.1 ha
    exact h' x hx
  rw [List.length_map] at hb2
  rw [hl] at h1 hb hb2
  have hm : mask 51 8 = 3689348814741910323 := by decide
  have e256 : (256 : Nat) ^ 8 = 2 ^ 64 := by decide
  rw [hm] at h1
  rw [e256] at hb hb2
  unfold s2
  have d := fd (num l) 4
  simp only [Int.cast_ofNat_Int] at d
  have a1 := wa_nat (x := num l / 4) (y := 3689348814741910323) (by omega) (by decide)
  have a2 := wa_nat (x := num l) (y := 3689348814741910323) hb (by decide)
  simp only [Int.cast_ofNat_Int] at a1 a2
  rw [d, a1, a2]
  exact wun (by omega) hb2
theorem num_68 : ∀ (l : List Nat), (∀ a ∈ l, a % 16 ≤ 4 ∧ a / 16 ≤ 4) → num l ≤ 68 * (mask 1 l.length)
  | [], _ => by simp [num]
  | a :: r, h => by
    have h1 := h a (List.mem_cons_self ..)
    have ih := num_68 r fun x hx => h x (List.mem_cons_of_mem _ hx)
    simp only [num, mask, List.length_cons]
    omega
theorem s3_nat {l : List Nat} (hl : l.length = 8) (h : ∀ a ∈ l, a % 16 ≤ 4 ∧ a / 16 ≤ 4) : s3 (num l : Int) = (num (l.map p3) : Int) := by
  have h1 := n3 l h
  have hb := num_68 l h
  rw [hl] at h1 hb
  have hm : mask 15 8 = 1085102592571150095 := by decide
  have hm1 : mask 1 8 = 72340172838076673 := by decide
  rw [hm] at h1
  rw [hm1] at hb
  unfold s3
  have d := fd (num l) 16
  simp only [Int.cast_ofNat_Int] at d
  have e : IntKind.wrap .u64 (((num l / 16 : Nat) : Int) + (num l : Int)) = ((num l / 16 + num l : Nat) : Int) := wun (by omega) (by omega)
  have a1 := wa_nat (x := num l / 16 + num l) (y := 1085102592571150095) (by omega) (by decide)
  simp only [Int.cast_ofNat_Int] at a1
  rw [d, e, a1, h1]
theorem num_div {a : Nat} {r : List Nat} (h : a < 256) : num (a :: r) / 256 = num r := by
  simp only [num]
  omega
theorem num_fits (l : List Nat) (hl : l.length = 8) (h : ∀ a ∈ l, a < 256) : num l < 2 ^ 64 := by
  have := num_lt l h
  rw [hl] at this
  have e : (256 : Nat) ^ 8 = 2 ^ 64 := by decide
  rw [e] at this
  exact this
theorem all8 {P : Nat → Prop} {a b c d e f g h : Nat} (ha : P a) (hb : P b) (hc : P c) (hd : P d) (he : P e) (hf : P f) (hg : P g) (hh : P h) : ∀ x ∈ [a, b, c, d, e, f, g, h], P x := by
  intro x hx
  simp only [List.mem_cons, List.not_mem_nil, or_false] at hx
  rcases hx with rfl | rfl | rfl | rfl | rfl | rfl | rfl | rfl <;> assumption
theorem step_nat (A d B : Nat) (h : A + A / d = B) (hB : B < 2 ^ 64) : IntKind.wrap .u64 ((A : Int) + Int.fdiv (A : Int) (d : Int)) = (B : Int) := by
  rw [fd A d]
  exact wun (by omega) hB
theorem s4_nat {a b c d e f g h : Nat} (ha : a ≤ 60) (hb : b ≤ 60) (hc : c ≤ 60) (hd : d ≤ 60) (he : e ≤ 60) (hf : f ≤ 60) (hg : g ≤ 60) (hh : h ≤ 60) :
    s4 (num [a, b, c, d, e, f, g, h] : Int) = (num [a + b, b + c, c + d, d + e, e + f, f + g, g + h, h] : Int) := by
  refine step_nat _ 256 _ ?_ (num_fits _ rfl (all8 (P := fun x => x < 256) (by omega) (by omega) (by omega) (by omega) (by omega) (by omega) (by omega) (by omega)))
  rw [num_div (by omega)]
  simp only [num]
  omega
theorem s5_nat {a b c d e f g h : Nat} (ha : a ≤ 60) (hb : b ≤ 60) (hc : c ≤ 60) (hd : d ≤ 60) (he : e ≤ 60) (hf : f ≤ 60) (hg : g ≤ 60) (hh : h ≤ 60) :
    s5 (num [a, b, c, d, e, f, g, h] : Int) = (num [a + c, b + d, c + e, d + f, e + g, f + h, g, h] : Int) := by
  refine step_nat _ 65536 _ ?_ (num_fits _ rfl (all8 (P := fun x => x < 256) (by omega) (by omega) (by omega) (by omega) (by omega) (by omega) (by omega) (by omega)))
  rw [show (65536 : Nat) = 256 * 256 from rfl, ← Nat.div_div_eq_div_mul, num_div (by omega), num_div (by omega)]
  simp only [num]
  omega
theorem s6_nat {a b c d e f g h : Nat} (ha : a ≤ 60) (hb : b ≤ 60) (hc : c ≤ 60) (hd : d ≤ 60) (he : e ≤ 60) (hf : f ≤ 60) (hg : g ≤ 60) (hh : h ≤ 60) :
    s6 (num [a, b, c, d, e, f, g, h] : Int) = (num [a + e, b + f, c + g, d + h, e, f, g, h] : Int) := by
  refine step_nat _ 4294967296 _ ?_ (num_fits _ rfl (all8 (P := fun x => x < 256) (by omega) (by omega) (by omega) (by omega) (by omega) (by omega) (by omega) (by omega)))
  rw [show (4294967296 : Nat) = 256 * 256 * 256 * 256 from rfl, ← Nat.div_div_eq_div_mul, ← Nat.div_div_eq_div_mul, ← Nat.div_div_eq_div_mul, num_div (by omega), num_div (by omega), num_div (by omega), num_div (by omega)]
  simp only [num]
  omega
theorem s7_nat {a h : Nat} {r : List Nat} (ha : a < 128) (hl : num (a :: r) < 2 ^ 63) : s7 (num (a :: r) : Int) = (a : Int) := by
  have hm : num (a :: r) % 128 = a := by simp only [num]; omega
  generalize num (a :: r) = F at hl hm
  unfold s7
  have w1 : IntKind.wrap .i64 (F : Int) = (F : Int) := wi64 (by omega) (by omega)
  have a1 : (BitVec.and (BitVec.ofInt 64 (F : Int)) (BitVec.ofInt 64 127)).toNat = F &&& 127 := by
    rw [bvand (by omega) (by omega) (by omega) (by omega)]
    rfl
  have a2 : F &&& 127 = F % 128 := by rw [show (127 : Nat) = 2 ^ 7 - 1 from rfl, Nat.and_two_pow_sub_one_eq_mod]
  rw [w1, a1, a2, ofN, hm, wi64 (by omega) (by omega)]
theorem num_top : ∀ (l : List Nat), (∀ a ∈ l, a ≤ 127) → num l ≤ 127 * mask 1 l.length
  | [], _ => by simp [num]
  | a :: r, h => by
    have h1 := h a (List.mem_cons_self ..)
    have ih := num_top r fun x hx => h x (List.mem_cons_of_mem _ hx)
    simp only [num, mask, List.length_cons]
    omega
theorem s456 {c0 c1 c2 c3 c4 c5 c6 c7 : Nat} (h0 : c0 ≤ 8) (h1 : c1 ≤ 8) (h2 : c2 ≤ 8) (h3 : c3 ≤ 8) (h4 : c4 ≤ 8) (h5 : c5 ≤ 8) (h6 : c6 ≤ 8) (h7 : c7 ≤ 8) :
    s7 (s6 (s5 (s4 (num [c0, c1, c2, c3, c4, c5, c6, c7] : Int)))) = ((c0 + c1 + (c2 + c3) + (c4 + c5 + (c6 + c7)) : Nat) : Int) := by
  rw [s4_nat (by omega) (by omega) (by omega) (by omega) (by omega) (by omega) (by omega) (by omega), s5_nat (by omega) (by omega) (by omega) (by omega) (by omega) (by omega) (by omega) (by omega),
    s6_nat (by omega) (by omega) (by omega) (by omega) (by omega) (by omega) (by omega) (by omega)]
  refine s7_nat (h := 0) (by omega) ?_
  have := num_top _ (all8 (P := fun x => x ≤ 127) (a := c0 + c1 + (c2 + c3) + (c4 + c5 + (c6 + c7))) (b := c1 + c2 + (c3 + c4) + (c5 + c6 + c7)) (c := c2 + c3 + (c4 + c5) + (c6 + c7)) (d := c3 + c4 + (c5 + c6) + c7) (e := c4 + c5 + (c6 + c7)) (f := c5 + c6 + c7) (g := c6 + c7) (h := c7) (by omega) (by omega) (by omega) (by omega) (by omega) (by omega) (by omega) (by omega))
  have hm : mask 1 8 = 72340172838076673 := by decide
  have hm' : 127 * mask 1 8 < 2 ^ 63 := by rw [hm]; decide
  exact Nat.lt_of_le_of_lt this hm'

theorem g60_ok (a0 : Int) (r0 : IntKind.u64.has a0) : g60 a0 = some (Sp01.count a0, ()) := by
  have hb := uh r0
  obtain ⟨n, rfl, hn⟩ := nat_of hb
  rw [g60_short]
  have e : (n : Int) = (num (by8 n) : Int) := by rw [by8_num hn]
  have hlt := by8_lt (x := n)
  have hl : (by8 n).length = 8 := rfl
  have m1 : ∀ a ∈ (by8 n).map p1, a < 256 := fun a ha => by
    obtain ⟨x, hx, rfl⟩ := List.mem_map.1 ha
    exact f1r ⟨x, hlt x hx⟩
  have m2 : ∀ a ∈ ((by8 n).map p1).map p2, a % 16 ≤ 4 ∧ a / 16 ≤ 4 := fun a ha => by
    obtain ⟨x, hx, rfl⟩ := List.mem_map.1 ha
    obtain ⟨y, hy, rfl⟩ := List.mem_map.1 hx
    exact f2r ⟨y, hlt y hy⟩
  have m2' : ∀ a ∈ (by8 n).map p1, p2 a < 256 := fun a ha => by
    have := m2 (p2 a) (List.mem_map.2 ⟨a, ha, rfl⟩)
    omega
  have hc : count (n : Int) = ((((by8 n).map fun a => p3 (p2 (p1 a))).sum : Nat) : Int) := by
    have := rk_num (by8 n) hlt
    rw [by8_num hn, hl] at this
    rw [← this]
    unfold count
    rw [list_len]
    rfl
  rw [hc]
  conv => lhs; rw [e]
  rw [s1_nat hl hlt, s2_nat (by simp [hl]) m1 m2', s3_nat (by simp [hl]) m2, List.map_map, List.map_map]
  have hp : ∀ x, x < 256 → p3 (p2 (p1 x)) ≤ 8 := by
    have : ∀ x : Fin 256, p3 (p2 (p1 x.val)) ≤ 8 := by decide +kernel
    exact fun x hx => this ⟨x, hx⟩
  have es : num ((by8 n).map (p3 ∘ p2 ∘ p1)) = num [p3 (p2 (p1 (n % 256))), p3 (p2 (p1 (n / 256 % 256))), p3 (p2 (p1 (n / 65536 % 256))), p3 (p2 (p1 (n / 16777216 % 256))), p3 (p2 (p1 (n / 4294967296 % 256))), p3 (p2 (p1 (n / 1099511627776 % 256))), p3 (p2 (p1 (n / 281474976710656 % 256))), p3 (p2 (p1 (n / 72057594037927936 % 256)))] := rfl
  have ef : (p3 ∘ p2) ∘ p1 = p3 ∘ p2 ∘ p1 := rfl
  have h256 : ∀ x : Nat, x % 256 < 256 := fun x => Nat.mod_lt _ (by decide)
  first
    | rw [es, s456 (hp _ (h256 _)) (hp _ (h256 _)) (hp _ (h256 _)) (hp _ (h256 _)) (hp _ (h256 _)) (hp _ (h256 _)) (hp _ (h256 _)) (hp _ (h256 _))]
    | rw [ef, es, s456 (hp _ (h256 _)) (hp _ (h256 _)) (hp _ (h256 _)) (hp _ (h256 _)) (hp _ (h256 _)) (hp _ (h256 _)) (hp _ (h256 _)) (hp _ (h256 _))]
  congr 3
  simp only [by8, List.map_cons, List.map_nil, List.sum_cons, List.sum_nil]
  omega
end Go.Abs.C01

/- Chapter 01: the functions keep their contracts: splitting, spreading, gathering, sameness. -/
namespace Go.Abs.C01
open Go Go.Proofs Sp01
set_option maxRecDepth 100000

theorem getD_mid (pre : List Int) (m : Int) (r : List Int) : (pre ++ m :: r).getD pre.length 0 = m := by
  rw [List.getD_eq_getElem?_getD, List.getElem?_append_right (Nat.le_refl _)]
  simp
theorem dat8 {l : List Int} (h : (Ty.sl (.int .u64)).ok l) : l.length * 8 ≤ 140737488355328 ∧ ∀ x ∈ l, U x := by
  obtain ⟨h1, h2⟩ := h
  exact ⟨h1, fun x hx => uh (h2 x hx)⟩
theorem and_run {x y : Int} (hx : U x) (hy : U y) : IntKind.wrap .u64 (Int.ofNat (BitVec.and (BitVec.ofInt 64 x) (BitVec.ofInt 64 y)).toNat) = Sp01.and x y ∧ U (Sp01.and x y) := ⟨band hx hy, ucast (Nat.and_lt_two_pow _ (utn hy))⟩
theorem andn_run {x y : Int} (hx : U x) (hy : U y) : IntKind.wrap .u64 (Int.ofNat (BitVec.and (BitVec.ofInt 64 x) (BitVec.not (BitVec.ofInt 64 y))).toNat) = Sp01.andn x y ∧ U (Sp01.andn x y) := ⟨bandn hx hy, ucast (Nat.and_lt_two_pow _ (by omega))⟩

theorem split_loop (l : List Int) (hl : l.length * 8 ≤ 140737488355328) (hu : ∀ x ∈ l, U x) : ∀ (r pre acc : List Int) (b : Int), l = pre ++ r → acc.length = pre.length → U b →
    Loop (g34_s0 l) ((pre.length : Int), b, acc, ()) = some ((Sp01.split b r).2.1, acc ++ (Sp01.split b r).1, ())
  | [], pre, acc, b, h, _, _ => by
    have hlen : l.length = pre.length := by rw [h]; simp
    have c : ¬ (pre.length : Int) < Int.ofNat l.length := by rw [ofN]; omega
    have hs : g34_s0 l ((pre.length : Int), b, acc, ()) = some (.inr (b, acc, ())) := by
      unfold g34_s0
      simp only [c, decide_false, cond_false]
    rw [Loop_step, hs]
    simp [Sp01.split]
  | m :: r, pre, acc, b, h, ha, hb => by
    have hlen : l.length = pre.length + (r.length + 1) := by rw [h]; simp
    have c : (pre.length : Int) < Int.ofNat l.length := by rw [ofN]; omega
    have hm : l.getD pre.length 0 = m := by rw [h]; exact getD_mid pre m r
    have hmu : U m := hu m (by rw [h]; simp)
    have e : IntKind.wrap .i64 ((pre.length : Int) + 1) = ((pre ++ [m]).length : Int) := by rw [wi64 (by omega) (by omega), List.length_append]; rfl
    have hroom : Nat.ble ((acc.length + 1) * 8) 140737488355328 = true := ble_t (by omega)
    obtain ⟨q1, _⟩ := and_run hb hmu
    obtain ⟨q2, q3⟩ := andn_run hb hmu
    have hs : g34_s0 l ((pre.length : Int), b, acc, ()) = some (.inl (((pre ++ [m]).length : Int), Sp01.andn b m, acc ++ [Sp01.and b m], ())) := by
      unfold g34_s0
      simp only [c, decide_true, cond_true, show (0 : Int) ≤ (pre.length : Int) from by omega, Bool.and_self, hroom, Int.toNat_natCast, hm, q1, q2, e]
    rw [Loop_step, hs]
    simp only
    rw [split_loop l hl hu r (pre ++ [m]) _ _ (by rw [h]; simp) (by simp [ha]) q3]
    simp [Sp01.split]

theorem g34_ok (a0 : Int) (a1 : (List Int)) (r0 : IntKind.u64.has a0) (r1 : (Ty.sl (.int .u64)).ok a1) : g34 a0 a1 = some (Sp01.split a0 a1, ()) := by
  obtain ⟨h1, h2⟩ := dat8 r1
  unfold g34
  have := split_loop a1 h1 h2 a1 [] [] a0 rfl rfl (uh r0)
  simp only [List.length_nil, Int.natCast_zero, List.nil_append] at this
  rw [this]
  rfl

theorem split_loop2 (l : List Int) (hl : l.length * 8 ≤ 140737488355328) (hu : ∀ x ∈ l, U x) : ∀ (r pre acc : List Int) (b : Int), l = pre ++ r → acc.length = pre.length → U b →
    Loop (g35_s0 l) (acc, b, (pre.length : Int), ()) = some (acc ++ (Sp01.split b r).1, (Sp01.split b r).2.1, ())
  | [], pre, acc, b, h, _, _ => by
    have hlen : l.length = pre.length := by rw [h]; simp
    have c : ¬ (pre.length : Int) < Int.ofNat l.length := by rw [ofN]; omega
    have hs : g35_s0 l (acc, b, (pre.length : Int), ()) = some (.inr (acc, b, ())) := by
      unfold g35_s0
      simp only [c, decide_false, cond_false]
    rw [Loop_step, hs]
    simp [Sp01.split]
  | m :: r, pre, acc, b, h, ha, hb => by
    have hlen : l.length = pre.length + (r.length + 1) := by rw [h]; simp
    have c : (pre.length : Int) < Int.ofNat l.length := by rw [ofN]; omega
    have hm : l.getD pre.length 0 = m := by rw [h]; exact getD_mid pre m r
    have hmu : U m := hu m (by rw [h]; simp)
    have e : IntKind.wrap .i64 ((pre.length : Int) + 1) = ((pre ++ [m]).length : Int) := by rw [wi64 (by omega) (by omega), List.length_append]; rfl
    have hroom : Nat.ble ((acc.length + 1) * 8) 140737488355328 = true := ble_t (by omega)
    obtain ⟨q1, _⟩ := and_run hb hmu
    obtain ⟨q2, q3⟩ := andn_run hb hmu
    have hs : g35_s0 l (acc, b, (pre.length : Int), ()) = some (.inl (acc ++ [Sp01.and b m], Sp01.andn b m, ((pre ++ [m]).length : Int), ())) := by
      unfold g35_s0
      simp only [c, decide_true, cond_true, show (0 : Int) ≤ (pre.length : Int) from by omega, Bool.and_self, hroom, Int.toNat_natCast, hm, q1, q2, e]
    rw [Loop_step, hs]
    simp only
    rw [split_loop2 l hl hu r (pre ++ [m]) _ _ (by rw [h]; simp) (by simp [ha]) q3]
    simp [Sp01.split]

theorem g35_ok (a0 : Int) (a1 : (List Int)) (r0 : IntKind.u64.has a0) (r1 : (Ty.sl (.int .u64)).ok a1) : g35 a0 a1 = some (Sp01.split a0 a1, ()) := by
  obtain ⟨h1, h2⟩ := dat8 r1
  unfold g35
  have := split_loop2 a1 h1 h2 a1 [] [] a0 rfl rfl (uh r0)
  simp only [List.length_nil, Int.natCast_zero, List.nil_append] at this
  rw [this]
  rfl

/-! Spreading and gathering, bit by bit. -/
theorem natB_congr {f g : Nat → Bool} : ∀ n, (∀ k, k < n → f k = g k) → natB f n = natB g n
  | 0, _ => rfl
  | n + 1, h => by rw [natB, natB, natB_congr n fun k hk => h k (by omega), h n (by omega)]
def spN (x b : Int) (i : Nat) : Nat := natB (fun k => tb b k && decide (rankN b k < i) && tb x (rankN b k)) 64
def gaN (x b : Int) (i : Nat) : Nat := natB (fun j => decide (j < i) && decide (j < (ones b).length) && tb x ((ones b).getD j 0)) 64
theorem one_bit (c : Bool) (k i : Nat) : (c.toNat * 2 ^ k).testBit i = (c && decide (k = i)) := by
  cases c with
  | false => simp
  | true => rw [show (true : Bool).toNat = 1 from rfl, Nat.one_mul, Nat.testBit_two_pow]; simp
theorem one_lt (c : Bool) {k : Nat} (h : k < 64) : c.toNat * 2 ^ k < 2 ^ 64 := by
  have h1 : 2 ^ k < 2 ^ 64 := Nat.pow_lt_pow_right (by decide) h
  cases c with
  | false => rw [show (false : Bool).toNat = 0 from rfl, Nat.zero_mul]; exact Nat.two_pow_pos 64
  | true => rw [show (true : Bool).toNat = 1 from rfl, Nat.one_mul]; exact h1
theorem sp_lt (x b : Int) (i : Nat) : spN x b i < 2 ^ 64 := natB_lt _ _
theorem ga_lt (x b : Int) (i : Nat) : gaN x b i < 2 ^ 64 := natB_lt _ _
theorem sp_zero (x b : Int) : spN x b 0 = 0 := by
  have : spN x b 0 = natB (fun _ => false) 64 := natB_congr 64 fun k _ => by simp
  rw [this]
  decide
theorem ga_zero (x b : Int) : gaN x b 0 = 0 := by
  have : gaN x b 0 = natB (fun _ => false) 64 := natB_congr 64 fun k _ => by simp
  rw [this]
  decide
theorem sp_succ (x b : Int) {i : Nat} (h : i < (ones b).length) : spN x b i ||| (tb x i).toNat * 2 ^ (ones b).getD i 0 = spN x b (i + 1) := by
  obtain ⟨r1, r2, r3⟩ := rank_ones h
  refine eq_bits (Nat.or_lt_two_pow (natB_lt _ _) (one_lt _ r2)) (natB_lt _ _) fun k hk => ?_
  rw [Nat.testBit_or, one_bit]
  unfold spN
  rw [natB_bit, natB_bit, decide_eq_true hk]
  simp only [Bool.true_and]
  by_cases hb : tb b k = true
  · have hr := ones_rank hk hb
    by_cases hi : rankN b k = i
    · have : (ones b).getD i 0 = k := by rw [← hi]; exact hr
      rw [hi, hb, this]
      simp
    · have hne : ¬ (ones b).getD i 0 = k := fun h2 => hi (by rw [← h2]; exact r1)
      rw [hb, decide_eq_false hne]
      have e : decide (rankN b k < i) = decide (rankN b k < i + 1) := by congr 1; exact propext (by omega)
      rw [e]
      simp
  · rw [Bool.not_eq_true] at hb
    have hne : ¬ (ones b).getD i 0 = k := fun h2 => by rw [h2, hb] at r3; cases r3
    rw [hb, decide_eq_false hne]
    simp
theorem ga_succ (x b : Int) {i : Nat} (h : i < (ones b).length) : gaN x b i ||| (tb x ((ones b).getD i 0)).toNat * 2 ^ i = gaN x b (i + 1) := by
  have hl := ones_len b
  refine eq_bits (Nat.or_lt_two_pow (natB_lt _ _) (one_lt _ (by omega))) (natB_lt _ _) fun k hk => ?_
  rw [Nat.testBit_or, one_bit]
  unfold gaN
  rw [natB_bit, natB_bit, decide_eq_true hk]
  simp only [Bool.true_and]
  by_cases hi : i = k
  · subst hi
    rw [decide_eq_true h]
    simp
  · rw [decide_eq_false hi]
    have e : decide (k < i) = decide (k < i + 1) := by congr 1; exact propext (by omega)
    rw [e]
    simp
theorem sp_all (x b : Int) : spread x b = (spN x b (ones b).length : Int) := by
  unfold spread spN
  rw [w64_eq]
  congr 1
  refine natB_congr 64 fun k hk => ?_
  by_cases hb : tb b k = true
  · rw [hb, decide_eq_true (rank_lt hk hb)]
    rfl
  · rw [Bool.not_eq_true] at hb
    rw [hb]
    rfl
theorem ga_all (x b : Int) : gather x b = (gaN x b (ones b).length : Int) := by
  unfold gather gaN
  rw [w64_eq]
  congr 1
  refine natB_congr 64 fun k hk => ?_
  cases decide (k < (ones b).length) <;> rfl
theorem bit_and {x : Int} (hx : U x) (i : Nat) : IntKind.wrap .u64 (Int.ofNat (BitVec.and (BitVec.ofInt 64 (Int.fdiv x (2 ^ i))) (BitVec.ofInt 64 1)).toNat) = (((tb x i).toNat : Nat) : Int) := by
  obtain ⟨n, rfl, hn⟩ := nat_of hx
  have h1 : n / 2 ^ i < 2 ^ 64 := Nat.lt_of_le_of_lt (Nat.div_le_self _ _) hn
  have e : Int.fdiv (n : Int) (2 ^ i) = ((n / 2 ^ i : Nat) : Int) := by rw [pow_cast, fd]
  have a1 := wa_nat (x := n / 2 ^ i) (y := 1) h1 (by decide)
  simp only [Int.cast_ofNat_Int] at a1
  unfold wa at a1
  rw [e, a1, Nat.and_one_is_mod]
  unfold tb
  rw [Int.toNat_natCast, Nat.testBit_eq_decide_div_mod_eq]
  by_cases h : n / 2 ^ i % 2 = 1
  · rw [h]; rfl
  · have : n / 2 ^ i % 2 = 0 := by omega
    rw [this]; rfl
theorem shl_bit (c : Bool) {k : Nat} (hk : k < 64) : IntKind.wrap .u64 (((c.toNat : Nat) : Int) * 2 ^ k) = ((c.toNat * 2 ^ k : Nat) : Int) := by
  have h := one_lt c hk
  rw [pow_cast, ← Int.natCast_mul]
  generalize c.toNat * 2 ^ k = q at h
  exact wu64 (by omega) (by omega)
theorem bit1_nat {k : Nat} (h : k < 64) : bit1 (k : Int) = ((2 ^ k : Nat) : Int) := by
  unfold bit1
  rw [decide_eq_false (by omega), decide_eq_false (by omega)]
  exact pow_cast k

theorem g37_ok (a0 : Int) (a1 : Int) (r0 : IntKind.u64.has a0) (r1 : IntKind.u64.has a1) : g37 a0 a1 = some (Sp01.spread a0 a1, ()) := by
  have hx := uh r0
  have hl := ones_len a1
  have hll : (list a1).length = (ones a1).length := list_len a1
  have key : ∀ k, k ≤ (ones a1).length → Loop (g37_s0 a0 a1) ((spN a0 a1 ((ones a1).length - k) : Int), (((ones a1).length - k : Nat) : Int), ()) = some ((spN a0 a1 (ones a1).length : Int), ()) := by
    intro k
    induction k with
    | zero =>
      intro _
      have c : ¬ (((ones a1).length - 0 : Nat) : Int) < Int.ofNat (list a1).length := by rw [ofN]; omega
      have hs : g37_s0 a0 a1 ((spN a0 a1 ((ones a1).length - 0) : Int), (((ones a1).length - 0 : Nat) : Int), ()) = some (.inr ((spN a0 a1 (ones a1).length : Int), ())) := by
        unfold g37_s0
        simp only [c, decide_false, cond_false]
        rfl
      rw [Loop_step, hs]
    | succ k ih =>
      intro hk
      generalize hi : (ones a1).length - (k + 1) = i
      have hlt : i < (ones a1).length := by omega
      obtain ⟨_, q2, _⟩ := rank_ones hlt
      have hg := list_get a1 i hlt
      have c : (i : Int) < Int.ofNat (list a1).length := by rw [ofN]; omega
      have e : IntKind.wrap .i64 ((i : Int) + 1) = ((i + 1 : Nat) : Int) := by rw [wi64 (by omega) (by omega)]; omega
      have hs : g37_s0 a0 a1 ((spN a0 a1 i : Int), (i : Int), ()) = some (.inl ((spN a0 a1 (i + 1) : Int), ((i + 1 : Nat) : Int), ())) := by
        unfold g37_s0
        simp only [c, decide_true, cond_true, show (0 : Int) ≤ (i : Int) from by omega, Bool.and_self, Int.toNat_natCast, hg, show (0 : Int) ≤ (((ones a1).getD i 0 : Nat) : Int) from by omega, show min i 64 = i from by omega, show min ((ones a1).getD i 0) 64 = (ones a1).getD i 0 from by omega, pow2, bit_and hx, shl_bit _ q2, e]
        rw [bor (ucast (sp_lt _ _ _)) (ucast (one_lt _ q2)), Int.toNat_natCast, Int.toNat_natCast, sp_succ a0 a1 hlt]
      rw [Loop_step, hs]
      have := ih (by omega)
      rw [show (ones a1).length - k = i + 1 by omega] at this
      exact this
  have h := key _ (Nat.le_refl _)
  rw [Nat.sub_self, sp_zero] at h
  unfold g37
  rw [show Loop (g37_s0 a0 a1) ((0 : Int), (0 : Int), ()) = _ from h, sp_all]
  rfl

theorem g39_ok (a0 : Int) (a1 : Int) (r0 : IntKind.u64.has a0) (r1 : IntKind.u64.has a1) : g39 a0 a1 = some (Sp01.spread a0 a1, ()) := by
  have hl := ones_len a1
  have hll : (list a1).length = (ones a1).length := list_len a1
  have key : ∀ k, k ≤ (ones a1).length → Loop (g39_s0 a0 a1) ((((ones a1).length - k : Nat) : Int), (spN a0 a1 ((ones a1).length - k) : Int), ()) = some ((spN a0 a1 (ones a1).length : Int), ()) := by
    intro k
    induction k with
    | zero =>
      intro _
      have c : ¬ (((ones a1).length - 0 : Nat) : Int) < Int.ofNat (list a1).length := by rw [ofN]; omega
      have hs : g39_s0 a0 a1 ((((ones a1).length - 0 : Nat) : Int), (spN a0 a1 ((ones a1).length - 0) : Int), ()) = some (.inr ((spN a0 a1 (ones a1).length : Int), ())) := by
        unfold g39_s0
        simp only [c, decide_false, cond_false]
        rfl
      rw [Loop_step, hs]
    | succ k ih =>
      intro hk
      generalize hi : (ones a1).length - (k + 1) = i
      have hlt : i < (ones a1).length := by omega
      obtain ⟨_, q2, _⟩ := rank_ones hlt
      have hg := list_get a1 i hlt
      have c : (i : Int) < Int.ofNat (list a1).length := by rw [ofN]; omega
      have e : IntKind.wrap .i64 ((i : Int) + 1) = ((i + 1 : Nat) : Int) := by rw [wi64 (by omega) (by omega)]; omega
      have hlt2 : 2 ^ (ones a1).getD i 0 < 2 ^ 64 := Nat.pow_lt_pow_right (by decide) q2
      have hstep := sp_succ a0 a1 hlt
      have hs : g39_s0 a0 a1 ((i : Int), (spN a0 a1 i : Int), ()) = some (.inl (((i + 1 : Nat) : Int), (spN a0 a1 (i + 1) : Int), ())) := by
        unfold g39_s0
        simp only [c, decide_true, cond_true, show (0 : Int) ≤ (i : Int) from by omega, Bool.and_self, Int.toNat_natCast, hg, has_tb (b := a0) (show i < 64 by omega), bit1_nat q2, e]
        rw [bor (ucast (sp_lt _ _ _)) (ucast hlt2), Int.toNat_natCast, Int.toNat_natCast]
        revert hstep
        cases tb a0 i with
        | false =>
          intro hstep
          rw [show (false : Bool).toNat = 0 from rfl, Nat.zero_mul, Nat.or_zero] at hstep
          rw [hstep]
          rfl
        | true =>
          intro hstep
          rw [show (true : Bool).toNat = 1 from rfl, Nat.one_mul] at hstep
          rw [hstep]
          rfl
      rw [Loop_step, hs]
      have := ih (by omega)
      rw [show (ones a1).length - k = i + 1 by omega] at this
      exact this
  have h := key _ (Nat.le_refl _)
  rw [Nat.sub_self, sp_zero] at h
  unfold g39
  rw [show Loop (g39_s0 a0 a1) ((0 : Int), (0 : Int), ()) = _ from h, sp_all]
  rfl

theorem g38_ok (a0 : Int) (a1 : Int) (r0 : IntKind.u64.has a0) (r1 : IntKind.u64.has a1) : g38 a0 a1 = some (Sp01.gather a0 a1, ()) := by
  have hx := uh r0
  have hl := ones_len a1
  have hll : (list a1).length = (ones a1).length := list_len a1
  have key : ∀ k, k ≤ (ones a1).length → Loop (g38_s0 a0 a1) ((gaN a0 a1 ((ones a1).length - k) : Int), (((ones a1).length - k : Nat) : Int), ()) = some ((gaN a0 a1 (ones a1).length : Int), ()) := by
    intro k
    induction k with
    | zero =>
      intro _
      have c : ¬ (((ones a1).length - 0 : Nat) : Int) < Int.ofNat (list a1).length := by rw [ofN]; omega
      have hs : g38_s0 a0 a1 ((gaN a0 a1 ((ones a1).length - 0) : Int), (((ones a1).length - 0 : Nat) : Int), ()) = some (.inr ((gaN a0 a1 (ones a1).length : Int), ())) := by
        unfold g38_s0
        simp only [c, decide_false, cond_false]
        rfl
      rw [Loop_step, hs]
    | succ k ih =>
      intro hk
      generalize hi : (ones a1).length - (k + 1) = i
      have hlt : i < (ones a1).length := by omega
      obtain ⟨_, q2, _⟩ := rank_ones hlt
      have hg := list_get a1 i hlt
      have c : (i : Int) < Int.ofNat (list a1).length := by rw [ofN]; omega
      have e : IntKind.wrap .i64 ((i : Int) + 1) = ((i + 1 : Nat) : Int) := by rw [wi64 (by omega) (by omega)]; omega
      have hs : g38_s0 a0 a1 ((gaN a0 a1 i : Int), (i : Int), ()) = some (.inl ((gaN a0 a1 (i + 1) : Int), ((i + 1 : Nat) : Int), ())) := by
        unfold g38_s0
        simp only [c, decide_true, cond_true, show (0 : Int) ≤ (i : Int) from by omega, Bool.and_self, Int.toNat_natCast, hg, show (0 : Int) ≤ (((ones a1).getD i 0 : Nat) : Int) from by omega, show min i 64 = i from by omega, show min ((ones a1).getD i 0) 64 = (ones a1).getD i 0 from by omega, pow2, bit_and hx, shl_bit _ (show i < 64 by omega), e]
        rw [bor (ucast (ga_lt _ _ _)) (ucast (one_lt _ (by omega))), Int.toNat_natCast, Int.toNat_natCast, ga_succ a0 a1 hlt]
      rw [Loop_step, hs]
      have := ih (by omega)
      rw [show (ones a1).length - k = i + 1 by omega] at this
      exact this
  have h := key _ (Nat.le_refl _)
  rw [Nat.sub_self, ga_zero] at h
  unfold g38
  rw [show Loop (g38_s0 a0 a1) ((0 : Int), (0 : Int), ()) = _ from h, ga_all]
  rfl

theorem g40_ok (a0 : Int) (a1 : Int) (r0 : IntKind.u64.has a0) (r1 : IntKind.u64.has a1) : g40 a0 a1 = some (Sp01.gather a0 a1, ()) := by
  have hl := ones_len a1
  have hll : (list a1).length = (ones a1).length := list_len a1
  have key : ∀ k, k ≤ (ones a1).length → Loop (g40_s0 a0 a1) ((gaN a0 a1 ((ones a1).length - k) : Int), (((ones a1).length - k : Nat) : Int), ()) = some ((gaN a0 a1 (ones a1).length : Int), ()) := by
    intro k
    induction k with
    | zero =>
      intro _
      have c : ¬ (((ones a1).length - 0 : Nat) : Int) < Int.ofNat (list a1).length := by rw [ofN]; omega
      have hs : g40_s0 a0 a1 ((gaN a0 a1 ((ones a1).length - 0) : Int), (((ones a1).length - 0 : Nat) : Int), ()) = some (.inr ((gaN a0 a1 (ones a1).length : Int), ())) := by
        unfold g40_s0
        simp only [c, decide_false, cond_false]
        rfl
      rw [Loop_step, hs]
    | succ k ih =>
      intro hk
      generalize hi : (ones a1).length - (k + 1) = i
      have hlt : i < (ones a1).length := by omega
      obtain ⟨_, q2, _⟩ := rank_ones hlt
      have hg := list_get a1 i hlt
      have c : (i : Int) < Int.ofNat (list a1).length := by rw [ofN]; omega
      have e : IntKind.wrap .i64 ((i : Int) + 1) = ((i + 1 : Nat) : Int) := by rw [wi64 (by omega) (by omega)]; omega
      have hlt2 : 2 ^ i < 2 ^ 64 := Nat.pow_lt_pow_right (by decide) (by omega)
      have hstep := ga_succ a0 a1 hlt
      have hs : g40_s0 a0 a1 ((gaN a0 a1 i : Int), (i : Int), ()) = some (.inl ((gaN a0 a1 (i + 1) : Int), ((i + 1 : Nat) : Int), ())) := by
        unfold g40_s0
        simp only [c, decide_true, cond_true, show (0 : Int) ≤ (i : Int) from by omega, Bool.and_self, Int.toNat_natCast, hg, has_tb (b := a0) q2, bit1_nat (show i < 64 by omega), e]
        rw [bor (ucast (ga_lt _ _ _)) (ucast hlt2), Int.toNat_natCast, Int.toNat_natCast]
        revert hstep
        cases tb a0 ((ones a1).getD i 0) with
        | false =>
          intro hstep
          rw [show (false : Bool).toNat = 0 from rfl, Nat.zero_mul, Nat.or_zero] at hstep
          rw [hstep]
          rfl
        | true =>
          intro hstep
          rw [show (true : Bool).toNat = 1 from rfl, Nat.one_mul] at hstep
          rw [hstep]
          rfl
      rw [Loop_step, hs]
      have := ih (by omega)
      rw [show (ones a1).length - k = i + 1 by omega] at this
      exact this
  have h := key _ (Nat.le_refl _)
  rw [Nat.sub_self, ga_zero] at h
  unfold g40
  rw [show Loop (g40_s0 a0 a1) ((0 : Int), (0 : Int), ()) = _ from h, ga_all]
  rfl

def diff (a b : List Int) (i : Nat) : Bool := !decide (a.getD i 0 = b.getD i 0)
theorem diff_eq {a b : List Int} (h : a.length = b.length) : (List.range a.length).any (diff a b) = !decide (a = b) := by
  by_cases hab : a = b
  · subst hab
    rw [decide_eq_true rfl, Bool.not_true, List.any_eq_false]
    intro i _
    simp [diff]
  · rw [decide_eq_false hab, Bool.not_false, List.any_eq_true]
    refine Classical.byContradiction fun hc => hab (List.ext_getElem h fun i hi hi' => ?_)
    have hd : diff a b i = false := by
      cases hq : diff a b i with
      | false => rfl
      | true => exact absurd ⟨i, List.mem_range.2 hi, hq⟩ hc
    have this : a.getD i 0 = b.getD i 0 := by
      simpa [diff] using hd
    simpa [List.getD_eq_getElem?_getD, hi, hi'] using this

theorem g27_ok (a0 : (List Int)) (a1 : (List Int)) (r0 : (Ty.sl (.int .i64)).ok a0) (r1 : (Ty.sl (.int .i64)).ok a1) : g27 a0 a1 = some (decide (a0 = a1), ()) := by
  have hb : a0.length * 8 ≤ 140737488355328 := r0.1
  unfold g27
  by_cases h : a0.length = a1.length
  · have h' : Int.ofNat a0.length = Int.ofNat a1.length := by rw [h]
    rw [decide_eq_true h', Loop_scanI a0.length (diff a0 a1) (true, (false, ()), ()) (false, (false, ()), ()) (fun i h0 hi => ?_) (by unfold g27_s0; simp), diff_eq h]
    · cases decide (a0 = a1) <;> rfl
    · have e1 : IntKind.wrap .i64 (i + 1) = i + 1 := wi64 (by omega) (by omega)
      have hi2 : i < (a1.length : Int) := by omega
      unfold g27_s0 diff
      simp only [ofN, hi, hi2, h0, e1, decide_true, cond_true, Bool.and_self]
      cases decide (a0.getD i.toNat 0 = a1.getD i.toNat 0) <;> rfl
  · have h' : ¬ Int.ofNat a0.length = Int.ofNat a1.length := by rw [ofN, ofN]; omega
    have hne : ¬ a0 = a1 := fun he => h (by rw [he])
    rw [decide_eq_false h', decide_eq_false hne]
    rfl
end Go.Abs.C01

/- Chapter 01: the functions keep their contracts: texts, bytes, lists to bit strings. -/
namespace Go.Abs.C01
open Go Go.Proofs Sp01
set_option maxRecDepth 100000

theorem g36_ok (a0 : Int) (a1 : Int) (r0 : IntKind.u64.has a0) (r1 : IntKind.i64.has a1) : g36 a0 a1 = some (Sp01.has a0 a1, ()) := by
  have hx := uh r0
  unfold g36 Sp01.has
  simp only [ge_iff_le]
  by_cases h1 : 0 ≤ a1
  · by_cases h2 : a1 < 64
    · obtain ⟨k, rfl⟩ : ∃ k : Nat, a1 = (k : Int) := ⟨a1.toNat, by omega⟩
      have e : IntKind.wrap .u64 (k : Int) = (k : Int) := wu64 (by omega) (by omega)
      rw [decide_eq_true h1, decide_eq_true h2, e, decide_eq_true h1, Int.toNat_natCast, show min k 64 = k by omega, pow2, bit_and hx]
      simp only [cond_true, Option.bind_some, Bool.true_and]
      cases tb a0 k <;> rfl
    · rw [decide_eq_true h1, decide_eq_false h2]
      rfl
  · rw [decide_eq_false h1]
    rfl

/-! Texts. -/
def fm (b : Int) (n k : Nat) : List Int := (List.range (n - k)).map fun j => bif tb b (n - 1 - j) then 49 else 48
theorem fm_snoc (b : Int) {n k : Nat} (h : k + 1 ≤ n) : fm b n k = fm b n (k + 1) ++ [bif tb b k then 49 else 48] := by
  unfold fm
  rw [show n - k = (n - (k + 1)) + 1 by omega, List.range_succ, List.map_append, List.map_singleton, show n - 1 - (n - (k + 1)) = k by omega]
theorem fm_len (b : Int) (n k : Nat) : (fm b n k).length = n - k := by simp [fm]
theorem fmt_loop (b : Int) (n : Nat) (hn : n ≤ 64) : ∀ k, k ≤ n → Loop (g44_s0 b) ((k : Int) - 1, fm b n k, ()) = some (fm b n 0, ())
  | 0, _ => by
    have hs : g44_s0 b (((0 : Nat) : Int) - 1, fm b n 0, ()) = some (.inr (fm b n 0, ())) := rfl
    rw [Loop_step, hs]
  | k + 1, hk => by
    have c : ((k + 1 : Nat) : Int) - 1 ≥ 0 := by omega
    have e0 : ((k + 1 : Nat) : Int) - 1 = (k : Int) := by omega
    have e : IntKind.wrap .i64 ((k : Int) - 1) = (k : Int) - 1 := wi64 (by omega) (by omega)
    have hr : Nat.ble ((fm b n (k + 1)).length + 1) 9223372036854775807 = true := ble_t (by rw [fm_len]; omega)
    have hs : g44_s0 b (((k + 1 : Nat) : Int) - 1, fm b n (k + 1), ()) = some (.inl ((k : Int) - 1, fm b n k, ())) := by
      rw [e0] at c ⊢
      unfold g44_s0
      simp only [c, decide_true, cond_true, has_tb (b := b) (show k < 64 by omega), hr, e, fm_snoc b hk]
      cases tb b k <;> rfl
    rw [Loop_step, hs]
    exact fmt_loop b n hn k (by omega)

theorem g44_ok (a0 : Int) (a1 : Int) (r0 : IntKind.u64.has a0) (r1 : IntKind.i64.has a1) : g44 a0 a1 = some (Sp01.format a0 a1, ()) := by
  unfold g44 Sp01.format
  cases hv : valid a0 a1 with
  | false => rfl
  | true =>
    simp only [valid, Bool.and_eq_true] at hv
    have h1 := vlen_iff hv.1
    obtain ⟨n, rfl⟩ : ∃ n : Nat, a1 = (n : Int) := ⟨a1.toNat, by omega⟩
    have e : IntKind.wrap .i64 ((n : Int) - 1) = (n : Int) - 1 := wi64 (by omega) (by omega)
    have h := fmt_loop a0 n (by omega) n (Nat.le_refl _)
    have hnil : fm a0 n n = [] := by simp [fm]
    rw [hnil] at h
    simp only [Bool.not_true, cond_false, cond_true, e, h]
    rfl

/-! Bytes. -/
def bm (b : Int) (n k : Nat) : List Int := (List.range (n / 8 - k)).map fun j => b / 2 ^ (n - 8 - 8 * j) % 256
theorem bm_snoc (b : Int) {n k : Nat} (h8 : n % 8 = 0) (h : k + 1 ≤ n / 8) : bm b n k = bm b n (k + 1) ++ [b / 2 ^ (8 * k) % 256] := by
  unfold bm
  rw [show n / 8 - k = (n / 8 - (k + 1)) + 1 by omega, List.range_succ, List.map_append, List.map_singleton, show n - 8 - 8 * (n / 8 - (k + 1)) = 8 * k by omega]
theorem bm_len (b : Int) (n k : Nat) : (bm b n k).length = n / 8 - k := by simp [bm]
theorem byte_run {b : Int} (k : Nat) : IntKind.wrap .u8 (Int.fdiv b (2 ^ k)) = b / 2 ^ k % 256 := by rw [wu8m, fdiv_pow]
theorem bytes_loop (b : Int) (n : Nat) (hn : n ≤ 64) (h8 : n % 8 = 0) : ∀ k, k ≤ n / 8 → Loop (g47_s0 b) (8 * (k : Int) - 8, bm b n k, ()) = some (bm b n 0, ())
  | 0, _ => by
    have hs : g47_s0 b (8 * ((0 : Nat) : Int) - 8, bm b n 0, ()) = some (.inr (bm b n 0, ())) := rfl
    rw [Loop_step, hs]
  | k + 1, hk => by
    have e0 : 8 * ((k + 1 : Nat) : Int) - 8 = ((8 * k : Nat) : Int) := by omega
    have c : ((8 * k : Nat) : Int) ≥ 0 := by omega
    have c' : (0 : Int) ≤ ((8 * k : Nat) : Int) := by omega
    have e : IntKind.wrap .i64 (((8 * k : Nat) : Int) - 8) = 8 * (k : Int) - 8 := by rw [wi64 (by omega) (by omega)]; omega
    have hr : Nat.ble (((bm b n (k + 1)).length + 1) * 1) 140737488355328 = true := ble_t (by rw [bm_len]; omega)
    have hs : g47_s0 b (8 * ((k + 1 : Nat) : Int) - 8, bm b n (k + 1), ()) = some (.inl (8 * (k : Int) - 8, bm b n k, ())) := by
      rw [e0]
      unfold g47_s0
      simp only [c, c', decide_true, cond_true, hr, e, Int.toNat_natCast, show min (8 * k) 64 = 8 * k from by omega, pow2, byte_run, bm_snoc b h8 hk]
    rw [Loop_step, hs]
    exact bytes_loop b n hn h8 k (by omega)

theorem g47_ok (a0 : Int) (a1 : Int) (r0 : IntKind.u64.has a0) (r1 : IntKind.i64.has a1) : g47 a0 a1 = some (Sp01.bytes a0 a1, ()) := by
  unfold g47 Sp01.bytes
  cases hv : vlen a1 with
  | false => rfl
  | true =>
    cases hw : valid a0 a1 with
    | false => rfl
    | true =>
      have h1 := vlen_iff hv
      obtain ⟨n, rfl⟩ : ∃ n : Nat, a1 = (n : Int) := ⟨a1.toNat, by omega⟩
      have h8 : n % 8 = 0 := by omega
      have e : IntKind.wrap .i64 ((n : Int) - 8) = 8 * ((n / 8 : Nat) : Int) - 8 := by rw [wi64 (by omega) (by omega)]; omega
      have h := bytes_loop a0 n (by omega) h8 (n / 8) (Nat.le_refl _)
      have hnil : bm a0 n (n / 8) = [] := by simp [bm]
      rw [hnil] at h
      simp only [Bool.not_true, cond_false, e, h]
      rfl

theorem bytes_loop2 (b : Int) (n : Nat) (hn : n ≤ 64) (h8 : n % 8 = 0) : ∀ k, k ≤ n / 8 → Loop (g49_s0 b) ((k : Int) - 1, bm b n k, ()) = some (bm b n 0, ())
  | 0, _ => by
    have hs : g49_s0 b (((0 : Nat) : Int) - 1, bm b n 0, ()) = some (.inr (bm b n 0, ())) := rfl
    rw [Loop_step, hs]
  | k + 1, hk => by
    have e0 : ((k + 1 : Nat) : Int) - 1 = (k : Int) := by omega
    have c : (k : Int) ≥ 0 := by omega
    have e1 : IntKind.wrap .i64 (8 * (k : Int)) = ((8 * k : Nat) : Int) := by rw [wi64 (by omega) (by omega)]; omega
    have e2 : IntKind.wrap .u64 ((8 * k : Nat) : Int) = ((8 * k : Nat) : Int) := wu64 (by omega) (by omega)
    have c' : (0 : Int) ≤ ((8 * k : Nat) : Int) := by omega
    have e : IntKind.wrap .i64 ((k : Int) - 1) = (k : Int) - 1 := wi64 (by omega) (by omega)
    have hr : Nat.ble (((bm b n (k + 1)).length + 1) * 1) 140737488355328 = true := ble_t (by rw [bm_len]; omega)
    have hs : g49_s0 b (((k + 1 : Nat) : Int) - 1, bm b n (k + 1), ()) = some (.inl ((k : Int) - 1, bm b n k, ())) := by
      rw [e0]
      unfold g49_s0
      simp only [c, e1, e2, c', decide_true, cond_true, hr, e, Int.toNat_natCast, show min (8 * k) 64 = 8 * k from by omega, pow2, byte_run, bm_snoc b h8 hk]
    rw [Loop_step, hs]
    exact bytes_loop2 b n hn h8 k (by omega)

theorem g49_ok (a0 : Int) (a1 : Int) (r0 : IntKind.u64.has a0) (r1 : IntKind.i64.has a1) : g49 a0 a1 = some (Sp01.bytes a0 a1, ()) := by
  unfold g49 Sp01.bytes
  cases hv : vlen a1 with
  | false => rfl
  | true =>
    cases hw : valid a0 a1 with
    | false => rfl
    | true =>
      have h1 := vlen_iff hv
      obtain ⟨n, rfl⟩ : ∃ n : Nat, a1 = (n : Int) := ⟨a1.toNat, by omega⟩
      have h8 : n % 8 = 0 := by omega
      have e1 : IntKind.wrap .i64 (Int.tdiv (n : Int) 8) = ((n / 8 : Nat) : Int) := by rw [tdiv_nn (by omega), wi64 (by omega) (by omega)]; omega
      have e : IntKind.wrap .i64 (((n / 8 : Nat) : Int) - 1) = ((n / 8 : Nat) : Int) - 1 := wi64 (by omega) (by omega)
      have h := bytes_loop2 a0 n (by omega) h8 (n / 8) (Nat.le_refl _)
      have hnil : bm a0 n (n / 8) = [] := by simp [bm]
      rw [hnil] at h
      simp only [Bool.not_true, cond_false, e1, e, h]
      rfl

theorem or_low (a c w : Nat) (hc : c < 2 ^ w) : (a * 2 ^ w) ||| c = a * 2 ^ w + c := by
  rw [Nat.mul_comm a, Nat.two_pow_add_eq_or_of_lt hc]
def by1 (l : List Int) : Prop := ∀ x ∈ l, 0 ≤ x ∧ x < 256
theorem datb {l : List Int} (h : (Ty.sl (.int .u8)).ok l) : l.length ≤ 140737488355328 ∧ by1 l := by
  obtain ⟨h1, h2⟩ := h
  have h1 : l.length * 1 ≤ 140737488355328 := h1
  exact ⟨by omega, fun x hx => has_u8 (h2 x hx)⟩
theorem from_step {v : Nat} {m : Int} (hv : v < 2 ^ 56) (hm : 0 ≤ m ∧ m < 256) : IntKind.wrap .u64 (Int.ofNat (BitVec.or (BitVec.ofInt 64 (IntKind.wrap .u64 ((v : Int) * 256))) (BitVec.ofInt 64 (IntKind.wrap .u64 m))).toNat) = ((v * 256 + m.toNat : Nat) : Int) := by
  have e1 : IntKind.wrap .u64 ((v : Int) * 256) = ((v * 256 : Nat) : Int) := by rw [wu64 (by omega) (by omega)]; omega
  have e2 : IntKind.wrap .u64 m = m := wu64 (by omega) (by omega)
  have hm2 : m.toNat < 2 ^ 8 := by omega
  rw [e1, e2, bor (ucast (by omega)) ⟨by omega, by omega⟩, Int.toNat_natCast, show v * 256 = v * 2 ^ 8 from rfl, or_low v m.toNat 8 hm2]
theorem from_loop (l : List Int) (hl : l.length ≤ 8) (hb : by1 l) : ∀ (r pre : List Int) (v : Nat), l = pre ++ r → v < 256 ^ pre.length →
    Loop (g48_s0 l) ((v : Int), (pre.length : Int), ()) = some (r.foldl (fun a c => a * 256 + c) (v : Int), ())
  | [], pre, v, h, _ => by
    have hlen : l.length = pre.length := by rw [h]; simp
    have c : ¬ (pre.length : Int) < Int.ofNat l.length := by rw [ofN]; omega
    have hs : g48_s0 l ((v : Int), (pre.length : Int), ()) = some (.inr ((v : Int), ())) := by
      unfold g48_s0
      simp only [c, decide_false, cond_false]
    rw [Loop_step, hs]
    rfl
  | m :: r, pre, v, h, hv => by
    have hlen : l.length = pre.length + (r.length + 1) := by rw [h]; simp
    have c : (pre.length : Int) < Int.ofNat l.length := by rw [ofN]; omega
    have hm : l.getD pre.length 0 = m := by rw [h]; exact getD_mid pre m r
    have hmu := hb m (by rw [h]; simp)
    have hv2 : v < 2 ^ 56 := by
      have h1 : 256 ^ pre.length ≤ 256 ^ 7 := Nat.pow_le_pow_right (by decide) (by omega)
      have h2 : (256 : Nat) ^ 7 = 2 ^ 56 := by decide
      omega
    have e : IntKind.wrap .i64 ((pre.length : Int) + 1) = ((pre ++ [m]).length : Int) := by rw [wi64 (by omega) (by omega), List.length_append]; rfl
    have hs : g48_s0 l ((v : Int), (pre.length : Int), ()) = some (.inl (((v * 256 + m.toNat : Nat) : Int), ((pre ++ [m]).length : Int), ())) := by
      unfold g48_s0
      simp only [c, decide_true, cond_true, show (0 : Int) ≤ (pre.length : Int) from by omega, Bool.and_self, Int.toNat_natCast, hm, from_step hv2 hmu, e]
    rw [Loop_step, hs]
    simp only
    rw [from_loop l hl hb r (pre ++ [m]) _ (by rw [h]; simp) (by
      rw [List.length_append, List.length_singleton, Nat.pow_succ]
      omega)]
    rw [List.foldl_cons]
    congr 3
    omega
theorem from_loop2 (l : List Int) (hl : l.length ≤ 8) (hb : by1 l) : ∀ (r pre : List Int) (v : Nat), l = pre ++ r → v < 256 ^ pre.length →
    Loop (g50_s0 l) ((v : Int), (pre.length : Int), ()) = some (r.foldl (fun a c => a * 256 + c) (v : Int), ()) := from_loop l hl hb

theorem g48_ok (a0 : (List Int)) (r0 : (Ty.sl (.int .u8)).ok a0) : g48 a0 = some (Sp01.fromB a0, ()) := by
  obtain ⟨hl, hb⟩ := datb r0
  unfold g48 Sp01.fromB
  have e : IntKind.wrap .i64 (8 * Int.ofNat a0.length) = 8 * (a0.length : Int) := by rw [ofN]; exact wi64 (by omega) (by omega)
  rw [e]
  by_cases h : 8 < a0.length
  · have h' : Int.ofNat a0.length > 8 := by rw [ofN]; omega
    rw [decide_eq_true h', decide_eq_true h]
    rfl
  · have h' : ¬ Int.ofNat a0.length > 8 := by rw [ofN]; omega
    have hlo := from_loop a0 (by omega) hb a0 [] 0 rfl (by simp)
    have hlo' : Loop (g48_s0 a0) ((0 : Int), (0 : Int), ()) = some (fromL a0, ()) := hlo
    rw [decide_eq_false h', decide_eq_false h, hlo']
    cases vlen (8 * (a0.length : Int)) <;> rfl

theorem g50_ok (a0 : (List Int)) (r0 : (Ty.sl (.int .u8)).ok a0) : g50 a0 = some (Sp01.fromB a0, ()) := by
  obtain ⟨hl, hb⟩ := datb r0
  unfold g50 Sp01.fromB
  have e : IntKind.wrap .i64 (8 * Int.ofNat a0.length) = 8 * (a0.length : Int) := by rw [ofN]; exact wi64 (by omega) (by omega)
  rw [e]
  by_cases h : 8 < a0.length
  · have h' : Int.ofNat a0.length > 8 := by rw [ofN]; omega
    rw [decide_eq_true h', decide_eq_true h]
    cases vlen (8 * (a0.length : Int)) <;> rfl
  · have h' : ¬ Int.ofNat a0.length > 8 := by rw [ofN]; omega
    have hlo := from_loop2 a0 (by omega) hb a0 [] 0 rfl (by simp)
    have hlo' : Loop (g50_s0 a0) ((0 : Int), (0 : Int), ()) = some (fromL a0, ()) := hlo
    rw [decide_eq_false h', decide_eq_false h, hlo']
    cases vlen (8 * (a0.length : Int)) <;> rfl

/-! Reading texts. -/
theorem str_dat {l : List Int} (h : Ty.str.ok l) : by1 l := fun x hx => h.2 x hx
theorem digit_iff {c : Int} : digit c = true ↔ c = 48 ∨ c = 49 := by simp [digit]
abbrev PR := Bool × ((Int × (Int × (Int × Unit))) × (Int × Unit))
def pres (r : List Int) (v : Int) : PR := bif r.all digit then (false, (0, 0, 0, ()), r.foldl (fun a c => a * 2 + (c - 48)) v, ()) else (true, (0, 0, 6, ()), 0, ())
theorem parse_step {v : Nat} {m : Int} (hv : v < 2 ^ 63) (hm : m = 48 ∨ m = 49) : IntKind.wrap .u64 (Int.ofNat (BitVec.or (BitVec.ofInt 64 (IntKind.wrap .u64 ((v : Int) * 2))) (BitVec.ofInt 64 (IntKind.wrap .u64 (IntKind.wrap .u8 (m - 48))))).toNat) = ((v * 2 + (m - 48).toNat : Nat) : Int) := by
  have e1 : IntKind.wrap .u64 ((v : Int) * 2) = ((v * 2 : Nat) : Int) := by rw [wu64 (by omega) (by omega)]; omega
  have e3 : IntKind.wrap .u8 (m - 48) = m - 48 := wu8 (by omega) (by omega)
  have e2 : IntKind.wrap .u64 (m - 48) = m - 48 := wu64 (by omega) (by omega)
  have hm2 : (m - 48).toNat < 2 ^ 1 := by omega
  rw [e1, e3, e2, bor (ucast (by omega)) ⟨by omega, by omega⟩, Int.toNat_natCast, show v * 2 = v * 2 ^ 1 from rfl, or_low v (m - 48).toNat 1 hm2]
theorem parse_loop (l : List Int) (hl : l.length ≤ 64) (hb : by1 l) : ∀ (r pre : List Int) (v : Nat), l = pre ++ r → v < 2 ^ pre.length →
    Loop (g43_s0 l) ((pre.length : Int), (v : Int), l, ()) = some (pres r (v : Int))
  | [], pre, v, h, _ => by
    have hlen : l.length = pre.length := by rw [h]; simp
    have c : ¬ (pre.length : Int) < Int.ofNat l.length := by rw [ofN]; omega
    have hs : g43_s0 l ((pre.length : Int), (v : Int), l, ()) = some (.inr (false, (0, 0, 0, ()), (v : Int), ())) := by
      unfold g43_s0
      simp only [c, decide_false, cond_false]
    rw [Loop_step, hs]
    rfl
  | m :: r, pre, v, h, hv => by
    have hlen : l.length = pre.length + (r.length + 1) := by rw [h]; simp
    have c : (pre.length : Int) < Int.ofNat l.length := by rw [ofN]; omega
    have hm : l.getD pre.length 0 = m := by rw [h]; exact getD_mid pre m r
    have hv2 : v < 2 ^ 63 := by
      have h1 : 2 ^ pre.length ≤ 2 ^ 63 := Nat.pow_le_pow_right (by decide) (by omega)
      omega
    have e : IntKind.wrap .i64 ((pre.length : Int) + 1) = ((pre ++ [m]).length : Int) := by rw [wi64 (by omega) (by omega), List.length_append]; rfl
    have hbl : Nat.blt pre.length l.length = true := blt_t (by omega)
    by_cases hd : m = 48 ∨ m = 49
    · have hs : g43_s0 l ((pre.length : Int), (v : Int), l, ()) = some (.inl (((pre ++ [m]).length : Int), ((v * 2 + (m - 48).toNat : Nat) : Int), l, ())) := by
        unfold g43_s0
        simp only [c, decide_true, cond_true, show (0 : Int) ≤ (pre.length : Int) from by omega, Bool.and_self, Int.toNat_natCast, hm, parse_step hv2 hd, e, hbl]
        rcases hd with rfl | rfl <;> rfl
      rw [Loop_step, hs]
      simp only
      rw [parse_loop l hl hb r (pre ++ [m]) _ (by rw [h]; simp) (by
        rw [List.length_append, List.length_singleton, Nat.pow_succ]
        omega)]
      unfold pres
      rw [List.all_cons, digit_iff.2 hd, Bool.true_and, List.foldl_cons]
      have e5 : ((v * 2 + (m - 48).toNat : Nat) : Int) = (v : Int) * 2 + (m - 48) := by omega
      rw [e5]
    · have hd' : digit m = false := by
        cases hq : digit m with
        | false => rfl
        | true => exact absurd (digit_iff.1 hq) hd
      have h48 : ¬ m = 48 := fun h => hd (.inl h)
      have h49 : ¬ m = 49 := fun h => hd (.inr h)
      have hs : g43_s0 l ((pre.length : Int), (v : Int), l, ()) = some (.inr (true, (0, 0, 6, ()), 0, ())) := by
        unfold g43_s0
        simp only [c, decide_true, cond_true, show (0 : Int) ≤ (pre.length : Int) from by omega, Bool.and_self, Int.toNat_natCast, hm, hbl, h48, h49, decide_false, Bool.not_false, Option.bind_some]
      rw [Loop_step, hs]
      unfold pres
      rw [List.all_cons, hd']
      rfl

theorem g43_ok (a0 : (List Int)) (r0 : Ty.str.ok a0) : g43 a0 = some (Sp01.parse a0, ()) := by
  have hb := str_dat r0
  unfold g43 Sp01.parse
  rw [ofN]
  cases hv : vlen (a0.length : Int) with
  | false => rfl
  | true =>
    have h1 := vlen_iff hv
    have hr : Nat.ble a0.length 140737488355328 = true := ble_t (by omega)
    have h := parse_loop a0 (by omega) hb a0 [] 0 rfl (by simp)
    have h' : Loop (g43_s0 a0) ((0 : Int), (0 : Int), a0, ()) = some (pres a0 0) := h
    rw [hr, h']
    unfold pres
    cases a0.all digit <;> rfl

theorem parse_step2 {v : Nat} {m : Int} (hv : v < 2 ^ 63) (hm : m = 48 ∨ m = 49) : IntKind.wrap .u64 (IntKind.wrap .u64 (2 * (v : Int)) + IntKind.wrap .u64 (IntKind.wrap .u8 (m - 48))) = ((v * 2 + (m - 48).toNat : Nat) : Int) := by
  have e1 : IntKind.wrap .u64 (2 * (v : Int)) = ((v * 2 : Nat) : Int) := by rw [wu64 (by omega) (by omega)]; omega
  have e3 : IntKind.wrap .u8 (m - 48) = m - 48 := wu8 (by omega) (by omega)
  have e2 : IntKind.wrap .u64 (m - 48) = m - 48 := wu64 (by omega) (by omega)
  rw [e1, e3, e2, wu64 (by omega) (by omega)]
  omega
theorem parse_loop2 (l : List Int) (hl : l.length ≤ 64) (hb : by1 l) : ∀ (r pre : List Int) (v : Nat), l = pre ++ r → v < 2 ^ pre.length →
    Loop (g46_s0 l) ((v : Int), (pre.length : Int), ()) = some (pres r (v : Int))
  | [], pre, v, h, _ => by
    have hlen : l.length = pre.length := by rw [h]; simp
    have c : ¬ (pre.length : Int) < Int.ofNat l.length := by rw [ofN]; omega
    have hs : g46_s0 l ((v : Int), (pre.length : Int), ()) = some (.inr (false, (0, 0, 0, ()), (v : Int), ())) := by
      unfold g46_s0
      simp only [c, decide_false, cond_false]
    rw [Loop_step, hs]
    rfl
  | m :: r, pre, v, h, hv => by
    have hlen : l.length = pre.length + (r.length + 1) := by rw [h]; simp
    have c : (pre.length : Int) < Int.ofNat l.length := by rw [ofN]; omega
    have hm : l.getD pre.length 0 = m := by rw [h]; exact getD_mid pre m r
    have hv2 : v < 2 ^ 63 := by
      have h1 : 2 ^ pre.length ≤ 2 ^ 63 := Nat.pow_le_pow_right (by decide) (by omega)
      omega
    have e : IntKind.wrap .i64 ((pre.length : Int) + 1) = ((pre ++ [m]).length : Int) := by rw [wi64 (by omega) (by omega), List.length_append]; rfl
    by_cases hd : m = 48 ∨ m = 49
    · have hs : g46_s0 l ((v : Int), (pre.length : Int), ()) = some (.inl (((v * 2 + (m - 48).toNat : Nat) : Int), ((pre ++ [m]).length : Int), ())) := by
        unfold g46_s0
        simp only [c, decide_true, cond_true, show (0 : Int) ≤ (pre.length : Int) from by omega, Bool.and_self, Int.toNat_natCast, hm, parse_step2 hv2 hd, e]
        rcases hd with rfl | rfl <;> rfl
      rw [Loop_step, hs]
      simp only
      rw [parse_loop2 l hl hb r (pre ++ [m]) _ (by rw [h]; simp) (by
        rw [List.length_append, List.length_singleton, Nat.pow_succ]
        omega)]
      unfold pres
      rw [List.all_cons, digit_iff.2 hd, Bool.true_and, List.foldl_cons]
      have e5 : ((v * 2 + (m - 48).toNat : Nat) : Int) = (v : Int) * 2 + (m - 48) := by omega
      rw [e5]
    · have hd' : digit m = false := by
        cases hq : digit m with
        | false => rfl
        | true => exact absurd (digit_iff.1 hq) hd
      have h48 : ¬ m = 48 := fun h => hd (.inl h)
      have h49 : ¬ m = 49 := fun h => hd (.inr h)
      have hs : g46_s0 l ((v : Int), (pre.length : Int), ()) = some (.inr (true, (0, 0, 6, ()), 0, ())) := by
        unfold g46_s0
        simp only [c, decide_true, cond_true, show (0 : Int) ≤ (pre.length : Int) from by omega, Bool.and_self, Int.toNat_natCast, hm, h48, h49, decide_false, Bool.not_false, Option.bind_some]
      rw [Loop_step, hs]
      unfold pres
      rw [List.all_cons, hd']
      rfl

theorem g46_ok (a0 : (List Int)) (r0 : Ty.str.ok a0) : g46 a0 = some (Sp01.parse a0, ()) := by
  have hb := str_dat r0
  unfold g46 Sp01.parse
  rw [ofN]
  cases hv : vlen (a0.length : Int) with
  | false => rfl
  | true =>
    have h1 := vlen_iff hv
    have h := parse_loop2 a0 (by omega) hb a0 [] 0 rfl (by simp)
    have h' : Loop (g46_s0 a0) ((0 : Int), (0 : Int), ()) = some (pres a0 0) := h
    rw [h']
    unfold pres
    cases a0.all digit <;> rfl

/-! A bit string of a list. -/
theorem any_range (l : List Int) (p : Int → Bool) : (List.range l.length).any (fun i => p (l.getD i 0)) = l.any p := by
  have : l.any p = ((List.range l.length).map fun i => l.getD i 0).any p := by
    congr 1
    refine List.ext_getElem (by simp) fun i hi hi' => ?_
    simp [List.getD_eq_getElem?_getD, hi]
  rw [this, List.any_map]
  rfl
theorem of_loop (l : List Int) (hl : l.length ≤ 17592186044416) : ∀ (r pre : List Int) (v : Int), l = pre ++ r → U v →
    ∃ e, Loop (g56_s1 l) ((pre.length : Int), v, ()) = some e ∧ (bif e.1 then some ((e.2.1.2.1, (e.2.1.1, ())), ()) else some ((e.2.2.1, ((0 : Int), ())), ())) = some (ofL v r, ())
  | [], pre, v, h, _ => by
    have hlen : l.length = pre.length := by rw [h]; simp
    have c : ¬ (pre.length : Int) < Int.ofNat l.length := by rw [ofN]; omega
    have hs : g56_s1 l ((pre.length : Int), v, ()) = some (.inr (false, (0, 0, ()), v, ())) := by
      unfold g56_s1
      simp only [c, decide_false, cond_false]
    exact ⟨_, by rw [Loop_step, hs], rfl⟩
  | m :: r, pre, v, h, hv => by
    have hlen : l.length = pre.length + (r.length + 1) := by rw [h]; simp
    have c : (pre.length : Int) < Int.ofNat l.length := by rw [ofN]; omega
    have hm : l.getD pre.length 0 = m := by rw [h]; exact getD_mid pre m r
    have e : IntKind.wrap .i64 ((pre.length : Int) + 1) = ((pre ++ [m]).length : Int) := by rw [wi64 (by omega) (by omega), List.length_append]; rfl
    cases hh : has v m with
    | true =>
      have hs : g56_s1 l ((pre.length : Int), v, ()) = some (.inr (true, (5, 0, ()), 0, ())) := by
        unfold g56_s1
        simp only [c, decide_true, cond_true, show (0 : Int) ≤ (pre.length : Int) from by omega, Bool.and_self, Int.toNat_natCast, hm, hh]
      refine ⟨_, by rw [Loop_step, hs], ?_⟩
      rw [ofL, hh]
      rfl
    | false =>
      have ho := bor hv (bit1_U m)
      have hu : U (or v (bit1 m)) := ucast (Nat.or_lt_two_pow (utn hv) (utn (bit1_U m)))
      have hs : g56_s1 l ((pre.length : Int), v, ()) = some (.inl (((pre ++ [m]).length : Int), or v (bit1 m), ())) := by
        unfold g56_s1
        simp only [c, decide_true, cond_true, cond_false, show (0 : Int) ≤ (pre.length : Int) from by omega, Bool.and_self, Int.toNat_natCast, hm, hh, ho, e]
        rfl
      obtain ⟨q, h1, h2⟩ := of_loop l hl r (pre ++ [m]) (or v (bit1 m)) (by rw [h]; simp) hu
      refine ⟨q, by rw [Loop_step, hs]; exact h1, ?_⟩
      rw [h2, ofL, hh]
      rfl

theorem g56_ok (a0 : (List Int)) (a1 : Int) (r0 : (Ty.sl (.int .i64)).ok a0) (r1 : IntKind.i64.has a1) : g56 a0 a1 = some (Sp01.of a0 a1, ()) := by
  have hl : a0.length * 8 ≤ 140737488355328 := r0.1
  unfold g56 Sp01.of
  cases hv : vlen a1 with
  | false => rfl
  | true =>
    rw [Loop_scanI a0.length (fun i => (fun k => decide (k < 0) || decide (a1 ≤ k)) (a0.getD i 0)) (true, (0, 2, ()), ()) (false, (0, 0, ()), ()) (fun i h0 hi => ?_) (by unfold g56_s0; simp), any_range a0 (fun k => decide (k < 0) || decide (a1 ≤ k))]
    · cases ha : a0.any (fun k => decide (k < 0) || decide (a1 ≤ k)) with
      | true => rfl
      | false =>
        obtain ⟨q, h1, h2⟩ := of_loop a0 (by omega) a0 [] 0 rfl U0
        have h1' : Loop (g56_s1 a0) ((0 : Int), (0 : Int), ()) = some q := h1
        simp only [Bool.not_true, cond_false, Option.bind_some]
        rw [h1']
        exact h2
    · have e1 : IntKind.wrap .i64 (i + 1) = i + 1 := wi64 (by omega) (by omega)
      unfold g56_s0
      simp only [ofN, hi, h0, e1, decide_true, cond_true, Bool.and_self, ge_iff_le]
      cases decide (a0.getD i.toNat 0 < 0) <;> cases decide (a1 ≤ a0.getD i.toNat 0) <;> rfl

theorem g21_ok   : g21  = some (true, ()) := by
  decide +kernel
end Go.Abs.C01
