/- Chapter 37: proved is that each function that the laws reach keeps its contract; no conditions but those that each theorem states. -/
import Derived.Test.YtkonipbnnpcbmaaRunA
set_option linter.unusedVariables false
set_option linter.unusedSimpArgs false
/- Chapter 37: the functions keep their contracts: the tape. -/
namespace Sp37
theorem on_some {α : Type} {b : Bool} {x y : α} (h : on b x = some y) : b = true ∧ x = y := by
  unfold on at h
  cases b with
  | false => cases h
  | true => exact ⟨rfl, Option.some.inj h⟩
theorem on_true {α : Type} {b : Bool} {x : α} (h : b = true) : on b x = some x := by rw [h]; rfl
end Sp37
namespace Go.Abs.C37
open Go Go.Proofs Sp37

abbrev B : Env := mkE tab gl 0 false []
theorem glue {f : Nat} {fn : Func} {n : Nat} {hp : Bool} {md : List (Nat × Nat)} (L : List (Nat × Con)) (hL : ∀ g con, lookC L g = some con → FunOk Try.prog B g con) (plan : Plan) {c : Con}
    (hf : Try.prog.funcs[f]? = some fn) (hck : fnCheck (mkE tab gl n hp md) fn c = true)
    (hF : ∀ x y, (Ty.cons (lfTy c.pre) (shTy c.ps)).ok x → c.F x = some y → (evF (fun _ _ => Loop) (mkE tab gl n hp md) (lookC L) fn plan c x).den = some y) : FunOk Try.prog B f c :=
  FunOk.env (E := mkE tab gl n hp md) rfl (fun_ok (pok n hp md) mix (fun g con h => FunOk.env (E := B) rfl (hL g con h)) plan hf hck hF)

theorem ints {l : List Int} (h : (Ty.sl (.int .i64)).ok l) : l.length ≤ 17592186044416 ∧ ∀ x ∈ l, -9223372036854775808 ≤ x ∧ x ≤ 9223372036854775807 := by
  obtain ⟨h1, h2⟩ := h
  have h1 : l.length * 8 ≤ 140737488355328 := h1
  exact ⟨by omega, fun x hx => has_i64 (h2 x hx)⟩
theorem tkall (l : List Int) : l.take l.length = l := List.take_length

theorem wf_iff {t : Tp} : wf t = true ↔ 0 ≤ t.2.1 ∧ t.2.1 ≤ t.1.length ∧ t.1.length ≤ 2000 := by
  simp [wf, and_assoc]
theorem small_iff {n : Int} : small n = true ↔ -2305843009213693952 ≤ n ∧ n ≤ 2305843009213693952 := by
  simp [small]
theorem raw_wf {t : Tp} (h : wf t = true) : wf (raw t).2 = true := by
  obtain ⟨l, a, ⟨⟩⟩ := t
  obtain ⟨h1, h2, h3⟩ := wf_iff.1 h
  simp only at h1 h2 h3
  unfold raw
  by_cases h4 : a < l.length
  · simp only [h4, decide_true, cond_true]
    exact wf_iff.2 ⟨by simp only; omega, by simp only; omega, h3⟩
  · simp only [h4, decide_false, cond_false]
    exact h
theorem next_wf {t : Tp} {n : Int} (h : wf t = true) : wf (next t n).2 = true := raw_wf h
theorem cut_nonneg {x n : Int} : 0 ≤ cut x n := by
  unfold cut
  by_cases h : n < 1
  · simp [h]
  · simp only [h, decide_false, cond_false]
    exact Int.emod_nonneg x (by omega)
theorem cut_lt {x n : Int} (h : 1 ≤ n) : cut x n < n := by
  unfold cut
  have h' : ¬ n < 1 := by omega
  simp only [h', decide_false, cond_false]
  exact Int.emod_lt_of_pos x (by omega)
theorem next_range {t : Tp} {n : Int} (h : 1 ≤ n) : 0 ≤ (next t n).1 ∧ (next t n).1 < n := ⟨cut_nonneg, cut_lt h⟩
theorem range_wf {t : Tp} {a b : Int} (h : wf t = true) : wf (range t a b).2 = true := next_wf (n := b - a + 1) h
theorem range_in {t : Tp} {a b : Int} (h : a ≤ b) : a ≤ (range t a b).1 ∧ (range t a b).1 ≤ b := by
  have := next_range (t := t) (n := b - a + 1) (by omega)
  unfold range
  simp only
  omega
theorem next_bound {t : Tp} {n : Int} : 0 ≤ (next t n).1 ∧ ((next t n).1 < n ∨ (next t n).1 = 0) := by
  by_cases h : 1 ≤ n
  · have := next_range (t := t) h
    exact ⟨this.1, .inl this.2⟩
  · refine ⟨cut_nonneg, .inr ?_⟩
    show cut (raw t).1 n = 0
    unfold cut
    have : n < 1 := by omega
    simp [this]
theorem tape_wf (l : List Int) : wf (Sp37.tape l) = true := wf_iff.2 ⟨by simp [Sp37.tape], by simp [Sp37.tape], by simp [Sp37.tape]; omega⟩

theorem g30_ok (a0 : (List Int)) (a1 : Int) (r0 : (Ty.sl (.int .i64)).ok a0) (r1 : IntKind.i64.has a1) (h : (Sp37.wf (a0, a1, ())) = true) : g30 a0 a1 = some (Sp37.raw (a0, a1, ())) := by
  obtain ⟨h1, h2, h3⟩ := wf_iff.1 h
  simp only at h1 h2 h3
  unfold g30 Sp37.raw
  by_cases h4 : a1 < a0.length
  · have h5 : ¬ a1 ≥ (a0.length : Int) := by omega
    have e1 : IntKind.wrap .i64 (a1 + 1) = a1 + 1 := wi64 (by omega) (by omega)
    have e2 : IntKind.wrap .i64 (a1 + 1 - 1) = a1 := by rw [show a1 + 1 - 1 = a1 by omega]; exact wi64 (by omega) (by omega)
    simp only [Int.ofNat_eq_natCast, e1, e2, h5, h4, h1, decide_true, decide_false, cond_true, cond_false, Bool.and_self]
  · have h5 : a1 ≥ (a0.length : Int) := by omega
    simp only [Int.ofNat_eq_natCast, h5, h4, decide_true, decide_false, cond_true, cond_false]

theorem g19_ok (a0 : Int) (a1 : Int) (r0 : IntKind.i64.has a0) (r1 : IntKind.i64.has a1) : g19 a0 a1 = some (Sp37.cut a0 a1, ()) := by
  have hm := (has_i64 r1).2
  unfold g19 Sp37.cut
  by_cases h : a1 < 1
  · simp [h]
  · have h0 : ¬ a1 = 0 := by omega
    have hp : 0 < a1 := by omega
    have e1 := Int.emod_nonneg a0 h0
    have e2 := Int.emod_lt_of_pos a0 hp
    have e3 : a0.tmod a1 = if 0 ≤ a0 ∨ a1 ∣ a0 then a0 % a1 else a0 % a1 - a1 := by
      rw [Int.tmod_eq_emod]
      split <;> rename_i h <;> simp [h]
      omega
    by_cases h5 : 0 ≤ a0 ∨ a1 ∣ a0
    · rw [if_pos h5] at e3
      have : ¬ a0 % a1 < 0 := by omega
      simp [h, h0, e3, this]
      rfl
    · rw [if_neg h5] at e3
      have h6 : a0 % a1 - a1 < 0 := by omega
      have h7 : a0 % a1 - a1 + a1 = a0 % a1 := by omega
      have h8 : IntKind.wrap .i64 (a0 % a1) = a0 % a1 := wi64 (by omega) (by omega)
      simp only [h, h0, e3, h6, h7, h8, decide_true, decide_false, cond_true, cond_false, Bool.not_false, Option.bind]
      rfl

theorem g9_ok (a0 : (List Int)) (a1 : Int) (a2 : Int) (r0 : (Ty.sl (.int .i64)).ok a0) (r1 : IntKind.i64.has a1) (r2 : IntKind.i64.has a2) (h : (Sp37.wf (a0, a1, ())) = true) : g9 a0 a1 a2 = some (Sp37.next (a0, a1, ()) a2) := by
  unfold g9
  rw [on_true h]
  rfl

theorem g8_ok (a0 : (List Int)) (a1 : Int) (a2 : Int) (a3 : Int) (r0 : (Ty.sl (.int .i64)).ok a0) (r1 : IntKind.i64.has a1) (r2 : IntKind.i64.has a2) (r3 : IntKind.i64.has a3) (h : (Sp37.wf (a0, a1, ()) && Sp37.small a2 && Sp37.small a3) = true) : g8 a0 a1 a2 a3 = some (Sp37.range (a0, a1, ()) a2 a3) := by
  simp only [Bool.and_eq_true] at h
  have k2 := small_iff.1 h.1.2
  have k3 := small_iff.1 h.2
  unfold g8 Sp37.range
  rw [on_true h.1.1]
  have e1 : IntKind.wrap .i64 (a3 - a2) = a3 - a2 := wi64 (by omega) (by omega)
  have e2 : IntKind.wrap .i64 (a3 - a2 + 1) = a3 - a2 + 1 := wi64 (by omega) (by omega)
  have hb := next_bound (t := (a0, a1, ())) (n := a3 - a2 + 1)
  have e3 : IntKind.wrap .i64 (a2 + (next (a0, a1, ()) (a3 - a2 + 1)).1) = a2 + (next (a0, a1, ()) (a3 - a2 + 1)).1 := wi64 (by omega) (by omega)
  simp only [e1, e2, Option.bind, e3]

theorem g23_ok (a0 : (List Int)) (a1 : Int) (a2 : (List Int)) (r0 : (Ty.sl (.int .i64)).ok a0) (r1 : IntKind.i64.has a1) (r2 : (Ty.sl (.int .i64)).ok a2) (h : (Sp37.wf (a0, a1, ()) && decide (0 < a2.length) && decide (a2.length ≤ 1000)) = true) : g23 a0 a1 a2 = some (Sp37.pick (a0, a1, ()) a2) := by
  simp only [Bool.and_eq_true, decide_eq_true_eq] at h
  unfold g23 Sp37.pick
  rw [on_true h.1.1]
  have hb := next_range (t := (a0, a1, ())) (n := (a2.length : Int)) (by omega)
  simp only [Int.ofNat_eq_natCast, Option.bind, hb.1, hb.2, decide_true, Bool.and_self, cond_true]


theorem g7_ok (a0 : (List Int)) (r0 : (Ty.sl (.int .i64)).ok a0) : g7 a0 = some (Sp37.tape a0, ()) := by
  unfold g7 Sp37.tape
  by_cases h : (2000 : Int) < a0.length
  · have h2 : (2000 : Int) ≤ a0.length := by omega
    simp [h, h2]
  · have h2 : a0.take 2000 = a0 := List.take_of_length_le (by omega)
    simp [h, h2]
end Go.Abs.C37

/- Chapter 37: the functions keep their contracts: counting. -/
namespace Go.Abs.C37
open Go Go.Proofs Sp37

theorem g15_loop (a b : List Int) (hl : a.length ≤ 17592186044416) (h : a.length = b.length) : Loop (g15_s0 a b) ((0 : Int), ()) = some (bif (a.zip b).any (fun p => !decide (p.1 = p.2)) then (true, (false, ()), ()) else (false, (false, ()), ())) := by
  have hz : (a.zip b).length = a.length := by simp [h]
  refine Loop_scan (a.zip b) (0, 0) _ _ _ (fun i h0 hi => ?_) ?_
  · rw [hz] at hi
    have e1 : IntKind.wrap .i64 (i + 1) = i + 1 := wi64 (by omega) (by omega)
    have c1 : i < (b.length : Int) := by omega
    have hg := zip_getD a b i.toNat 0 0 (by omega) (by omega)
    unfold g15_s0
    simp only [hi, h0, c1, e1, hg, decide_true, cond_true, Bool.and_self, Int.ofNat_eq_natCast]
    cases decide (a.getD i.toNat 0 = b.getD i.toNat 0) <;> rfl
  · unfold g15_s0
    simp [hz]
theorem zip_any_ne (a b : List Int) (h : a.length = b.length) : (a.zip b).any (fun p => !decide (p.1 = p.2)) = !decide (a = b) := by
  induction a generalizing b with
  | nil => cases b with
    | nil => rfl
    | cons y m => simp at h
  | cons x l ih => cases b with
    | nil => simp at h
    | cons y m =>
      simp only [List.zip_cons_cons, List.any_cons, ih m (by simpa using h)]
      by_cases h1 : x = y <;> by_cases h2 : l = m <;> simp [h1, h2]

theorem g15_ok (a0 : (List Int)) (a1 : (List Int)) (r0 : (Ty.sl (.int .i64)).ok a0) (r1 : (Ty.sl (.int .i64)).ok a1) : g15 a0 a1 = some (decide (a0 = a1), ()) := by
  obtain ⟨hl, _⟩ := ints r0
  unfold g15
  by_cases h : a0.length = a1.length
  · have hc : ((a0.length : Int) = (a1.length : Int)) := by omega
    rw [g15_loop a0 a1 hl h, zip_any_ne a0 a1 h]
    simp only [Int.ofNat_eq_natCast, hc, decide_true, Bool.not_true, cond_false, Option.bind_some]
    cases decide (a0 = a1) <;> rfl
  · have hc : ¬ ((a0.length : Int) = (a1.length : Int)) := by omega
    have hne : ¬ a0 = a1 := fun k => h (by rw [k])
    simp [hc, hne]

theorem g31_ok (a0 : Int) (a1 : Int) (a2 : Int) (r0 : IntKind.i64.has a0) (r1 : IntKind.i64.has a1) (r2 : IntKind.i64.has a2) : g31 a0 a1 a2 = some (Sp37.inside a0 a1 a2, ()) := by
  unfold g31 inside
  by_cases h1 : a1 ≤ a0 <;> simp [h1, GE.ge]

theorem g33_ok (a0 : Int) (a1 : Int) (r0 : IntKind.i64.has a0) (r1 : IntKind.i64.has a1) : g33 a0 a1 = some (bif Sp37.ranges a0 a1 then (0 : Int) else 2, ()) := by
  unfold g33 ranges
  cases inside a0 0 1000 <;> cases inside a1 1 1000 <;> rfl

theorem g34_ok (a0 : Int) (a1 : Int) (r0 : IntKind.i64.has a0) (r1 : IntKind.i64.has a1) : g34 a0 a1 = some (Sp37.ranges a0 a1, ()) := by
  unfold g34 ranges inside
  by_cases h1 : 0 ≤ a0 <;> by_cases h2 : a0 ≤ 1000 <;> by_cases h3 : 1 ≤ a1 <;> by_cases h4 : a1 ≤ 1000 <;> simp [h1, h2, h3, h4, GE.ge]

theorem ranges_iff {n b : Int} : ranges n b = true ↔ (0 ≤ n ∧ n ≤ 1000) ∧ 1 ≤ b ∧ b ≤ 1000 := by
  simp [ranges, inside]
theorem colours_loop (n b : Int) (h : ranges n b = true) : Loop (g20_s0 n b) ((0 : Int), [], ()) = some ((List.range n.toNat).map fun i : Nat => (i : Int) / b % 2, ()) := by
  obtain ⟨⟨n1, n2⟩, b1, b2⟩ := ranges_iff.1 h
  refine Loop_inv (fun v : Int × List Int × Unit => 0 ≤ v.1 ∧ v.1 ≤ n ∧ v.2.1 = (List.range v.1.toNat).map fun i : Nat => (i : Int) / b % 2) (fun v : Int × List Int × Unit => (n - v.1).toNat)
    (fun _ => ((List.range n.toNat).map fun i : Nat => (i : Int) / b % 2, ())) ?_ (v := (0, [], ())) ⟨by simp, n1, rfl⟩
  rintro ⟨i, out, ⟨⟩⟩ ⟨k1, k2, k3⟩
  simp only at k1 k2 k3
  subst k3
  unfold g20_s0
  by_cases hi : i < n
  · right
    have c0 : ¬ b = 0 := by omega
    have e1 : IntKind.wrap .i64 (i + 1) = i + 1 := wi64 (by omega) (by omega)
    have e2 : Int.tdiv i b = i / b := tdiv_nn k1
    have d1 : 0 ≤ i / b := Int.ediv_nonneg k1 (by omega)
    have d2 : i / b ≤ i := Int.ediv_le_self _ k1
    have e3 : IntKind.wrap .i64 (i / b) = i / b := wi64 (by omega) (by omega)
    have e4 : Int.tmod (i / b) 2 = i / b % 2 := tmod_nn d1
    simp only [hi, c0, e1, e2, e3, e4, decide_true, decide_false, Bool.not_false, cond_true]
    rw [ble_t (by simp; omega), cond_true]
    refine ⟨_, rfl, ⟨by simp only; omega, by simp only; omega, ?_⟩, by simp only; omega, trivial⟩
    simp only
    rw [show (i + 1).toNat = i.toNat + 1 by omega, List.range_succ, List.map_append]
    simp only [List.map_cons, List.map_nil, Int.toNat_of_nonneg k1]
  · left
    have : i = n := by omega
    subst this
    simp only [hi, decide_false, cond_false]
theorem s28 : @g28_s0 = @g20_s0 := rfl

theorem g20_ok (a0 : Int) (a1 : Int) (r0 : IntKind.i64.has a0) (r1 : IntKind.i64.has a1) : g20 a0 a1 = some (Sp37.colours a0 a1, ()) := by
  unfold g20 colours
  cases h : ranges a0 a1 with
  | false => rfl
  | true =>
    rw [colours_loop a0 a1 h]
    rfl

theorem g28_ok (a0 : Int) (a1 : Int) (r0 : IntKind.i64.has a0) (r1 : IntKind.i64.has a1) : g28 a0 a1 = some (Sp37.colours a0 a1, ()) := by
  unfold g28 colours
  cases h : ranges a0 a1 with
  | false => rfl
  | true =>
    rw [s28, colours_loop a0 a1 h]
    rfl

theorem marked_loop1 (n b : Int) (h : ranges n b = true) : Loop (g21_s0 n b) ([], (0 : Int), ()) = some ((List.range (n / b).toNat).map fun i : Nat => (i : Int) * b + b / 2, ()) := by
  obtain ⟨⟨n1, n2⟩, b1, b2⟩ := ranges_iff.1 h
  refine Loop_inv (fun v : List Int × Int × Unit => ∃ k : Nat, v.2.1 = (k : Int) * b ∧ (k : Int) * b ≤ n ∧ v.1 = (List.range k).map fun i : Nat => (i : Int) * b + b / 2) (fun v : List Int × Int × Unit => (n - v.2.1).toNat)
    (fun _ => ((List.range (n / b).toNat).map fun i : Nat => (i : Int) * b + b / 2, ())) ?_ (v := ([], 0, ())) ⟨0, by simp, by simpa using n1, rfl⟩
  rintro ⟨out, x, ⟨⟩⟩ ⟨k, k1, k2, k3⟩
  simp only at k1 k2 k3
  subst k1
  subst k3
  have kn : 0 ≤ (k : Int) * b := Int.mul_nonneg (by omega) (by omega)
  have kk : (k : Int) ≤ (k : Int) * b := by
    have := Int.mul_le_mul_of_nonneg_left (show 1 ≤ b from b1) (show 0 ≤ (k : Int) by omega)
    omega
  have e1 : IntKind.wrap .i64 ((k : Int) * b + b) = (k : Int) * b + b := wi64 (by omega) (by omega)
  have e2 : Int.tdiv b 2 = b / 2 := tdiv_nn (by omega)
  have e3 : IntKind.wrap .i64 (b / 2) = b / 2 := wi64 (by omega) (by omega)
  have e4 : IntKind.wrap .i64 ((k : Int) * b + b / 2) = (k : Int) * b + b / 2 := wi64 (by omega) (by omega)
  unfold g21_s0
  simp only [e1, e2, e3, e4]
  have hs : ((k : Int) + 1) * b = (k : Int) * b + b := by rw [Int.add_mul, Int.one_mul]
  by_cases hi : (k : Int) * b + b ≤ n
  · right
    simp only [hi, decide_true, cond_true]
    rw [ble_t (by simp; omega), cond_true]
    refine ⟨_, rfl, ⟨k + 1, by simp only; rw [← hs]; rfl, by rw [← hs] at hi; exact hi, ?_⟩, by simp only; omega, trivial⟩
    simp only
    rw [List.range_succ, List.map_append]
    rfl
  · left
    have : n / b = k := by
      refine Int.le_antisymm ?_ ((Int.le_ediv_iff_mul_le (by omega)).2 k2)
      have := (Int.ediv_lt_iff_lt_mul (a := n) (b := (k : Int) + 1) (c := b) (by omega)).2 (by rw [hs]; omega)
      omega
    simp only [hi, decide_false, cond_false, this, Int.toNat_natCast]
theorem marked_loop2 (n b : Int) (h : ranges n b = true) : Loop (g29_s0 n b) ([], (0 : Int), ()) = some ((List.range (n / b).toNat).map fun i : Nat => (i : Int) * b + b / 2, ()) := by
  obtain ⟨⟨n1, n2⟩, b1, b2⟩ := ranges_iff.1 h
  refine Loop_inv (fun v : List Int × Int × Unit => ∃ k : Nat, v.2.1 = (k : Int) ∧ (k : Int) * b ≤ n ∧ v.1 = (List.range k).map fun i : Nat => (i : Int) * b + b / 2) (fun v : List Int × Int × Unit => (n + 1 - v.2.1).toNat)
    (fun _ => ((List.range (n / b).toNat).map fun i : Nat => (i : Int) * b + b / 2, ())) ?_ (v := ([], 0, ())) ⟨0, by simp, by simpa using n1, rfl⟩
  rintro ⟨out, x, ⟨⟩⟩ ⟨k, k1, k2, k3⟩
  simp only at k1 k2 k3
  subst k1
  subst k3
  have kn : 0 ≤ (k : Int) * b := Int.mul_nonneg (by omega) (by omega)
  have kk : (k : Int) ≤ (k : Int) * b := by
    have := Int.mul_le_mul_of_nonneg_left (show 1 ≤ b from b1) (show 0 ≤ (k : Int) by omega)
    omega
  have hs : ((k : Int) + 1) * b = (k : Int) * b + b := by rw [Int.add_mul, Int.one_mul]
  have e0 : IntKind.wrap .i64 ((k : Int) + 1) = (k : Int) + 1 := wi64 (by omega) (by omega)
  have e1 : IntKind.wrap .i64 ((k : Int) * b + b) = (k : Int) * b + b := wi64 (by omega) (by omega)
  have e5 : IntKind.wrap .i64 ((k : Int) * b) = (k : Int) * b := wi64 (by omega) (by omega)
  have e2 : Int.tdiv b 2 = b / 2 := tdiv_nn (by omega)
  have e3 : IntKind.wrap .i64 (b / 2) = b / 2 := wi64 (by omega) (by omega)
  have e4 : IntKind.wrap .i64 ((k : Int) * b + b / 2) = (k : Int) * b + b / 2 := wi64 (by omega) (by omega)
  unfold g29_s0
  simp only [e0, hs, e1, e2, e3, e4, e5]
  by_cases hi : (k : Int) * b + b ≤ n
  · right
    simp only [hi, decide_true, cond_true]
    rw [ble_t (by simp; omega), cond_true]
    refine ⟨_, rfl, ⟨k + 1, rfl, by rw [← hs] at hi; exact hi, ?_⟩, by simp only; omega, trivial⟩
    simp only
    rw [List.range_succ, List.map_append]
    rfl
  · left
    have : n / b = k := by
      refine Int.le_antisymm ?_ ((Int.le_ediv_iff_mul_le (by omega)).2 k2)
      have := (Int.ediv_lt_iff_lt_mul (a := n) (b := (k : Int) + 1) (c := b) (by omega)).2 (by rw [hs]; omega)
      omega
    simp only [hi, decide_false, cond_false, this, Int.toNat_natCast]

theorem g21_ok (a0 : Int) (a1 : Int) (r0 : IntKind.i64.has a0) (r1 : IntKind.i64.has a1) : g21 a0 a1 = some (Sp37.marked a0 a1, ()) := by
  unfold g21 marked
  cases h : ranges a0 a1 with
  | false => rfl
  | true =>
    rw [marked_loop1 a0 a1 h]
    rfl

theorem g29_ok (a0 : Int) (a1 : Int) (r0 : IntKind.i64.has a0) (r1 : IntKind.i64.has a1) : g29 a0 a1 = some (Sp37.marked a0 a1, ()) := by
  unfold g29 marked
  cases h : ranges a0 a1 with
  | false => rfl
  | true =>
    rw [marked_loop2 a0 a1 h]
    rfl

theorem inside_iff {n a b : Int} : inside n a b = true ↔ a ≤ n ∧ n ≤ b := by simp [inside]
theorem seeOk_iff {c : Cn} : seeOk c = true ↔ (0 ≤ c.1 ∧ c.1 ≤ 1000000) ∧ (0 ≤ c.2.1 ∧ c.2.1 ≤ 1000000) ∧ (0 ≤ c.2.2.1 ∧ c.2.2.1 ≤ 1000000) := by
  simp [seeOk, inside_iff, and_assoc]

theorem g32_ok (a0 : Int) (a1 : Int) (a2 : Int) (a3 : Int) (a4 : Int) (r0 : IntKind.i64.has a0) (r1 : IntKind.i64.has a1) (r2 : IntKind.i64.has a2) (r3 : IntKind.i64.has a3) (r4 : IntKind.i64.has a4) (h : (Sp37.seeOk (a0, a1, a2, ())) = true) : g32 a0 a1 a2 a3 a4 = some (Sp37.see (a0, a1, a2, ()) a3 a4) := by
  obtain ⟨⟨h1, h2⟩, ⟨h3, h4⟩, h5, h6⟩ := seeOk_iff.1 h
  simp only at h1 h2 h3 h4 h5 h6
  have e1 : Int.tmod a0 2 = a0 % 2 := tmod_nn h1
  have e2 : IntKind.wrap .i64 (a1 + 1) = a1 + 1 := wi64 (by omega) (by omega)
  have e3 : IntKind.wrap .i64 (a2 + 1) = a2 + 1 := wi64 (by omega) (by omega)
  have e4 : IntKind.wrap .i64 (a0 + 1) = a0 + 1 := wi64 (by omega) (by omega)
  unfold g32 see
  simp only [e1, e2, e3, e4]
  by_cases k1 : a3 = a0 % 2
  · simp only [k1, decide_true, cond_true]
  · by_cases k2 : a2 + 1 < a4
    · simp only [k1, k2, decide_true, decide_false, cond_true, cond_false]
    · simp only [k1, k2, decide_false, cond_false]
end Go.Abs.C37

/- Chapter 37: the functions keep their contracts: counts, losses, delays. -/
namespace Go.Abs.C37
open Go Go.Proofs Sp37

theorem fold0 {σ τ ε α : Type} {step : τ → Option (Sum τ ε)} (l : List α) (enc : Nat → σ → τ) (f : σ → α → σ) (fin : σ → ε) (I : Nat → σ → Prop)
    (hs : ∀ i s (h : i < l.length), I i s → step (enc i s) = some (.inl (enc (i + 1) (f s l[i]))) ∧ I (i + 1) (f s l[i]))
    (he : ∀ s, I l.length s → step (enc l.length s) = some (.inr (fin s))) (s : σ) (h0 : I 0 s) : Loop step (enc 0 s) = some (fin (l.foldl f s)) := by
  have := Loop_fold l enc f fin I hs he l.length 0 s (by omega) (by omega) h0
  simpa using this
theorem getD_nat {l : List Int} {i : Nat} (h : i < l.length) : l.getD i 0 = l[i] := by
  rw [List.getD_eq_getElem?_getD, List.getElem?_eq_getElem h]; rfl

theorem count_scan1 (l : List Int) (hl : l.length ≤ 1000) : Loop (g13_s0 l) ((0 : Int), ()) = some (bif l.any (fun x => !inside x 0 1) then (true, (2, [], ()), ()) else (false, (0, [], ()), ())) := by
  refine Loop_scan l 0 _ _ _ (fun i h0 hi => ?_) ?_
  · have e1 : IntKind.wrap .i64 (i + 1) = i + 1 := wi64 (by omega) (by omega)
    unfold g13_s0
    simp only [hi, h0, e1, decide_true, cond_true, Bool.and_self, Int.ofNat_eq_natCast]
    cases inside (l.getD i.toNat 0) 0 1 <;> rfl
  · unfold g13_s0
    simp
theorem count_scan2 (l : List Int) (hl : l.length ≤ 1000) : Loop (g24_s0 l) ((0 : Int), ()) = some (bif l.any (fun x => !inside x 0 1) then (true, (2, [], ()), ()) else (false, (0, [], ()), ())) := by
  refine Loop_scan l 0 _ _ _ (fun i h0 hi => ?_) ?_
  · have e1 : IntKind.wrap .i64 (i + 1) = i + 1 := wi64 (by omega) (by omega)
    unfold g24_s0
    simp only [hi, h0, e1, decide_true, cond_true, Bool.and_self, Int.ofNat_eq_natCast]
    generalize l.getD i.toNat 0 = x
    by_cases h1 : x = 0
    · subst h1; rfl
    · by_cases h2 : x = 1
      · subst h2; rfl
      · have : inside x 0 1 = false := by
          rw [Bool.eq_false_iff]; intro k
          have := inside_iff.1 k; omega
        simp only [h1, h2, this, decide_false, Bool.not_false, cond_true, Option.bind_some]
  · unfold g24_s0
    simp
theorem all_any (l : List Int) : (l.any fun x => !inside x 0 1) = !(l.all fun x => inside x 0 1) := by
  induction l with
  | nil => rfl
  | cons x r ih => simp only [List.any_cons, List.all_cons, ih]; cases inside x 0 1 <;> simp

theorem count_loop1 (l : List Int) (g : Int) (hl : l.length ≤ 1000) (hg : 1 ≤ g ∧ g ≤ 1000) :
    Loop (g13_s1 l g) (((0 : Int), (0 : Int), (0 : Int), ()), [], (0 : Int), ()) = some ((((counts l g).1.length : Int), (counts l g).2.1, (counts l g).2.2, ()), (counts l g).1, ()) := by
  refine fold0 (σ := Cs) l (fun i s => (((s.1.length : Int), s.2.1, s.2.2, ()), s.1, (i : Int), ())) (stepC g) (fun s => (((s.1.length : Int), s.2.1, s.2.2, ()), s.1, ()))
    (fun i s => (s.1.length : Int) ≤ i ∧ 0 ≤ s.2.1 ∧ s.2.1 ≤ i ∧ 0 ≤ s.2.2 ∧ s.2.2 ≤ i) (fun i s h hI => ?_) (fun s hI => ?_) ([], 0, 0) ⟨by simp, by simp, by simp, by simp, by simp⟩
  · obtain ⟨out, p, n⟩ := s
    obtain ⟨i1, i2, i3, i4, i5⟩ := hI
    simp only at i1 i2 i3 i4 i5
    have e1 : IntKind.wrap .i64 ((i : Int) + 1) = (i : Int) + 1 := wi64 (by omega) (by omega)
    have c1 : (i : Int) < (l.length : Int) := by omega
    have c2 : (0 : Int) ≤ (i : Int) := by omega
    have hok : seeOk ((out.length : Int), p, n, ()) = true := seeOk_iff.2 ⟨⟨by simp only; omega, by simp only; omega⟩, ⟨by simp only; omega, by simp only; omega⟩, by simp only; omega, by simp only; omega⟩
    unfold g13_s1
    simp only [Int.ofNat_eq_natCast, c1, c2, e1, Int.toNat_natCast, getD_nat h, decide_true, cond_true, Bool.and_self, on_true, hok, Option.bind_some]
    unfold see stepC
    simp only
    by_cases k1 : l[i] = (out.length : Int) % 2
    · simp only [k1, decide_true, cond_true, cond_false, Option.bind_some]
      exact ⟨by rfl, by omega, by omega, by omega, by omega, by omega⟩
    · by_cases k2 : n + 1 < g
      · simp only [k1, k2, decide_true, decide_false, cond_true, cond_false, Option.bind_some]
        exact ⟨by rfl, by omega, by omega, by omega, by omega, by omega⟩
      · simp only [k1, k2, decide_false, cond_true, cond_false, Option.bind_some]
        rw [ble_t (by omega)]
        refine ⟨by simp, by simp; omega, by omega, by omega, by omega, by omega⟩
  · unfold g13_s1
    simp
theorem count_loop2 (l : List Int) (g : Int) (hl : l.length ≤ 1000) (hg : 1 ≤ g ∧ g ≤ 1000) :
    Loop (g24_s1 l g) ((0 : Int), (0 : Int), [], (0 : Int), ()) = some ((counts l g).2.2, (counts l g).2.1, (counts l g).1, ()) := by
  refine fold0 (σ := Cs) l (fun i s => (s.2.2, s.2.1, s.1, (i : Int), ())) (stepC g) (fun s => (s.2.2, s.2.1, s.1, ()))
    (fun i s => (s.1.length : Int) ≤ i ∧ 0 ≤ s.2.1 ∧ s.2.1 ≤ i ∧ 0 ≤ s.2.2 ∧ s.2.2 ≤ i ∧ s.2.2 < g) (fun i s h hI => ?_) (fun s hI => ?_) ([], 0, 0) ⟨by simp, by simp, by simp, by simp, by simp, by simp only; omega⟩
  · obtain ⟨out, p, n⟩ := s
    obtain ⟨i1, i2, i3, i4, i5, i6⟩ := hI
    simp only at i1 i2 i3 i4 i5 i6
    have e1 : IntKind.wrap .i64 ((i : Int) + 1) = (i : Int) + 1 := wi64 (by omega) (by omega)
    have e2 : IntKind.wrap .i64 (p + 1) = p + 1 := wi64 (by omega) (by omega)
    have e3 : IntKind.wrap .i64 (n + 1) = n + 1 := wi64 (by omega) (by omega)
    have e4 : Int.tmod (out.length : Int) 2 = (out.length : Int) % 2 := tmod_nn (by omega)
    have c1 : (i : Int) < (l.length : Int) := by omega
    have c2 : (0 : Int) ≤ (i : Int) := by omega
    unfold g24_s1
    simp only [Int.ofNat_eq_natCast, c1, c2, e1, e2, e3, e4, Int.toNat_natCast, getD_nat h, decide_true, cond_true, Bool.and_self]
    unfold stepC
    simp only
    by_cases k1 : l[i] = (out.length : Int) % 2
    · simp only [k1, decide_true, cond_true, cond_false, Option.bind_some]
      refine ⟨by rfl, ?_, ?_, ?_, ?_, ?_, ?_⟩ <;> first | trivial | omega | (simp only; omega) | assumption
    · by_cases k2 : n + 1 < g
      · have k3 : ¬ n + 1 = g := by omega
        simp only [k1, k2, k3, decide_true, decide_false, cond_true, cond_false, Option.bind_some]
        refine ⟨by rfl, ?_, ?_, ?_, ?_, ?_, ?_⟩ <;> first | trivial | omega | (simp only; omega) | assumption
      · have k3 : n + 1 = g := by omega
        have k4 : ¬ g < g := by omega
        have k5 : (0 : Int) < g := by omega
        simp only [k1, k3, k4, decide_true, decide_false, cond_true, cond_false, Option.bind_some]
        rw [ble_t (by omega)]
        refine ⟨by simp, by simp; omega, ?_, ?_, ?_, ?_, ?_⟩ <;> first | trivial | omega | (simp only; omega) | assumption | simp
  · unfold g24_s1
    simp
theorem counts_len (l : List Int) (g : Int) : ((counts l g).1.length : Int) ≤ l.length := by
  unfold counts
  suffices h : ∀ (l : List Int) (s : Cs), ((l.foldl (stepC g) s).1.length : Int) ≤ (s.1.length : Int) + l.length by
    simpa using h l ([], 0, 0)
  intro l
  induction l with
  | nil => intro s; simp
  | cons x r ih =>
    intro s
    have := ih (stepC g s x)
    have h2 : ((stepC g s x).1.length : Int) ≤ (s.1.length : Int) + 1 := by
      unfold stepC
      by_cases k1 : x = (s.1.length : Int) % 2
      · simp only [k1, decide_true, cond_true]; omega
      · by_cases k2 : s.2.2 + 1 < g
        · simp only [k1, k2, decide_true, decide_false, cond_true, cond_false]; omega
        · simp only [k1, k2, decide_false, cond_false, List.length_append, List.length_cons, List.length_nil]; omega
    simp only [List.foldl_cons, List.length_cons]
    omega
theorem ends_fin (l : List Int) (s : Cs) (hl : s.1.length ≤ 1000) :
    (Option.bind (bif decide ((l.length : Int) > 0) then (bif Nat.ble ((s.1.length + 1) * 8) 140737488355328 then some (s.1 ++ (s.2.1 :: []), ()) else none) else some (s.1, ())) fun y4 : List Int × Unit =>
      Option.bind (bif decide (s.2.2 > 0) then (bif Nat.ble ((y4.1.length + 1) * 8) 140737488355328 then some (y4.1 ++ (s.2.2 :: []), ()) else none) else some y4) fun y5 : List Int × Unit => some ((y5.1, (0 : Int), ()), ())) = some ((ends l s, 0, ()), ()) := by
  unfold ends
  have h1 : decide ((l.length : Int) > 0) = decide (0 < l.length) := by congr 1; apply propext; omega
  rw [h1]
  cases decide (0 < l.length) with
  | true =>
    rw [ble_t (by omega)]
    simp only [cond_true, Option.bind_some, GT.gt]
    rw [ble_t (by simp; omega)]
    cases decide (0 < s.2.2) <;> simp
  | false =>
    simp only [cond_false, Option.bind_some, GT.gt]
    rw [ble_t (by omega)]
    cases decide (0 < s.2.2) <;> simp

theorem g13_ok (a0 : (List Int)) (a1 : Int) (r0 : (Ty.sl (.int .i64)).ok a0) (r1 : IntKind.i64.has a1) : g13 a0 a1 = some (Sp37.count a0 a1, ()) := by
  unfold g13 Sp37.count
  by_cases h1 : 1000 < a0.length
  · have : (a0.length : Int) > 1000 := by omega
    simp only [h1, this, Int.ofNat_eq_natCast, decide_true, cond_true]
  · have h1' : ¬ (a0.length : Int) > 1000 := by omega
    simp only [h1, h1', Int.ofNat_eq_natCast, decide_false, cond_false]
    cases hg : inside a1 1 1000 with
    | false => rfl
    | true =>
      simp only [Bool.not_true, cond_false]
      rw [count_scan1 a0 (by omega), all_any]
      simp only [Option.bind_some]
      cases ha : (a0.all fun x => inside x 0 1) with
      | false => rfl
      | true =>
        simp only [Bool.not_true, cond_false]
        rw [count_loop1 a0 a1 (by omega) (inside_iff.1 hg)]
        simp only [Option.bind_some]
        have hc := counts_len a0 a1
        exact ends_fin a0 (counts a0 a1) (by omega)

theorem g24_ok (a0 : (List Int)) (a1 : Int) (r0 : (Ty.sl (.int .i64)).ok a0) (r1 : IntKind.i64.has a1) : g24 a0 a1 = some (Sp37.count a0 a1, ()) := by
  unfold g24 Sp37.count
  by_cases h1 : 1000 < a0.length
  · have : (a0.length : Int) > 1000 := by omega
    simp only [h1, this, Int.ofNat_eq_natCast, decide_true, cond_true]
  · have h1' : ¬ (a0.length : Int) > 1000 := by omega
    simp only [h1, h1', Int.ofNat_eq_natCast, decide_false, cond_false]
    have hb : (Option.bind (bif !decide (a1 < 1) then some (decide (a1 > 1000), ()) else some (true, ())) fun y2 : Bool × Unit => (some y2 : Option (Bool × Unit))) = some (!inside a1 1 1000, ()) := by
      unfold inside
      by_cases k1 : a1 < 1
      · have : ¬ 1 ≤ a1 := by omega
        simp [k1, this]
      · have : 1 ≤ a1 := by omega
        by_cases k2 : a1 ≤ 1000
        · have k3 : ¬ a1 > 1000 := by omega
          simp [k1, this, k2, k3]
        · have k3 : a1 > 1000 := by omega
          simp [k1, this, k2, k3]
    have hb2 : (bif !decide (a1 < 1) then some (decide (a1 > 1000), ()) else some (true, ())) = some (!inside a1 1 1000, ()) := by
      rw [← hb]; cases (bif !decide (a1 < 1) then some (decide (a1 > 1000), ()) else some (true, ())) <;> rfl
    rw [hb2]
    simp only [Option.bind_some]
    cases hg : inside a1 1 1000 with
    | false => rfl
    | true =>
      simp only [Bool.not_true, cond_false]
      rw [count_scan2 a0 (by omega), all_any]
      simp only [Option.bind_some]
      cases ha : (a0.all fun x => inside x 0 1) with
      | false => rfl
      | true =>
        simp only [Bool.not_true, cond_false]
        rw [count_loop2 a0 a1 (by omega) (inside_iff.1 hg)]
        simp only [Option.bind_some]
        have hc := counts_len a0 a1
        exact ends_fin a0 (counts a0 a1) (by omega)

theorem total_loop (l : List Int) (hl : l.length ≤ 17592186044416) : Loop (g16_s0 l) ((0 : Int), (0 : Int), ()) = some (total l, ()) := by
  refine fold0 (σ := Int) l (fun i s => (s, (i : Int), ())) (fun s x => IntKind.wrap .i64 (s + x)) (fun s => (s, ())) (fun _ _ => True) (fun i s h _ => ?_) (fun s _ => ?_) 0 trivial
  · have e1 : IntKind.wrap .i64 ((i : Int) + 1) = (i : Int) + 1 := wi64 (by omega) (by omega)
    have c1 : (i : Int) < (l.length : Int) := by omega
    have c2 : (0 : Int) ≤ (i : Int) := by omega
    unfold g16_s0
    simp only [Int.ofNat_eq_natCast, c1, c2, e1, Int.toNat_natCast, getD_nat h, decide_true, cond_true, Bool.and_self]
    exact ⟨rfl, trivial⟩
  · unfold g16_s0
    simp
theorem s27 : @g27_s0 = @g16_s0 := rfl

theorem g16_ok (a0 : (List Int)) (r0 : (Ty.sl (.int .i64)).ok a0) : g16 a0 = some (Sp37.total a0, ()) := by
  unfold g16
  rw [total_loop a0 (ints r0).1]
  rfl

theorem g27_ok (a0 : (List Int)) (r0 : (Ty.sl (.int .i64)).ok a0) : g27 a0 = some (Sp37.total a0, ()) := by
  unfold g27
  rw [s27, total_loop a0 (ints r0).1]
  rfl

theorem getD_int {l : List Int} (h : ∀ x ∈ l, -9223372036854775808 ≤ x ∧ x ≤ 9223372036854775807) (i : Nat) : -9223372036854775808 ≤ l.getD i 0 ∧ l.getD i 0 ≤ 9223372036854775807 := by
  by_cases hi : i < l.length
  · exact h _ (getD_mem hi)
  · rw [getD_ge (by omega)]; omega
theorem loss_loop1 (a b : List Int) (hb : b.length ≤ 17592186044416) (out : List Int) (ho : out.length = max a.length b.length) (hv : ∀ k, out.getD k 0 = a.getD k 0) (ha : ∀ x ∈ a, -9223372036854775808 ≤ x ∧ x ≤ 9223372036854775807) :
    Loop (g17_s0 b) (out, (0 : Int), ()) = some (loss a b, ()) := by
  refine Loop_inv (fun v : List Int × Int × Unit => 0 ≤ v.2.1 ∧ v.2.1 ≤ (b.length : Int) ∧ v.1.length = max a.length b.length ∧ ∀ k, v.1.getD k 0 = if k < v.2.1.toNat then IntKind.wrap .i64 (a.getD k 0 - b.getD k 0) else a.getD k 0) (fun v : List Int × Int × Unit => ((b.length : Int) - v.2.1).toNat)
    (fun _ => (loss a b, ())) ?_ (v := (out, 0, ())) ⟨by simp, by simp, ho, fun k => by simp only [Int.toNat_zero, Nat.not_lt_zero, if_false]; exact hv k⟩
  rintro ⟨out, i, ⟨⟩⟩ ⟨k1, k2, k3, k4⟩
  simp only at k1 k2 k3 k4
  unfold g17_s0
  by_cases hi : i < (b.length : Int)
  · right
    have e1 : IntKind.wrap .i64 (i + 1) = i + 1 := wi64 (by omega) (by omega)
    have c1 : i < (out.length : Int) := by omega
    have c2 : Nat.blt i.toNat out.length = true := blt_t (by omega)
    simp only [hi, k1, c1, c2, e1, Int.ofNat_eq_natCast, decide_true, cond_true, Bool.and_self]
    refine ⟨_, rfl, ⟨by simp only; omega, by simp only; omega, by simp only [List.length_set]; exact k3, fun k => ?_⟩, by simp only; omega, trivial⟩
    simp only
    rw [getD_set (by omega), k4, k4]
    by_cases hk : i.toNat = k
    · subst hk
      rw [if_pos rfl, if_neg (by omega : ¬ i.toNat < i.toNat), if_pos (show i.toNat < (i + 1).toNat by omega)]
    · rw [if_neg hk]
      by_cases hk2 : k < i.toNat
      · rw [if_pos hk2, if_pos (by omega)]
      · rw [if_neg hk2, if_neg (by omega)]
  · left
    have : i = (b.length : Int) := by omega
    subst this
    simp only [hi, decide_false, cond_false, Int.ofNat_eq_natCast]
    have : out = loss a b := list_getD_ext 0 (by rw [k3]; simp [loss]) (fun k hk => by
      rw [k4]
      unfold loss
      rw [getD_range_map, if_pos (show k < max a.length b.length by omega)]
      split
      · rfl
      · rename_i h
        rw [getD_ge (by omega : b.length ≤ k), Int.sub_zero]
        have := getD_int ha k
        exact (wi64 this.1 this.2).symm)
    rw [this]

theorem g17_ok (a0 : (List Int)) (a1 : (List Int)) (r0 : (Ty.sl (.int .i64)).ok a0) (r1 : (Ty.sl (.int .i64)).ok a1) : g17 a0 a1 = some (Sp37.loss a0 a1, ()) := by
  obtain ⟨hl0, h0⟩ := ints r0
  obtain ⟨hl1, h1⟩ := ints r1
  obtain ⟨m, hm, hm2⟩ : ∃ m : Nat, (bif decide (Int.ofNat a0.length < Int.ofNat a1.length) then Int.ofNat a1.length else Int.ofNat a0.length) = (m : Int) ∧ m = max a0.length a1.length := by
    by_cases h : (a0.length : Int) < (a1.length : Int)
    · exact ⟨a1.length, by simp only [Int.ofNat_eq_natCast, h, decide_true, cond_true], by omega⟩
    · exact ⟨a0.length, by simp only [Int.ofNat_eq_natCast, h, decide_false, cond_false], by omega⟩
  unfold g17
  rw [hm]
  have c1 : (0 : Int) ≤ (m : Int) := by omega
  have c2 : (m : Int) * 8 ≤ 140737488355328 := by omega
  simp only [c1, c2, Int.le_refl, decide_true, Bool.and_self, cond_true, Int.toNat_natCast, List.length_replicate]
  rw [loss_loop1 a0 a1 hl1 (a0.take m ++ (List.replicate m 0).drop a0.length) (by simp; omega) (fun k => by
    rw [List.take_of_length_le (by omega : a0.length ≤ m), getD_app]
    split
    · rfl
    · rw [getD_ge (l := a0) (by omega), List.drop_replicate, List.getD_eq_getElem?_getD, List.getElem?_replicate]
      split <;> rfl) h0]
  rfl

theorem loss_loop2 (a b : List Int) (ha : a.length ≤ 17592186044416) (hb : b.length ≤ 17592186044416) (hx : ∀ x ∈ a, -9223372036854775808 ≤ x ∧ x ≤ 9223372036854775807) :
    Loop (g26_s0 a b) ([], (0 : Int), ()) = some (loss a b, ()) := by
  obtain ⟨m, hm, hm2⟩ : ∃ m : Nat, (bif decide (Int.ofNat a.length < Int.ofNat b.length) then Int.ofNat b.length else Int.ofNat a.length) = (m : Int) ∧ m = max a.length b.length := by
    by_cases h : (a.length : Int) < (b.length : Int)
    · exact ⟨b.length, by simp only [Int.ofNat_eq_natCast, h, decide_true, cond_true], by omega⟩
    · exact ⟨a.length, by simp only [Int.ofNat_eq_natCast, h, decide_false, cond_false], by omega⟩
  refine Loop_inv (fun v : List Int × Int × Unit => 0 ≤ v.2.1 ∧ v.2.1 ≤ (m : Int) ∧ v.1 = (List.range v.2.1.toNat).map fun i => IntKind.wrap .i64 (a.getD i 0 - b.getD i 0)) (fun v : List Int × Int × Unit => ((m : Int) - v.2.1).toNat)
    (fun _ => (loss a b, ())) ?_ (v := ([], 0, ())) ⟨by simp, by simp, rfl⟩
  rintro ⟨out, i, ⟨⟩⟩ ⟨k1, k2, k3⟩
  simp only at k1 k2 k3
  subst k3
  unfold g26_s0
  rw [hm]
  by_cases hi : i < (m : Int)
  · right
    have e1 : IntKind.wrap .i64 (i + 1) = i + 1 := wi64 (by omega) (by omega)
    have hxa := getD_int hx i.toNat
    have e2 : IntKind.wrap .i64 (a.getD i.toNat 0) = a.getD i.toNat 0 := wi64 hxa.1 hxa.2
    have h1 : (bif decide (i < (a.length : Int)) then (bif decide (0 ≤ i) && decide (i < (a.length : Int)) then some (IntKind.wrap .i64 (0 + a.getD i.toNat 0), ()) else none) else some ((0 : Int), ())) = some (a.getD i.toNat 0, ()) := by
      by_cases h : i < (a.length : Int)
      · simp only [h, k1, decide_true, Bool.and_self, cond_true, Int.zero_add, e2]
      · simp only [h, decide_false, cond_false, getD_ge (show a.length ≤ i.toNat by omega)]
    simp only [hi, Int.ofNat_eq_natCast, decide_true, cond_true, e1]
    rw [h1]
    simp only [Option.bind_some]
    have h2 : (bif decide (i < (b.length : Int)) then (bif decide (0 ≤ i) && decide (i < (b.length : Int)) then some (IntKind.wrap .i64 (a.getD i.toNat 0 - b.getD i.toNat 0), ()) else none) else some (a.getD i.toNat 0, ())) = some (IntKind.wrap .i64 (a.getD i.toNat 0 - b.getD i.toNat 0), ()) := by
      by_cases h : i < (b.length : Int)
      · simp only [h, k1, decide_true, Bool.and_self, cond_true]
      · simp only [h, decide_false, cond_false, getD_ge (show b.length ≤ i.toNat by omega), Int.sub_zero, e2]
    rw [h2]
    simp only [Option.bind_some]
    rw [ble_t (by simp; omega), cond_true]
    refine ⟨_, rfl, ⟨by simp only; omega, by simp only; omega, ?_⟩, by simp only; omega, trivial⟩
    simp only
    rw [show (i + 1).toNat = i.toNat + 1 by omega, List.range_succ, List.map_append]
    rfl
  · left
    have : i.toNat = m := by omega
    simp only [hi, decide_false, cond_false]
    rw [this, hm2]
    rfl

theorem g26_ok (a0 : (List Int)) (a1 : (List Int)) (r0 : (Ty.sl (.int .i64)).ok a0) (r1 : (Ty.sl (.int .i64)).ok a1) : g26 a0 a1 = some (Sp37.loss a0 a1, ()) := by
  obtain ⟨hl0, h0⟩ := ints r0
  obtain ⟨hl1, h1⟩ := ints r1
  unfold g26
  rw [loss_loop2 a0 a1 hl0 hl1 h0]
  rfl

theorem delays_scan1 (a b : List Int) (h : a.length = b.length) (hl : a.length ≤ 17592186044416) : Loop (g22_s0 a b) ((0 : Int), ()) = some (bif badTimes (a.zip b) then (true, ([], 2, ()), ()) else (false, ([], 0, ()), ())) := by
  have hz : (a.zip b).length = a.length := by simp [h]
  refine Loop_scan (a.zip b) (0, 0) _ _ _ (fun i h0 hi => ?_) ?_
  · rw [hz] at hi
    have e1 : IntKind.wrap .i64 (i + 1) = i + 1 := wi64 (by omega) (by omega)
    have c1 : i < (b.length : Int) := by omega
    have hg := zip_getD a b i.toNat 0 0 (by omega) (by omega)
    unfold g22_s0
    simp only [hi, h0, c1, e1, hg, decide_true, cond_true, Bool.and_self, Int.ofNat_eq_natCast, GT.gt]
    cases inside (a.getD i.toNat 0) 0 1000000 <;> cases decide (1000000 < b.getD i.toNat 0) <;> rfl
  · unfold g22_s0
    simp [hz]
theorem delays_scan2 (a b : List Int) (h : a.length = b.length) (hl : a.length ≤ 17592186044416) : Loop (g25_s0 a b) ((0 : Int), ()) = some (bif badTimes (a.zip b) then (true, (2, [], ()), ()) else (false, (0, [], ()), ())) := by
  have hz : (a.zip b).length = a.length := by simp [h]
  refine Loop_scan (a.zip b) (0, 0) _ _ _ (fun i h0 hi => ?_) ?_
  · rw [hz] at hi
    have e1 : IntKind.wrap .i64 (i + 1) = i + 1 := wi64 (by omega) (by omega)
    have c1 : i < (b.length : Int) := by omega
    have hg := zip_getD a b i.toNat 0 0 (by omega) (by omega)
    unfold g25_s0
    simp only [hi, h0, c1, e1, hg, decide_true, cond_true, Bool.and_self, Int.ofNat_eq_natCast, GT.gt]
    unfold inside
    generalize a.getD i.toNat 0 = x
    generalize b.getD i.toNat 0 = y
    by_cases k1 : x < 0
    · have k2 : ¬ 0 ≤ x := by omega
      simp [k1, k2]
    · have k2 : 0 ≤ x := by omega
      by_cases k3 : 1000000 < x
      · have k4 : ¬ x ≤ 1000000 := by omega
        simp [k1, k2, k3, k4]
      · have k4 : x ≤ 1000000 := by omega
        simp only [k1, k2, k3, k4, decide_true, decide_false, Bool.not_false, Bool.and_self, Bool.not_true, cond_true, Bool.false_or, Option.bind_some]
        cases decide (1000000 < y) <;> rfl
  · unfold g25_s0
    simp [hz]
def resD (r : List Int × Int × Unit) : Bool × (List Int × Int × Unit) × List Int × Unit := bif decide (r.2.1 = 25) then (true, ([], 25, ()), [], ()) else (false, ([], 0, ()), r.1, ())
theorem diffs_cons (p : Int × Int) (l : List (Int × Int)) (acc : List Int) : diffs (p :: l) acc = bif decide (p.2 < 0) then diffs l acc else bif decide (p.2 < p.1) then ([], 25, ()) else diffs l (acc ++ [p.2 - p.1]) := rfl
theorem diffs_res (l : List (Int × Int)) : ∀ acc, diffs l acc = ([], 25, ()) ∨ ∃ r, diffs l acc = (r, 0, ()) := by
  induction l with
  | nil => intro acc; exact .inr ⟨acc, rfl⟩
  | cons p l ih =>
    intro acc
    unfold diffs
    cases decide (p.2 < 0) with
    | true => exact ih acc
    | false =>
      cases decide (p.2 < p.1) with
      | true => exact .inl rfl
      | false => exact ih _
theorem zip_mem {a b : List Int} {p : Int × Int} (h : p ∈ a.zip b) : p.1 ∈ a ∧ p.2 ∈ b := List.of_mem_zip h
theorem delays_loop1 (a b : List Int) (h : a.length = b.length) (hl : a.length ≤ 17592186044416) (hbad : badTimes (a.zip b) = false) : Loop (g22_s1 a b) ((0 : Int), [], ()) = some (resD (diffs (a.zip b) [])) := by
  have hz : (a.zip b).length = b.length := by simp [h]
  have key : Loop (g22_s1 a b) ((0 : Int), [], ()) = some (resD (diffs ((a.zip b).drop (0 : Int).toNat) [])) := by
    refine Loop_inv (fun v : Int × List Int × Unit => 0 ≤ v.1 ∧ v.1 ≤ (b.length : Int) ∧ (v.2.1.length : Int) ≤ v.1) (fun v : Int × List Int × Unit => ((b.length : Int) - v.1).toNat)
      (fun v : Int × List Int × Unit => resD (diffs ((a.zip b).drop v.1.toNat) v.2.1)) ?_ (v := (0, [], ())) ⟨by simp, by simp, by simp⟩
    rintro ⟨i, out, ⟨⟩⟩ ⟨k1, k2, k3⟩
    simp only at k1 k2 k3
    unfold g22_s1
    by_cases hi : i < (b.length : Int)
    · have e1 : IntKind.wrap .i64 (i + 1) = i + 1 := wi64 (by omega) (by omega)
      have c1 : i < (a.length : Int) := by omega
      have hg := zip_getD a b i.toNat 0 0 (by omega) (by omega)
      have hd := drop_getD (a.zip b) i.toNat (0, 0) (by omega)
      rw [hg, show i.toNat + 1 = (i + 1).toNat by omega] at hd
      have hp : (!(inside (a.getD i.toNat 0) 0 1000000)) = false ∧ ¬ 1000000 < b.getD i.toNat 0 := by
        have hm : (a.getD i.toNat 0, b.getD i.toNat 0) ∈ a.zip b := by rw [← hg]; exact getD_mem (by omega)
        have := (List.any_eq_false.1 hbad) _ hm
        simp only [Bool.or_eq_true, decide_eq_true_eq, not_or, Bool.not_eq_true] at this
        exact this
      have hin := inside_iff.1 (show inside (a.getD i.toNat 0) 0 1000000 = true by have := hp.1; simpa using this)
      simp only [hi, k1, c1, e1, hd, Int.ofNat_eq_natCast, decide_true, cond_true, Bool.and_self]
      rw [diffs_cons]
      simp only
      by_cases q1 : b.getD i.toNat 0 < 0
      · right
        simp only [q1, decide_true, cond_true]
        exact ⟨_, rfl, ⟨by simp only; omega, by simp only; omega, by simp only; omega⟩, by simp only; omega, rfl⟩
      · by_cases q2 : b.getD i.toNat 0 < a.getD i.toNat 0
        · left
          simp only [q1, q2, decide_true, decide_false, cond_true, cond_false]
          rfl
        · right
          have e2 : IntKind.wrap .i64 (b.getD i.toNat 0 - a.getD i.toNat 0) = b.getD i.toNat 0 - a.getD i.toNat 0 := wi64 (by omega) (by omega)
          simp only [q1, q2, e2, decide_false, cond_false]
          rw [ble_t (by omega), cond_true]
          exact ⟨_, rfl, ⟨by simp only; omega, by simp only; omega, by simp; omega⟩, by simp only; omega, rfl⟩
    · left
      have : i.toNat = (a.zip b).length := by omega
      simp only [hi, decide_false, cond_false, Int.ofNat_eq_natCast]
      rw [this, List.drop_length]
      rfl
  simpa using key
theorem delays_loop2 (a b : List Int) (h : a.length = b.length) (hl : a.length ≤ 17592186044416) (hbad : badTimes (a.zip b) = false) : Loop (g25_s1 a b) ((0 : Int), [], ()) = some (resD (diffs (a.zip b) [])) := by
  have hz : (a.zip b).length = b.length := by simp [h]
  have key : Loop (g25_s1 a b) ((0 : Int), [], ()) = some (resD (diffs ((a.zip b).drop (0 : Int).toNat) [])) := by
    refine Loop_inv (fun v : Int × List Int × Unit => 0 ≤ v.1 ∧ v.1 ≤ (a.length : Int) ∧ (v.2.1.length : Int) ≤ v.1) (fun v : Int × List Int × Unit => ((a.length : Int) - v.1).toNat)
      (fun v : Int × List Int × Unit => resD (diffs ((a.zip b).drop v.1.toNat) v.2.1)) ?_ (v := (0, [], ())) ⟨by simp, by simp, by simp⟩
    rintro ⟨i, out, ⟨⟩⟩ ⟨k1, k2, k3⟩
    simp only at k1 k2 k3
    unfold g25_s1
    by_cases hi : i < (a.length : Int)
    · have e1 : IntKind.wrap .i64 (i + 1) = i + 1 := wi64 (by omega) (by omega)
      have c1 : i < (b.length : Int) := by omega
      have hg := zip_getD a b i.toNat 0 0 (by omega) (by omega)
      have hd := drop_getD (a.zip b) i.toNat (0, 0) (by omega)
      rw [hg, show i.toNat + 1 = (i + 1).toNat by omega] at hd
      have hp : (!(inside (a.getD i.toNat 0) 0 1000000)) = false ∧ ¬ 1000000 < b.getD i.toNat 0 := by
        have hm : (a.getD i.toNat 0, b.getD i.toNat 0) ∈ a.zip b := by rw [← hg]; exact getD_mem (by omega)
        have := (List.any_eq_false.1 hbad) _ hm
        simp only [Bool.or_eq_true, decide_eq_true_eq, not_or, Bool.not_eq_true] at this
        exact this
      have hin := inside_iff.1 (show inside (a.getD i.toNat 0) 0 1000000 = true by have := hp.1; simpa using this)
      simp only [hi, k1, c1, e1, hd, Int.ofNat_eq_natCast, decide_true, cond_true, Bool.and_self]
      rw [diffs_cons]
      simp only [GE.ge]
      by_cases q1 : b.getD i.toNat 0 < 0
      · right
        have q1' : ¬ 0 ≤ b.getD i.toNat 0 := by omega
        simp only [q1, q1', decide_true, decide_false, cond_true, cond_false, Option.bind_some]
        exact ⟨_, rfl, ⟨by simp only; omega, by simp only; omega, by simp only; omega⟩, by simp only; omega, rfl⟩
      · have q1' : 0 ≤ b.getD i.toNat 0 := by omega
        by_cases q2 : b.getD i.toNat 0 < a.getD i.toNat 0
        · left
          simp only [q1, q1', q2, decide_true, decide_false, cond_true, cond_false, Option.bind_some]
          rfl
        · right
          have e2 : IntKind.wrap .i64 (b.getD i.toNat 0 - a.getD i.toNat 0) = b.getD i.toNat 0 - a.getD i.toNat 0 := wi64 (by omega) (by omega)
          simp only [q1, q1', q2, e2, decide_true, decide_false, cond_true, cond_false, Option.bind_some]
          rw [ble_t (by omega)]
          simp only [cond_true, Option.bind_some]
          exact ⟨_, rfl, ⟨by simp only; omega, by simp only; omega, by simp; omega⟩, by simp only; omega, rfl⟩
    · left
      have : i.toNat = (a.zip b).length := by omega
      simp only [hi, decide_false, cond_false, Int.ofNat_eq_natCast]
      rw [this, List.drop_length]
      rfl
  simpa using key

theorem g22_ok (a0 : (List Int)) (a1 : (List Int)) (r0 : (Ty.sl (.int .i64)).ok a0) (r1 : (Ty.sl (.int .i64)).ok a1) : g22 a0 a1 = some (Sp37.delays a0 a1, ()) := by
  obtain ⟨hl0, h0⟩ := ints r0
  unfold g22 delays
  by_cases h : a0.length = a1.length
  · have h' : (a0.length : Int) = (a1.length : Int) := by omega
    simp only [h', h, Int.ofNat_eq_natCast, decide_true, Bool.not_true, cond_false]
    rw [delays_scan1 a0 a1 h hl0]
    cases hb : badTimes (a0.zip a1) with
    | true => rfl
    | false =>
      simp only [cond_false, Option.bind_some]
      rw [delays_loop1 a0 a1 h hl0 hb]
      rcases diffs_res (a0.zip a1) [] with hd | ⟨r, hd⟩ <;> rw [hd] <;> rfl
  · have h' : ¬ (a0.length : Int) = (a1.length : Int) := by omega
    simp [h', h]

theorem g25_ok (a0 : (List Int)) (a1 : (List Int)) (r0 : (Ty.sl (.int .i64)).ok a0) (r1 : (Ty.sl (.int .i64)).ok a1) : g25 a0 a1 = some (Sp37.delays a0 a1, ()) := by
  obtain ⟨hl0, h0⟩ := ints r0
  unfold g25 delays
  by_cases h : a0.length = a1.length
  · have h' : (a0.length : Int) = (a1.length : Int) := by omega
    simp only [h', h, Int.ofNat_eq_natCast, decide_true, Bool.not_true, cond_false]
    rw [delays_scan2 a0 a1 h hl0]
    cases hb : badTimes (a0.zip a1) with
    | true => rfl
    | false =>
      simp only [cond_false, Option.bind_some]
      rw [delays_loop2 a0 a1 h hl0 hb]
      rcases diffs_res (a0.zip a1) [] with hd | ⟨r, hd⟩ <;> rw [hd] <;> rfl
  · have h' : ¬ (a0.length : Int) = (a1.length : Int) := by omega
    simp [h', h]

theorem g18_ok   : g18  = some (true, ()) := by
  kernel_rfl
end Go.Abs.C37

/- Chapter 37: the functions keep their contracts: the law's own. -/
namespace Go.Abs.C37
open Go Go.Proofs Sp37

theorem blocks_len (l : List Int) (b k : Int) : (Sp37.blocks l b k).length = (k + 1).toNat := by simp [Sp37.blocks]
theorem blocks_getD (l : List Int) (b k : Int) (j : Nat) : (Sp37.blocks l b k).getD j 0 = if j < (k + 1).toNat then ((l.filter fun x => decide (x / b = (j : Int))).length : Int) else 0 := by
  unfold Sp37.blocks
  rw [getD_range_map]
theorem blocks_snoc {l : List Int} {b k x : Int} (h0 : 0 ≤ x / b) (h1 : x / b ≤ k) : Sp37.blocks (l ++ [x]) b k = (Sp37.blocks l b k).set (x / b).toNat ((Sp37.blocks l b k).getD (x / b).toNat 0 + 1) := by
  refine list_getD_ext 0 (by simp [blocks_len]) fun j hj => ?_
  rw [blocks_len] at hj
  rw [getD_set (by rw [blocks_len]; omega), blocks_getD, blocks_getD, blocks_getD, if_pos hj, if_pos hj, if_pos (show (x / b).toNat < (k + 1).toNat by omega), List.filter_append, List.length_append]
  by_cases h : (x / b).toNat = j
  · subst h
    have : x / b = ((x / b).toNat : Int) := by omega
    rw [if_pos rfl]
    simp [← this]
  · have : ¬ x / b = (j : Int) := by omega
    rw [if_neg h]
    simp [this]
theorem inBlocks_iff {l : List Int} {b k : Int} : inBlocks l b k = true ↔ ∀ x ∈ l, 0 ≤ x ∧ x / b ≤ k := by simp [inBlocks]
theorem blocks_bound (l : List Int) (b k : Int) (j : Nat) : 0 ≤ (Sp37.blocks l b k).getD j 0 ∧ (Sp37.blocks l b k).getD j 0 ≤ (l.length : Int) := by
  rw [blocks_getD]
  split
  · have := List.length_filter_le (fun x => decide (x / b = (j : Int))) l
    omega
  · omega
theorem blocks_nil (b k : Int) : Sp37.blocks [] b k = List.replicate (k + 1).toNat 0 := by
  refine list_getD_ext 0 (by simp [blocks_len]) fun j hj => ?_
  rw [blocks_len] at hj
  rw [blocks_getD, if_pos hj, List.getD_eq_getElem?_getD, List.getElem?_replicate, if_pos hj]
  rfl
theorem blocks_loop (l : List Int) (b k : Int) (hb : 0 < b) (hk : 0 ≤ k) (hk2 : k ≤ 100000) (hl : l.length ≤ 17592186044416) (hx : ∀ x ∈ l, -9223372036854775808 ≤ x ∧ x ≤ 9223372036854775807) (hin : inBlocks l b k = true) :
    Loop (g10_s0 l b) ((0 : Int), List.replicate (k + 1).toNat 0, ()) = some (Sp37.blocks l b k, ()) := by
  refine Loop_inv (fun v : Int × List Int × Unit => 0 ≤ v.1 ∧ v.1 ≤ (l.length : Int) ∧ v.2.1 = Sp37.blocks (l.take v.1.toNat) b k) (fun v : Int × List Int × Unit => ((l.length : Int) - v.1).toNat)
    (fun _ => (Sp37.blocks l b k, ())) ?_ (v := (0, List.replicate (k + 1).toNat 0, ())) ⟨by simp, by simp, (blocks_nil b k).symm⟩
  rintro ⟨i, out, ⟨⟩⟩ ⟨k1, k2, k3⟩
  simp only at k1 k2 k3
  subst k3
  unfold g10_s0
  by_cases hi : i < (l.length : Int)
  · right
    have hxi := inBlocks_iff.1 hin _ (getD_mem (d := 0) (show i.toNat < l.length by omega))
    have hxr := getD_int hx i.toNat
    have hd : 0 ≤ l.getD i.toNat 0 / b := Int.ediv_nonneg hxi.1 (by omega)
    have e1 : IntKind.wrap .i64 (i + 1) = i + 1 := wi64 (by omega) (by omega)
    have e2 : Int.tdiv (l.getD i.toNat 0) b = l.getD i.toNat 0 / b := tdiv_nn hxi.1
    have e3 : IntKind.wrap .i64 (l.getD i.toNat 0 / b) = l.getD i.toNat 0 / b := wi64 (by omega) (by omega)
    have hlen := blocks_len (l.take i.toNat) b k
    have c0 : ¬ b = 0 := by omega
    have c1 : l.getD i.toNat 0 / b < ((Sp37.blocks (l.take i.toNat) b k).length : Int) := by rw [hlen]; omega
    have c2 : Nat.blt (l.getD i.toNat 0 / b).toNat (Sp37.blocks (l.take i.toNat) b k).length = true := blt_t (by rw [hlen]; omega)
    have hbd := blocks_bound (l.take i.toNat) b k (l.getD i.toNat 0 / b).toNat
    have htl : (l.take i.toNat).length ≤ l.length := by simp; omega
    have e4 : IntKind.wrap .i64 ((Sp37.blocks (l.take i.toNat) b k).getD (l.getD i.toNat 0 / b).toNat 0 + 1) = (Sp37.blocks (l.take i.toNat) b k).getD (l.getD i.toNat 0 / b).toNat 0 + 1 := wi64 (by omega) (by omega)
    simp only [hi, k1, c0, c1, c2, hd, e1, e2, e3, e4, Int.ofNat_eq_natCast, decide_true, decide_false, Bool.not_false, cond_true, Bool.and_self]
    refine ⟨_, rfl, ⟨by simp only; omega, by simp only; omega, ?_⟩, by simp only; omega, trivial⟩
    simp only
    rw [show (i + 1).toNat = i.toNat + 1 by omega, take_succ_getD l i.toNat 0 (by omega), blocks_snoc hd hxi.2]
  · left
    have : i.toNat = l.length := by omega
    simp only [hi, decide_false, cond_false, Int.ofNat_eq_natCast, this, List.take_length]

theorem g10_ok (a0 : (List Int)) (a1 : Int) (a2 : Int) (r0 : (Ty.sl (.int .i64)).ok a0) (r1 : IntKind.i64.has a1) (r2 : IntKind.i64.has a2) (h : (decide (0 < a1) && decide (0 ≤ a2) && decide (a2 ≤ 100000) && Sp37.inBlocks a0 a1 a2) = true) : g10 a0 a1 a2 = some (Sp37.blocks a0 a1 a2, ()) := by
  simp only [Bool.and_eq_true, decide_eq_true_eq] at h
  obtain ⟨⟨⟨h1, h2⟩, h3⟩, h4⟩ := h
  obtain ⟨hl, hx⟩ := ints r0
  have e1 : IntKind.wrap .i64 (a2 + 1) = a2 + 1 := wi64 (by omega) (by omega)
  have c1 : 0 ≤ a2 + 1 := by omega
  have c2 : (a2 + 1) * 8 ≤ 140737488355328 := by omega
  unfold g10
  simp only [e1, c1, c2, Int.le_refl, decide_true, Bool.and_self, cond_true]
  rw [blocks_loop a0 a1 a2 h1 h2 h3 hl hx h4]
  rfl

theorem g14_ok (a0 : (List Int)) (a1 : Int) (r0 : (Ty.sl (.int .i64)).ok a0) (r1 : IntKind.i64.has a1) (h : (decide (0 < a1) && a0.all fun y => decide (0 ≤ y)) = true) : g14 a0 a1 = some (Sp37.cols a0 a1, ()) := by
  simp only [Bool.and_eq_true, decide_eq_true_eq] at h
  obtain ⟨h1, h2⟩ := h
  obtain ⟨hl, hx⟩ := ints r0
  have key : Loop (g14_s0 a0 a1) ([], (0 : Int), ()) = some (cols a0 a1, ()) := by
    refine Loop_inv (fun v : List Int × Int × Unit => 0 ≤ v.2.1 ∧ v.2.1 ≤ (a0.length : Int) ∧ v.1 = cols (a0.take v.2.1.toNat) a1) (fun v : List Int × Int × Unit => ((a0.length : Int) - v.2.1).toNat)
      (fun _ => (cols a0 a1, ())) ?_ (v := ([], 0, ())) ⟨by simp, by simp, rfl⟩
    rintro ⟨out, i, ⟨⟩⟩ ⟨k1, k2, k3⟩
    simp only at k1 k2 k3
    subst k3
    unfold g14_s0
    by_cases hi : i < (a0.length : Int)
    · right
      have hxi : 0 ≤ a0.getD i.toNat 0 := by
        have := List.all_eq_true.1 h2 _ (getD_mem (d := 0) (show i.toNat < a0.length by omega))
        simpa using this
      have hxr := getD_int hx i.toNat
      have hd : 0 ≤ a0.getD i.toNat 0 / a1 := Int.ediv_nonneg hxi (by omega)
      have hd2 : a0.getD i.toNat 0 / a1 ≤ a0.getD i.toNat 0 := Int.ediv_le_self _ hxi
      have e1 : IntKind.wrap .i64 (i + 1) = i + 1 := wi64 (by omega) (by omega)
      have e2 : Int.tdiv (a0.getD i.toNat 0) a1 = a0.getD i.toNat 0 / a1 := tdiv_nn hxi
      have e3 : IntKind.wrap .i64 (a0.getD i.toNat 0 / a1) = a0.getD i.toNat 0 / a1 := wi64 (by omega) (by omega)
      have e4 : Int.tmod (a0.getD i.toNat 0 / a1) 2 = a0.getD i.toNat 0 / a1 % 2 := tmod_nn hd
      have c0 : ¬ a1 = 0 := by omega
      have hlen : (cols (a0.take i.toNat) a1).length = i.toNat := by simp [cols]; omega
      simp only [hi, k1, c0, e1, e2, e3, e4, Int.ofNat_eq_natCast, decide_true, decide_false, Bool.not_false, cond_true, Bool.and_self]
      rw [ble_t (by omega), cond_true]
      refine ⟨_, rfl, ⟨by simp only; omega, by simp only; omega, ?_⟩, by simp only; omega, trivial⟩
      simp only
      rw [show (i + 1).toNat = i.toNat + 1 by omega, take_succ_getD a0 i.toNat 0 (by omega)]
      simp [cols]
    · left
      have : i.toNat = a0.length := by omega
      simp only [hi, decide_false, cond_false, Int.ofNat_eq_natCast, this, List.take_length]
  unfold g14
  rw [key]
  rfl

theorem s11 : @g11_s0 = @g10_s0 := rfl
theorem pass_loop (l : List Int) (b least : Int) (hb : 0 < b) (hl : l.length ≤ 1000000) (hx : ∀ x ∈ l, -9223372036854775808 ≤ x ∧ x ≤ 9223372036854775807) (hin : inBlocks l b 1000 = true)
    (left : List Int) (t : Tp) (hw : wf t = true) (h1 : left.length = 1001) (h2 : ∀ j, 0 ≤ left.getD j 0 ∧ left.getD j 0 ≤ 1000000) :
    Loop (g11_s1 l b least) ((0 : Int), [], left, t, ()) = some ((passGo b least l left t []).1, (passGo b least l left t []).2, ()) := by
  have key : Loop (g11_s1 l b least) ((0 : Int), [], left, t, ()) = some ((passGo b least (l.drop (0 : Int).toNat) left t []).1, (passGo b least (l.drop (0 : Int).toNat) left t []).2, ()) := by
    refine Loop_inv (fun v : Int × List Int × List Int × Tp × Unit => 0 ≤ v.1 ∧ v.1 ≤ (l.length : Int) ∧ (v.2.1.length : Int) ≤ v.1 ∧ v.2.2.1.length = 1001 ∧ (∀ j, - v.1 ≤ v.2.2.1.getD j 0 ∧ v.2.2.1.getD j 0 ≤ 1000000) ∧ wf v.2.2.2.1 = true) (fun v : Int × List Int × List Int × Tp × Unit => ((l.length : Int) - v.1).toNat)
      (fun v : Int × List Int × List Int × Tp × Unit => ((passGo b least (l.drop v.1.toNat) v.2.2.1 v.2.2.2.1 v.2.1).1, (passGo b least (l.drop v.1.toNat) v.2.2.1 v.2.2.2.1 v.2.1).2, ())) ?_ (v := (0, [], left, t, ())) ⟨by simp, by simp, by simp, h1, fun j => by have := h2 j; simp only; omega, hw⟩
    rintro ⟨i, out, left, t, ⟨⟩⟩ ⟨k1, k2, k3, k4, k5, k6⟩
    simp only at k1 k2 k3 k4 k5 k6
    unfold g11_s1
    by_cases hi : i < (l.length : Int)
    · have hxi := inBlocks_iff.1 hin _ (getD_mem (d := 0) (show i.toNat < l.length by omega))
      have hxr := getD_int hx i.toNat
      have hd : 0 ≤ l.getD i.toNat 0 / b := Int.ediv_nonneg hxi.1 (by omega)
      have e1 : IntKind.wrap .i64 (i + 1) = i + 1 := wi64 (by omega) (by omega)
      have e2 : Int.tdiv (l.getD i.toNat 0) b = l.getD i.toNat 0 / b := tdiv_nn hxi.1
      have e3 : IntKind.wrap .i64 (l.getD i.toNat 0 / b) = l.getD i.toNat 0 / b := wi64 (by omega) (by omega)
      have c0 : ¬ b = 0 := by omega
      have c1 : l.getD i.toNat 0 / b < (left.length : Int) := by omega
      have c2 : Nat.blt (l.getD i.toNat 0 / b).toNat left.length = true := blt_t (by omega)
      have hlb := k5 (l.getD i.toNat 0 / b).toNat
      have e4 : IntKind.wrap .i64 (left.getD (l.getD i.toNat 0 / b).toNat 0 - 1) = left.getD (l.getD i.toNat 0 / b).toNat 0 - 1 := wi64 (by omega) (by omega)
      have hdrop := drop_getD l i.toNat 0 (by omega)
      rw [show i.toNat + 1 = (i + 1).toNat by omega] at hdrop
      rw [hdrop]
      have wn := next_wf (n := 4) k6
      simp only [hi, k1, c0, c1, c2, hd, e1, e2, e3, Int.ofNat_eq_natCast, decide_true, decide_false, Bool.not_false, cond_true, Bool.and_self, GT.gt]
      right
      by_cases q1 : least < left.getD (l.getD i.toNat 0 / b).toNat 0
      · by_cases q2 : (next t 4).1 = 0
        · simp only [q1, q2, k6, on_true, decide_true, cond_true, Option.bind_some, c1, c2, e4]
          refine ⟨_, rfl, ⟨by simp only; omega, by simp only; omega, by simp only; omega, by simp only [List.length_set]; exact k4, fun j => ?_, wn⟩, by simp only; omega, ?_⟩
          · simp only
            rw [getD_set (by omega)]
            have := k5 j
            split <;> omega
          · simp only [passGo, q1, q2, decide_true, cond_true]
        · simp only [q1, q2, k6, on_true, decide_true, decide_false, cond_true, cond_false, Option.bind_some]
          rw [ble_t (by omega), cond_true]
          refine ⟨_, rfl, ⟨by simp only; omega, by simp only; omega, by simp; omega, k4, fun j => ?_, wn⟩, by simp only; omega, ?_⟩
          · have := k5 j; simp only; omega
          · simp only [passGo, q1, q2, decide_true, decide_false, cond_true, cond_false]
      · simp only [q1, decide_false, cond_false, Option.bind_some]
        rw [ble_t (by omega), cond_true]
        refine ⟨_, rfl, ⟨by simp only; omega, by simp only; omega, by simp; omega, k4, fun j => ?_, k6⟩, by simp only; omega, ?_⟩
        · have := k5 j; simp only; omega
        · simp only [passGo, q1, decide_false, cond_false]
    · left
      have : i.toNat = l.length := by omega
      simp only [hi, decide_false, cond_false, Int.ofNat_eq_natCast, this, List.drop_length]
      rfl
  simpa using key

theorem g11_ok (a0 : (List Int)) (a1 : Int) (a2 : (List Int)) (a3 : Int) (a4 : Int) (r0 : (Ty.sl (.int .i64)).ok a0) (r1 : IntKind.i64.has a1) (r2 : (Ty.sl (.int .i64)).ok a2) (r3 : IntKind.i64.has a3) (r4 : IntKind.i64.has a4) (h : (Sp37.wf (a0, a1, ()) && decide (0 < a3) && Sp37.inBlocks a2 a3 1000 && decide (a2.length ≤ 1000000)) = true) : g11 a0 a1 a2 a3 a4 = some (Sp37.passes (a0, a1, ()) a2 a3 a4) := by
  simp only [Bool.and_eq_true, decide_eq_true_eq] at h
  obtain ⟨⟨⟨h1, h2⟩, h3⟩, h4⟩ := h
  obtain ⟨hl, hx⟩ := ints r2
  unfold g11 Sp37.passes
  have hb := blocks_loop a2 a3 1000 h2 (by omega) (by omega) hl hx h3
  rw [show ((1000 : Int) + 1).toNat = 1001 from rfl] at hb
  rw [s11, hb]
  simp only [Option.bind_some]
  rw [pass_loop a2 a3 a4 h2 h4 hx h3 (Sp37.blocks a2 a3 1000) (a0, a1, ()) h1 (by rw [blocks_len]; rfl) (fun j => by have := blocks_bound a2 a3 1000 j; omega)]
  rfl

theorem rev_loop (l : List Int) (a : Int × List Int × Tp × Unit) (h0 : 0 ≤ a.1) (k : Nat) (hk : a.1 + k ≤ (l.length : Int)) (hl : l.length ≤ 1000000) (ho : (a.2.1.length : Int) + k ≤ 1000000) :
    Loop (g12_s0 l a) ((k : Int) - 1, a.2.1, ()) = some (a.2.1 ++ ((l.drop a.1.toNat).take k).reverse, ()) := by
  have key : ∀ (n : Nat) (out : List Int), (n : Nat) ≤ k → (out.length : Int) + n ≤ 1000000 → Loop (g12_s0 l a) ((n : Int) - 1, out, ()) = some (out ++ ((l.drop a.1.toNat).take n).reverse, ()) := by
    intro n out hn hout
    refine Loop_inv (fun v : Int × List Int × Unit => -1 ≤ v.1 ∧ v.1 + 1 ≤ (k : Int) ∧ (v.2.1.length : Int) + (v.1 + 1) ≤ 1000000) (fun v : Int × List Int × Unit => (v.1 + 1).toNat)
      (fun v : Int × List Int × Unit => (v.2.1 ++ ((l.drop a.1.toNat).take (v.1 + 1).toNat).reverse, ())) ?_ (v := ((n : Int) - 1, out, ())) ⟨by simp only; omega, by simp only; omega, by simp only; omega⟩ |>.trans ?_
    · rintro ⟨i, out, ⟨⟩⟩ ⟨k1, k2, k3⟩
      simp only at k1 k2 k3
      unfold g12_s0
      by_cases hi : 0 ≤ i
      · right
        have e1 : IntKind.wrap .i64 (a.1 + i) = a.1 + i := wi64 (by omega) (by omega)
        have e2 : IntKind.wrap .i64 (i - 1) = i - 1 := wi64 (by omega) (by omega)
        have c1 : 0 ≤ a.1 + i := by omega
        have c2 : a.1 + i < (l.length : Int) := by omega
        simp only [GE.ge, hi, c1, c2, e1, e2, Int.ofNat_eq_natCast, decide_true, cond_true, Bool.and_self]
        rw [ble_t (by omega), cond_true]
        refine ⟨_, rfl, ⟨by simp only; omega, by simp only; omega, by simp; omega⟩, by simp only; omega, ?_⟩
        simp only
        have ht := take_succ_getD (l.drop a.1.toNat) i.toNat 0 (by simp; omega)
        rw [show (i + 1).toNat = i.toNat + 1 by omega, ht, List.reverse_append, show (i - 1 + 1).toNat = i.toNat by omega, List.append_assoc]
        have : (l.drop a.1.toNat).getD i.toNat 0 = l.getD (a.1 + i).toNat 0 := by
          rw [List.getD_eq_getElem?_getD, List.getElem?_drop, List.getD_eq_getElem?_getD, show a.1.toNat + i.toNat = (a.1 + i).toNat by omega]
        rw [this]
        rfl
      · left
        have : (i + 1).toNat = 0 := by omega
        simp only [GE.ge, hi, decide_false, cond_false, this, List.take_zero, List.reverse_nil, List.append_nil]
    · simp only
      rw [show ((n : Int) - 1 + 1).toNat = n by omega]
  exact key k a.2.1 (Nat.le_refl _) ho

theorem shuf_loop (l : List Int) (w : Int) (hl : l.length ≤ 1000000) (hw1 : 1 ≤ w) (hw2 : w ≤ 1000) (t : Tp) (ht : wf t = true) :
    Loop (g12_s1 l w) ((0 : Int), [], t, ()) = some ((shufGo w l.length l t []).1, (shufGo w l.length l t []).2, ()) := by
  have key : Loop (g12_s1 l w) ((0 : Int), [], t, ()) = some ((shufGo w (l.length - (0 : Int).toNat) (l.drop (0 : Int).toNat) t []).1, (shufGo w (l.length - (0 : Int).toNat) (l.drop (0 : Int).toNat) t []).2, ()) := by
    have hfuel : ∀ (n m : Nat) (r : List Int) (t : Tp) (out : List Int), r.length ≤ n → r.length ≤ m → shufGo w n r t out = shufGo w m r t out := by
      intro n
      induction n with
      | zero =>
        intro m r t out h1 h2
        have : r = [] := List.length_eq_zero_iff.1 (by omega)
        subst this
        cases m with
        | zero => rfl
        | succ m => rfl
      | succ n ih =>
        intro m r t out h1 h2
        cases m with
        | zero =>
          have : r = [] := List.length_eq_zero_iff.1 (by omega)
          subst this; rfl
        | succ m =>
          unfold shufGo
          cases hr : r.isEmpty with
          | true => rfl
          | false =>
            simp only [cond_false]
            have hr2 : 0 < r.length := by
              cases r with
              | nil => cases hr
              | cons x y => simp
            have hin := range_in (t := t) (a := 1) (b := w) hw1
            exact ih m _ _ _ (by simp; omega) (by simp; omega)
    refine Loop_inv (fun v : Int × List Int × Tp × Unit => 0 ≤ v.1 ∧ v.1 ≤ (l.length : Int) ∧ (v.2.1.length : Int) = v.1 ∧ wf v.2.2.1 = true) (fun v : Int × List Int × Tp × Unit => ((l.length : Int) - v.1).toNat)
      (fun v : Int × List Int × Tp × Unit => ((shufGo w (l.length - v.1.toNat) (l.drop v.1.toNat) v.2.2.1 v.2.1).1, (shufGo w (l.length - v.1.toNat) (l.drop v.1.toNat) v.2.2.1 v.2.1).2, ())) ?_ (v := (0, [], t, ())) ⟨by simp, by simp, by simp, ht⟩
    rintro ⟨i, out, t, ⟨⟩⟩ ⟨k1, k2, k3, k4⟩
    simp only at k1 k2 k3 k4
    unfold g12_s1
    by_cases hi : i < (l.length : Int)
    · right
      have s1 : small 1 = true := rfl
      have s2 : small w = true := small_iff.2 (by omega)
      have hin := range_in (t := t) (a := 1) (b := w) hw1
      have e1 : IntKind.wrap .i64 ((l.length : Int) - i) = (l.length : Int) - i := wi64 (by omega) (by omega)
      obtain ⟨k, hk, hk2, hk3⟩ : ∃ k : Nat, (bif decide ((l.length : Int) - i < (range t 1 w).1) then (l.length : Int) - i else (range t 1 w).1) = (k : Int) ∧ k = min (range t 1 w).1.toNat (l.drop i.toNat).length ∧ 0 < k := by
        by_cases h : (l.length : Int) - i < (range t 1 w).1
        · exact ⟨(l.length - i.toNat), by simp only [h, decide_true, cond_true]; omega, by simp; omega, by omega⟩
        · exact ⟨(range t 1 w).1.toNat, by simp only [h, decide_false, cond_false]; omega, by simp; omega, by omega⟩
      have hkl : (k : Int) ≤ (l.length : Int) - i := by
        have : k ≤ (l.drop i.toNat).length := by omega
        rw [List.length_drop] at this; omega
      have e2 : IntKind.wrap .i64 ((k : Int) - 1) = (k : Int) - 1 := wi64 (by omega) (by omega)
      have e3 : IntKind.wrap .i64 (i + (k : Int)) = i + (k : Int) := wi64 (by omega) (by omega)
      simp only [hi, decide_true, cond_true, Int.ofNat_eq_natCast, e1, k4, s1, s2, Bool.and_self, on_true, Option.bind_some, hk, e2, e3]
      have hrev := rev_loop l (i, out, t, ()) k1 k (by simp only; omega) hl (by simp only; omega)
      simp only at hrev
      rw [hrev]
      simp only [Option.bind_some]
      have hlen : ((l.drop i.toNat).take k).reverse.length = k := by simp; omega
      refine ⟨_, rfl, ⟨by simp only; omega, by simp only; omega, by simp only [List.length_append, hlen]; omega, range_wf (a := 1) (b := w) k4⟩, by simp only; omega, ?_⟩
      simp only
      have hne : (l.drop i.toNat).isEmpty = false := by
        cases hd : l.drop i.toNat with
        | nil => have := congrArg List.length hd; simp at this; omega
        | cons x y => rfl
      have hstep : shufGo w (l.length - i.toNat) (l.drop i.toNat) t out = shufGo w (l.length - i.toNat - 1) ((l.drop i.toNat).drop k) (range t 1 w).2 (out ++ ((l.drop i.toNat).take k).reverse) := by
        rw [show l.length - i.toNat = (l.length - i.toNat - 1) + 1 by omega]
        rw [shufGo, hne]
        simp only [cond_false, ← hk2, Nat.add_sub_cancel]
      rw [hstep, List.drop_drop, show i.toNat + k = (i + (k : Int)).toNat by omega]
      rw [hfuel (l.length - (i + (k : Int)).toNat) (l.length - i.toNat - 1) (l.drop (i + (k : Int)).toNat) _ _ (by simp) (by simp; omega)]
    · left
      have : i.toNat = l.length := by omega
      simp only [hi, decide_false, cond_false, Int.ofNat_eq_natCast, this, List.drop_length, Nat.sub_self]
      rfl
  simpa using key

theorem g12_ok (a0 : (List Int)) (a1 : Int) (a2 : (List Int)) (a3 : Int) (r0 : (Ty.sl (.int .i64)).ok a0) (r1 : IntKind.i64.has a1) (r2 : (Ty.sl (.int .i64)).ok a2) (r3 : IntKind.i64.has a3) (h : (Sp37.wf (a0, a1, ()) && decide (1 ≤ a3) && decide (a3 ≤ 1000) && decide (a2.length ≤ 1000000)) = true) : g12 a0 a1 a2 a3 = some (Sp37.shuffled (a0, a1, ()) a2 a3) := by
  simp only [Bool.and_eq_true, decide_eq_true_eq] at h
  obtain ⟨⟨⟨h1, h2⟩, h3⟩, h4⟩ := h
  unfold g12
  rw [shuf_loop a2 a3 h4 h2 h3 (a0, a1, ()) h1]
  rfl
end Go.Abs.C37

/- Chapter 37: the functions keep their contracts. -/
namespace Go.Abs.C37
open Go Go.Proofs
theorem ok30 : FunOk Try.prog B 30 c30 := glue L0 gam_nil plan30 Try.func30 (by kernel_rfl) (by
  rintro ⟨⟨a0, a1, ⟨⟩⟩, ⟨⟩⟩ y r h
  obtain ⟨h1, h2⟩ := Sp37.on_some h
  subst h2
  exact (g30_eq a0 a1).trans (g30_ok a0 a1 r.1.1 r.1.2.1 h1))
theorem all30 : ∀ g con, lookC L30 g = some con → FunOk Try.prog B g con := gam_cons rfl ok30 gam_nil

theorem ok19 : FunOk Try.prog B 19 c19 := glue L30 all30 plan19 Try.func19 (by kernel_rfl) (by
  rintro ⟨⟨⟩, a0, a1, ⟨⟩⟩ y r h
  exact (g19_eq a0 a1).trans ((g19_ok a0 a1 r.2.1 r.2.2.1).trans h))
theorem all19 : ∀ g con, lookC L19 g = some con → FunOk Try.prog B g con := gam_cons rfl ok19 all30

theorem ok9 : FunOk Try.prog B 9 c9 := glue L19 all19 plan9 Try.func9 (by kernel_rfl) (by
  rintro ⟨⟨a0, a1, ⟨⟩⟩, a2, ⟨⟩⟩ y r h
  obtain ⟨h1, h2⟩ := Sp37.on_some h
  subst h2
  exact (g9_eq a0 a1 a2).trans (g9_ok a0 a1 a2 r.1.1 r.1.2.1 r.2.1 h1))
theorem all9 : ∀ g con, lookC L9 g = some con → FunOk Try.prog B g con := gam_cons rfl ok9 all19

theorem ok8 : FunOk Try.prog B 8 c8 := glue L9 all9 plan8 Try.func8 (by kernel_rfl) (by
  rintro ⟨⟨a0, a1, ⟨⟩⟩, a2, a3, ⟨⟩⟩ y r h
  obtain ⟨h1, h2⟩ := Sp37.on_some h
  subst h2
  exact (g8_eq a0 a1 a2 a3).trans (g8_ok a0 a1 a2 a3 r.1.1 r.1.2.1 r.2.1 r.2.2.1 h1))
theorem all8 : ∀ g con, lookC L8 g = some con → FunOk Try.prog B g con := gam_cons rfl ok8 all9

theorem ok23 : FunOk Try.prog B 23 c23 := glue L8 all8 plan23 Try.func23 (by kernel_rfl) (by
  rintro ⟨⟨a0, a1, ⟨⟩⟩, a2, ⟨⟩⟩ y r h
  obtain ⟨h1, h2⟩ := Sp37.on_some h
  subst h2
  exact (g23_eq a0 a1 a2).trans (g23_ok a0 a1 a2 r.1.1 r.1.2.1 r.2.1 h1))
theorem all23 : ∀ g con, lookC L23 g = some con → FunOk Try.prog B g con := gam_cons rfl ok23 all8

theorem ok7 : FunOk Try.prog B 7 c7 := glue L23 all23 plan7 Try.func7 (by kernel_rfl) (by
  rintro ⟨⟨⟩, a0, ⟨⟩⟩ y r h
  exact (g7_eq a0).trans ((g7_ok a0 r.2.1).trans h))
theorem all7 : ∀ g con, lookC L7 g = some con → FunOk Try.prog B g con := gam_cons rfl ok7 all23

theorem ok15 : FunOk Try.prog B 15 c15 := glue L7 all7 plan15 Try.func15 (by kernel_rfl) (by
  rintro ⟨⟨⟩, a0, a1, ⟨⟩⟩ y r h
  exact (g15_eq a0 a1).trans ((g15_ok a0 a1 r.2.1 r.2.2.1).trans h))
theorem all15 : ∀ g con, lookC L15 g = some con → FunOk Try.prog B g con := gam_cons rfl ok15 all7

theorem ok31 : FunOk Try.prog B 31 c31 := glue L15 all15 plan31 Try.func31 (by kernel_rfl) (by
  rintro ⟨⟨⟩, a0, a1, a2, ⟨⟩⟩ y r h
  exact (g31_eq a0 a1 a2).trans ((g31_ok a0 a1 a2 r.2.1 r.2.2.1 r.2.2.2.1).trans h))
theorem all31 : ∀ g con, lookC L31 g = some con → FunOk Try.prog B g con := gam_cons rfl ok31 all15

theorem ok33 : FunOk Try.prog B 33 c33 := glue L31 all31 plan33 Try.func33 (by kernel_rfl) (by
  rintro ⟨⟨⟩, a0, a1, ⟨⟩⟩ y r h
  exact (g33_eq a0 a1).trans ((g33_ok a0 a1 r.2.1 r.2.2.1).trans h))
theorem all33 : ∀ g con, lookC L33 g = some con → FunOk Try.prog B g con := gam_cons rfl ok33 all31

theorem ok34 : FunOk Try.prog B 34 c34 := glue L33 all33 plan34 Try.func34 (by kernel_rfl) (by
  rintro ⟨⟨⟩, a0, a1, ⟨⟩⟩ y r h
  exact (g34_eq a0 a1).trans ((g34_ok a0 a1 r.2.1 r.2.2.1).trans h))
theorem all34 : ∀ g con, lookC L34 g = some con → FunOk Try.prog B g con := gam_cons rfl ok34 all33

theorem ok20 : FunOk Try.prog B 20 c20 := glue L34 all34 plan20 Try.func20 (by kernel_rfl) (by
  rintro ⟨⟨⟩, a0, a1, ⟨⟩⟩ y r h
  exact (g20_eq a0 a1).trans ((g20_ok a0 a1 r.2.1 r.2.2.1).trans h))
theorem all20 : ∀ g con, lookC L20 g = some con → FunOk Try.prog B g con := gam_cons rfl ok20 all34

theorem ok28 : FunOk Try.prog B 28 c28 := glue L20 all20 plan28 Try.func28 (by kernel_rfl) (by
  rintro ⟨⟨⟩, a0, a1, ⟨⟩⟩ y r h
  exact (g28_eq a0 a1).trans ((g28_ok a0 a1 r.2.1 r.2.2.1).trans h))
theorem all28 : ∀ g con, lookC L28 g = some con → FunOk Try.prog B g con := gam_cons rfl ok28 all20

theorem ok21 : FunOk Try.prog B 21 c21 := glue L28 all28 plan21 Try.func21 (by kernel_rfl) (by
  rintro ⟨⟨⟩, a0, a1, ⟨⟩⟩ y r h
  exact (g21_eq a0 a1).trans ((g21_ok a0 a1 r.2.1 r.2.2.1).trans h))
theorem all21 : ∀ g con, lookC L21 g = some con → FunOk Try.prog B g con := gam_cons rfl ok21 all28

theorem ok29 : FunOk Try.prog B 29 c29 := glue L21 all21 plan29 Try.func29 (by kernel_rfl) (by
  rintro ⟨⟨⟩, a0, a1, ⟨⟩⟩ y r h
  exact (g29_eq a0 a1).trans ((g29_ok a0 a1 r.2.1 r.2.2.1).trans h))
theorem all29 : ∀ g con, lookC L29 g = some con → FunOk Try.prog B g con := gam_cons rfl ok29 all21

theorem ok32 : FunOk Try.prog B 32 c32 := glue L29 all29 plan32 Try.func32 (by kernel_rfl) (by
  rintro ⟨⟨a0, a1, a2, ⟨⟩⟩, a3, a4, ⟨⟩⟩ y r h
  obtain ⟨h1, h2⟩ := Sp37.on_some h
  subst h2
  exact (g32_eq a0 a1 a2 a3 a4).trans (g32_ok a0 a1 a2 a3 a4 r.1.1 r.1.2.1 r.1.2.2.1 r.2.1 r.2.2.1 h1))
theorem all32 : ∀ g con, lookC L32 g = some con → FunOk Try.prog B g con := gam_cons rfl ok32 all29

theorem ok13 : FunOk Try.prog B 13 c13 := glue L32 all32 plan13 Try.func13 (by kernel_rfl) (by
  rintro ⟨⟨⟩, a0, a1, ⟨⟩⟩ y r h
  exact (g13_eq a0 a1).trans ((g13_ok a0 a1 r.2.1 r.2.2.1).trans h))
theorem all13 : ∀ g con, lookC L13 g = some con → FunOk Try.prog B g con := gam_cons rfl ok13 all32

theorem ok24 : FunOk Try.prog B 24 c24 := glue L13 all13 plan24 Try.func24 (by kernel_rfl) (by
  rintro ⟨⟨⟩, a0, a1, ⟨⟩⟩ y r h
  exact (g24_eq a0 a1).trans ((g24_ok a0 a1 r.2.1 r.2.2.1).trans h))
theorem all24 : ∀ g con, lookC L24 g = some con → FunOk Try.prog B g con := gam_cons rfl ok24 all13

theorem ok17 : FunOk Try.prog B 17 c17 := glue L24 all24 plan17 Try.func17 (by kernel_rfl) (by
  rintro ⟨⟨⟩, a0, a1, ⟨⟩⟩ y r h
  exact (g17_eq a0 a1).trans ((g17_ok a0 a1 r.2.1 r.2.2.1).trans h))
theorem all17 : ∀ g con, lookC L17 g = some con → FunOk Try.prog B g con := gam_cons rfl ok17 all24

theorem ok26 : FunOk Try.prog B 26 c26 := glue L17 all17 plan26 Try.func26 (by kernel_rfl) (by
  rintro ⟨⟨⟩, a0, a1, ⟨⟩⟩ y r h
  exact (g26_eq a0 a1).trans ((g26_ok a0 a1 r.2.1 r.2.2.1).trans h))
theorem all26 : ∀ g con, lookC L26 g = some con → FunOk Try.prog B g con := gam_cons rfl ok26 all17

theorem ok16 : FunOk Try.prog B 16 c16 := glue L26 all26 plan16 Try.func16 (by kernel_rfl) (by
  rintro ⟨⟨⟩, a0, ⟨⟩⟩ y r h
  exact (g16_eq a0).trans ((g16_ok a0 r.2.1).trans h))
theorem all16 : ∀ g con, lookC L16 g = some con → FunOk Try.prog B g con := gam_cons rfl ok16 all26

theorem ok27 : FunOk Try.prog B 27 c27 := glue L16 all16 plan27 Try.func27 (by kernel_rfl) (by
  rintro ⟨⟨⟩, a0, ⟨⟩⟩ y r h
  exact (g27_eq a0).trans ((g27_ok a0 r.2.1).trans h))
theorem all27 : ∀ g con, lookC L27 g = some con → FunOk Try.prog B g con := gam_cons rfl ok27 all16

theorem ok22 : FunOk Try.prog B 22 c22 := glue L27 all27 plan22 Try.func22 (by kernel_rfl) (by
  rintro ⟨⟨⟩, a0, a1, ⟨⟩⟩ y r h
  exact (g22_eq a0 a1).trans ((g22_ok a0 a1 r.2.1 r.2.2.1).trans h))
theorem all22 : ∀ g con, lookC L22 g = some con → FunOk Try.prog B g con := gam_cons rfl ok22 all27

theorem ok25 : FunOk Try.prog B 25 c25 := glue L22 all22 plan25 Try.func25 (by kernel_rfl) (by
  rintro ⟨⟨⟩, a0, a1, ⟨⟩⟩ y r h
  exact (g25_eq a0 a1).trans ((g25_ok a0 a1 r.2.1 r.2.2.1).trans h))
theorem all25 : ∀ g con, lookC L25 g = some con → FunOk Try.prog B g con := gam_cons rfl ok25 all22

theorem ok10 : FunOk Try.prog B 10 c10 := glue L25 all25 plan10 Try.func10 (by kernel_rfl) (by
  rintro ⟨⟨⟩, a0, a1, a2, ⟨⟩⟩ y r h
  obtain ⟨h1, h2⟩ := Sp37.on_some h
  subst h2
  exact (g10_eq a0 a1 a2).trans (g10_ok a0 a1 a2 r.2.1 r.2.2.1 r.2.2.2.1 h1))
theorem all10 : ∀ g con, lookC L10 g = some con → FunOk Try.prog B g con := gam_cons rfl ok10 all25

theorem ok14 : FunOk Try.prog B 14 c14 := glue L10 all10 plan14 Try.func14 (by kernel_rfl) (by
  rintro ⟨⟨⟩, a0, a1, ⟨⟩⟩ y r h
  obtain ⟨h1, h2⟩ := Sp37.on_some h
  subst h2
  exact (g14_eq a0 a1).trans (g14_ok a0 a1 r.2.1 r.2.2.1 h1))
theorem all14 : ∀ g con, lookC L14 g = some con → FunOk Try.prog B g con := gam_cons rfl ok14 all10

theorem ok11 : FunOk Try.prog B 11 c11 := glue L14 all14 plan11 Try.func11 (by kernel_rfl) (by
  rintro ⟨⟨a0, a1, ⟨⟩⟩, a2, a3, a4, ⟨⟩⟩ y r h
  obtain ⟨h1, h2⟩ := Sp37.on_some h
  subst h2
  exact (g11_eq a0 a1 a2 a3 a4).trans (g11_ok a0 a1 a2 a3 a4 r.1.1 r.1.2.1 r.2.1 r.2.2.1 r.2.2.2.1 h1))
theorem all11 : ∀ g con, lookC L11 g = some con → FunOk Try.prog B g con := gam_cons rfl ok11 all14

theorem ok12 : FunOk Try.prog B 12 c12 := glue L11 all11 plan12 Try.func12 (by kernel_rfl) (by
  rintro ⟨⟨a0, a1, ⟨⟩⟩, a2, a3, ⟨⟩⟩ y r h
  obtain ⟨h1, h2⟩ := Sp37.on_some h
  subst h2
  exact (g12_eq a0 a1 a2 a3).trans (g12_ok a0 a1 a2 a3 r.1.1 r.1.2.1 r.2.1 r.2.2.1 h1))
theorem all12 : ∀ g con, lookC L12 g = some con → FunOk Try.prog B g con := gam_cons rfl ok12 all11

theorem ok18 : FunOk Try.prog B 18 c18 := glue L12 all12 plan18 Try.func18 (by kernel_rfl) (by
  rintro ⟨⟨⟩, ⟨⟩⟩ y r h
  exact (g18_eq ).trans ((g18_ok  ).trans h))
theorem all18 : ∀ g con, lookC L18 g = some con → FunOk Try.prog B g con := gam_cons rfl ok18 all12
end Go.Abs.C37

/- Chapter 37: the laws CountDelays, CountAll. -/
namespace Go.Abs.C37
open Go Go.Proofs Sp37

theorem diffs_snoc (p : Int × Int) : ∀ (l : List (Int × Int)) (acc r : List Int), diffs l acc = (r, 0, ()) →
    diffs (l ++ [p]) acc = bif decide (p.2 < 0) then (r, 0, ()) else bif decide (p.2 < p.1) then ([], 25, ()) else (r ++ [p.2 - p.1], 0, ())
  | [], acc, r, h => by
    have : acc = r := by simpa [diffs] using h
    subst this
    rfl
  | q :: l, acc, r, h => by
    rw [diffs_cons] at h
    rw [List.cons_append, diffs_cons]
    cases h1 : decide (q.2 < 0) with
    | true => rw [h1] at h; exact diffs_snoc p l acc r h
    | false =>
      rw [h1] at h
      cases h2 : decide (q.2 < q.1) with
      | true => rw [h2] at h; simp at h
      | false => rw [h2] at h; exact diffs_snoc p l _ r h

theorem marked_get {n b : Int} (h : ranges n b = true) (i : Nat) (hi : i < (marked n b).1.length) : 0 ≤ (marked n b).1.getD i 0 ∧ (marked n b).1.getD i 0 ≤ n := by
  obtain ⟨⟨n1, n2⟩, b1, b2⟩ := ranges_iff.1 h
  unfold marked at hi ⊢
  rw [h] at hi ⊢
  simp only [cond_true, List.length_map, List.length_range] at hi ⊢
  rw [getD_range_map, if_pos hi]
  have h1 : ((i : Int) + 1) * b ≤ n := (Int.le_ediv_iff_mul_le (by omega)).1 (by omega)
  rw [Int.add_mul, Int.one_mul] at h1
  have h2 : 0 ≤ (i : Int) * b := Int.mul_nonneg (by omega) (by omega)
  omega
theorem marked_len {n b : Int} (h : ranges n b = true) : (marked n b).1.length = (n / b).toNat ∧ (marked n b).2.1 = 0 := by
  unfold marked
  rw [h]
  simp

theorem delays_loop (y1 y2 : Int × Tp) (h : ranges y1.1 y2.1 = true) (t : Tp) (hw : wf t = true) :
    ∃ e, Loop (g5_s0 y1 y2) ((0 : Int), [], [], t, [], ()) = some e ∧ (delays e.2.2.1 e.2.1 = (e.1, 0, ())) := by
  obtain ⟨⟨n1, n2⟩, b1, b2⟩ := ranges_iff.1 h
  have hml : (marked y1.1 y2.1).1.length ≤ 1000 := by
    rw [(marked_len h).1]
    have := Int.ediv_le_self y2.1 n1
    omega
  refine Loop_post (fun v : Int × List Int × List Int × Tp × List Int × Unit => 0 ≤ v.1 ∧ v.1 ≤ ((marked y1.1 y2.1).1.length : Int) ∧ (v.2.1.length : Int) ≤ v.1 ∧ (v.2.2.1.length : Int) = v.1 ∧ (v.2.2.2.2.1.length : Int) = v.1 ∧ wf v.2.2.2.1 = true ∧ badTimes (v.2.2.2.2.1.zip v.2.2.1) = false ∧ diffs (v.2.2.2.2.1.zip v.2.2.1) [] = (v.2.1, 0, ()))
    (fun v : Int × List Int × List Int × Tp × List Int × Unit => ((marked y1.1 y2.1).1.length - v.1).toNat) _ ?_ (v := (0, [], [], t, [], ())) ⟨by simp, by simp, by simp, by simp, by simp, hw, rfl, rfl⟩
  rintro ⟨i, want, rec, t, sent, ⟨⟩⟩ ⟨k1, k2, k3, k4, k5, k6, k7, k8⟩
  simp only at k1 k2 k3 k4 k5 k6 k7 k8
  unfold g5_s0
  by_cases hi : i < ((marked y1.1 y2.1).1.length : Int)
  · right
    have hm := marked_get h i.toNat (by omega)
    have hd := next_range (t := t) (n := 50) (by omega)
    have w1 := next_wf (n := 50) k6
    have w2 := next_wf (n := 4) w1
    have e1 : IntKind.wrap .i64 (i + 1) = i + 1 := wi64 (by omega) (by omega)
    generalize (marked y1.1 y2.1).1.getD i.toNat 0 = x at hm
    have e2 : IntKind.wrap .i64 (3 * x) = 3 * x := wi64 (by omega) (by omega)
    have e3 : IntKind.wrap .i64 (3 * x + (next t 50).1) = 3 * x + (next t 50).1 := wi64 (by omega) (by omega)
    have hsl : sent.length = rec.length := by omega
    simp only [hi, k1, Int.ofNat_eq_natCast, decide_true, cond_true, Bool.and_self, k6, w1, on_true, Option.bind_some, e1, e2, e3]
    rw [ble_t (by omega), ble_t (by omega), ble_t (by omega)]
    simp only [cond_true]
    have hin : inside (3 * x) 0 1000000 = true := inside_iff.2 (by omega)
    by_cases hl : (next (next t 50).2 4).1 = 0
    · simp only [hl, decide_true, cond_true]
      refine ⟨_, rfl, ⟨by simp only; omega, by simp only; omega, by simp only; omega, by simp; omega, by simp; omega, w2, ?_, ?_⟩, by simp only; omega⟩
      · simp only
        rw [List.zip_append hsl]
        unfold badTimes at k7 ⊢
        rw [List.any_append, k7]
        simp [hin]
      · simp only
        rw [List.zip_append hsl]
        rw [show ([3 * x].zip [(-1 : Int)]) = [(3 * x, -1)] from rfl, diffs_snoc _ _ _ _ k8]
        rfl
    · simp only [hl, decide_false, cond_false]
      refine ⟨_, rfl, ⟨by simp only; omega, by simp only; omega, by simp; omega, by simp; omega, by simp; omega, w2, ?_, ?_⟩, by simp only; omega⟩
      · simp only
        rw [List.zip_append hsl]
        unfold badTimes at k7 ⊢
        rw [List.any_append, k7]
        simp [hin]
        omega
      · simp only
        rw [List.zip_append hsl]
        rw [show ([3 * x].zip [3 * x + (next t 50).1]) = [(3 * x, 3 * x + (next t 50).1)] from rfl, diffs_snoc _ _ _ _ k8]
        have d1 : ¬ 3 * x + (next t 50).1 < 0 := by omega
        have d2 : ¬ 3 * x + (next t 50).1 < 3 * x := by omega
        simp only [d1, d2, decide_false, cond_false]
        rw [show 3 * x + (next t 50).1 - 3 * x = (next t 50).1 by omega]
  · left
    refine ⟨(want, rec, sent, ()), by simp only [hi, decide_false, cond_false, Int.ofNat_eq_natCast], ?_⟩
    simp only
    unfold delays
    rw [k7, k8]
    have : sent.length = rec.length := by omega
    simp [this]

theorem g5_ok (a0 : (List Int)) (r0 : (Ty.sl (.int .i64)).ok a0) : g5 a0 = some (true, ()) := by
  unfold g5
  have w0 := tape_wf a0
  have w1 := next_wf (n := 300) w0
  have w2 := range_wf (a := 1) (b := 30) w1
  have s1 : small 1 = true := rfl
  have s2 : small 30 = true := rfl
  have hr := next_range (t := Sp37.tape a0) (n := 300) (by omega)
  have hb := range_in (t := (next (Sp37.tape a0) 300).2) (a := 1) (b := 30) (by omega)
  have hrg : ranges (next (Sp37.tape a0) 300).1 (range (next (Sp37.tape a0) 300).2 1 30).1 = true := ranges_iff.2 (by omega)
  obtain ⟨e, l1, l2⟩ := delays_loop (next (Sp37.tape a0) 300) (range (next (Sp37.tape a0) 300).2 1 30) hrg _ w2
  simp only [w0, w1, s1, s2, Bool.and_self, on_true, Option.bind_some, l1, l2, (marked_len hrg).2, decide_true, cond_true]

theorem div_is {i b k : Int} (hb : 0 < b) (h1 : k * b ≤ i) (h2 : i < k * b + b) : i / b = k := by
  refine Int.le_antisymm ?_ ((Int.le_ediv_iff_mul_le hb).2 h1)
  have := (Int.ediv_lt_iff_lt_mul (a := i) (b := k + 1) (c := b) hb).2 (by rw [Int.add_mul, Int.one_mul]; omega)
  omega

/-- In order: after i packets the blocks before the one that is counted have been told. -/
def inOrder (b g : Int) (i : Nat) (s : Cs) : Prop :=
  ∃ L : Nat, s.1 = List.replicate L b ∧ (L : Int) * b ≤ i ∧ (0 < L → (L : Int) * b + g ≤ i) ∧ (i : Int) < (L : Int) * b + b + g ∧
    s.2.1 = min ((i : Int) - (L : Int) * b) b ∧ s.2.2 = max 0 ((i : Int) - (L : Int) * b - b)
theorem inOrder_step {b g : Int} {i : Nat} {s : Cs} (hb : 0 < b) (hg : 1 ≤ g) (hgb : g ≤ b) (h : inOrder b g i s) : inOrder b g (i + 1) (stepC g s ((i : Int) / b % 2)) := by
  obtain ⟨L, h1, h2, h3, h4, h5, h6⟩ := h
  obtain ⟨out, c, d⟩ := s
  simp only at h1 h5 h6
  subst h1
  have hL : ((L : Int) + 1) * b = (L : Int) * b + b := by rw [Int.add_mul, Int.one_mul]
  unfold stepC
  simp only [List.length_replicate]
  generalize hx : (L : Int) * b = x at *
  by_cases hi : (i : Int) < x + b
  · have hd : (i : Int) / b = L := div_is hb (by omega) (by omega)
    rw [hd]
    simp only [decide_true, cond_true]
    refine ⟨L, rfl, by omega, fun h => ?_, by omega, by simp only; omega, by simp only; omega⟩
    have := h3 h; omega
  · have hd : (i : Int) / b = (L : Int) + 1 := div_is hb (by rw [hL]; omega) (by rw [hL]; omega)
    rw [hd]
    have hne : ¬ ((L : Int) + 1) % 2 = (L : Int) % 2 := by omega
    by_cases hk : d + 1 < g
    · simp only [hne, hk, decide_true, decide_false, cond_true, cond_false]
      refine ⟨L, rfl, by omega, fun h => ?_, by omega, by simp only; omega, by simp only; omega⟩
      have := h3 h; omega
    · simp only [hne, hk, decide_false, cond_false]
      refine ⟨L + 1, ?_, ?_, fun _ => ?_, ?_, ?_, ?_⟩
      · simp only
        rw [List.replicate_succ', h5]
        congr 2
        omega
      · rw [show ((L + 1 : Nat) : Int) = (L : Int) + 1 from rfl, hL]; omega
      · rw [show ((L + 1 : Nat) : Int) = (L : Int) + 1 from rfl, hL]; omega
      · rw [show ((L + 1 : Nat) : Int) = (L : Int) + 1 from rfl, hL]; omega
      · simp only
        rw [show ((L + 1 : Nat) : Int) = (L : Int) + 1 from rfl, hL]; omega
      · simp only
        rw [show ((L + 1 : Nat) : Int) = (L : Int) + 1 from rfl, hL]; omega
theorem inOrder_all {b g : Int} (hb : 0 < b) (hg : 1 ≤ g) (hgb : g ≤ b) (n : Nat) : inOrder b g n (counts ((List.range n).map fun i : Nat => (i : Int) / b % 2) g) := by
  induction n with
  | zero => exact ⟨0, rfl, by simp, fun h => absurd h (by omega), by simp; omega, by simp [counts]; omega, by simp [counts]; omega⟩
  | succ n ih =>
    rw [List.range_succ, List.map_append]
    unfold counts at ih ⊢
    rw [List.foldl_append]
    exact inOrder_step hb hg hgb ih

theorem sizes {b g : Int} (hb : 0 < b) (hg : 1 ≤ g) (hgb : g ≤ b) (n : Nat) :
    let r := ends ((List.range n).map fun i : Nat => (i : Int) / b % 2) (counts ((List.range n).map fun i : Nat => (i : Int) / b % 2) g)
    ((r.length : Int) = ((n : Int) + b - 1) / b) ∧ ∀ i : Nat, i < r.length → r.getD i 0 = min b ((n : Int) - (i : Int) * b) := by
  obtain ⟨L, h1, h2, h3, h4, h5, h6⟩ := inOrder_all hb hg hgb n
  have hL : ((L : Int) + 1) * b = (L : Int) * b + b := by rw [Int.add_mul, Int.one_mul]
  have hL2 : ((L : Int) + 2) * b = (L : Int) * b + b + b := by rw [Int.add_mul]; omega
  simp only
  unfold ends
  rw [h1, List.length_map, List.length_range]
  by_cases hn : 0 < n
  · rw [decide_eq_true hn, cond_true]
    have hLn : (L : Int) * b < n := by
      by_cases h0 : 0 < L
      · have := h3 h0; omega
      · have : L = 0 := by omega
        subst this; simp; omega
    have hfull : ∀ i : Nat, i < L → min b ((n : Int) - (i : Int) * b) = b := by
      intro i hi
      have : ((i : Int) + 1) * b ≤ (L : Int) * b := Int.mul_le_mul_of_nonneg_right (by omega) (by omega)
      rw [Int.add_mul, Int.one_mul] at this
      omega
    by_cases hd : 0 < (counts ((List.range n).map fun i : Nat => (i : Int) / b % 2) g).2.2
    · rw [decide_eq_true hd, cond_true]
      have hlen : ((((List.replicate L b ++ [(counts ((List.range n).map fun i : Nat => (i : Int) / b % 2) g).2.1]) ++ [(counts ((List.range n).map fun i : Nat => (i : Int) / b % 2) g).2.2]).length : Nat) : Int) = (L : Int) + 2 := by simp
      refine ⟨?_, fun i hi => ?_⟩
      · rw [hlen]
        exact (div_is hb (by rw [hL2]; omega) (by rw [hL2]; omega)).symm
      · simp only [List.length_append, List.length_replicate, List.length_cons, List.length_nil] at hi
        rw [getD_app, getD_app]
        simp only [List.length_append, List.length_replicate, List.length_cons, List.length_nil]
        by_cases i1 : i < L
        · rw [if_pos (by omega), if_pos i1, hfull i i1, List.getD_eq_getElem?_getD, List.getElem?_replicate, if_pos i1]
          rfl
        · by_cases i2 : i = L
          · subst i2
            rw [if_pos (by omega), if_neg (by omega), Nat.sub_self]
            show (counts ((List.range n).map fun i : Nat => (i : Int) / b % 2) g).2.1 = _
            rw [h5]; omega
          · have i3 : i = L + 1 := by omega
            subst i3
            rw [if_neg (by omega), Nat.sub_self]
            show (counts ((List.range n).map fun i : Nat => (i : Int) / b % 2) g).2.2 = _
            rw [h6, show ((L + 1 : Nat) : Int) = (L : Int) + 1 from rfl, hL]; omega
    · rw [decide_eq_false hd, cond_false, List.append_nil]
      refine ⟨?_, fun i hi => ?_⟩
      · have hlen : (((List.replicate L b ++ [(counts ((List.range n).map fun i : Nat => (i : Int) / b % 2) g).2.1]).length : Nat) : Int) = (L : Int) + 1 := by simp
        rw [hlen]
        exact (div_is hb (by rw [hL]; omega) (by rw [hL]; omega)).symm
      · simp only [List.length_append, List.length_replicate, List.length_cons, List.length_nil] at hi
        rw [getD_app]
        simp only [List.length_replicate]
        by_cases i1 : i < L
        · rw [if_pos i1, hfull i i1, List.getD_eq_getElem?_getD, List.getElem?_replicate, if_pos i1]
          rfl
        · have i2 : i = L := by omega
          subst i2
          rw [if_neg (by omega), Nat.sub_self]
          show (counts ((List.range n).map fun i : Nat => (i : Int) / b % 2) g).2.1 = _
          rw [h5]; omega
  · have : n = 0 := by omega
    subst this
    have hL0 : L = 0 := by
      rcases Nat.eq_zero_or_pos L with h | h
      · exact h
      · have := h3 h
        have h7 : 0 ≤ (L : Int) * b := Int.mul_nonneg (by omega) (by omega)
        simp at this; omega
    subst hL0
    have hz : (counts ((List.range 0).map fun i : Nat => (i : Int) / b % 2) g).2.2 = 0 := rfl
    rw [hz]
    refine ⟨?_, fun i hi => by simp at hi⟩
    simp
    exact (Int.ediv_eq_zero_of_lt (by omega) (by omega)).symm

/-! Every packet once. -/
theorem total_sum : ∀ (l : List Int) (s : Int), (∀ x ∈ l, 0 ≤ x) → 0 ≤ s → s + l.sum ≤ 1000000 → l.foldl (fun s x => IntKind.wrap .i64 (s + x)) s = s + l.sum
  | [], s, _, _, _ => by simp
  | x :: l, s, h, h0, h1 => by
    have hx := h x (by simp)
    have hs : 0 ≤ l.sum := by
      have : ∀ (m : List Int), (∀ y ∈ m, 0 ≤ y) → 0 ≤ m.sum := by
        intro m
        induction m with
        | nil => intro _; simp
        | cons y m ih =>
          intro hm
          have h1 := hm y (by simp)
          have h2 := ih fun z hz => hm z (by simp [hz])
          simp only [List.sum_cons]; omega
      exact this l fun y hy => h y (by simp [hy])
    simp only [List.sum_cons] at h1
    simp only [List.foldl_cons, List.sum_cons]
    rw [wi64 (by omega) (by omega), total_sum l (s + x) (fun y hy => h y (by simp [hy])) (by omega) (by omega)]
    omega
theorem counts_sum (g : Int) (hg : 1 ≤ g) : ∀ (l : List Int) (s : Cs), (∀ x ∈ s.1, 0 ≤ x) → 0 ≤ s.2.1 → 0 ≤ s.2.2 →
    let r := l.foldl (stepC g) s
    (∀ x ∈ r.1, 0 ≤ x) ∧ 0 ≤ r.2.1 ∧ 0 ≤ r.2.2 ∧ r.1.sum + r.2.1 + r.2.2 = s.1.sum + s.2.1 + s.2.2 + l.length
  | [], s, h1, h2, h3 => ⟨h1, h2, h3, by simp⟩
  | x :: l, s, h1, h2, h3 => by
    have hs : (∀ y ∈ (stepC g s x).1, 0 ≤ y) ∧ 0 ≤ (stepC g s x).2.1 ∧ 0 ≤ (stepC g s x).2.2 ∧ (stepC g s x).1.sum + (stepC g s x).2.1 + (stepC g s x).2.2 = s.1.sum + s.2.1 + s.2.2 + 1 := by
      unfold stepC
      by_cases k1 : x = (s.1.length : Int) % 2
      · simp only [k1, decide_true, cond_true]
        exact ⟨h1, by omega, by omega, by omega⟩
      · by_cases k2 : s.2.2 + 1 < g
        · simp only [k1, k2, decide_true, decide_false, cond_true, cond_false]
          exact ⟨h1, by omega, by omega, by omega⟩
        · simp only [k1, k2, decide_false, cond_false]
          refine ⟨fun y hy => ?_, by omega, by omega, by simp; omega⟩
          rcases List.mem_append.1 hy with h | h
          · exact h1 y h
          · simp only [List.mem_singleton] at h; omega
    obtain ⟨q1, q2, q3, q4⟩ := hs
    obtain ⟨p1, p2, p3, p4⟩ := counts_sum g hg l (stepC g s x) q1 q2 q3
    refine ⟨p1, p2, p3, ?_⟩
    simp only [List.foldl_cons, List.length_cons]
    omega
theorem total_count (l : List Int) (g : Int) (hg : 1 ≤ g ∧ g ≤ 1000) (hl : l.length ≤ 1000) (hx : ∀ x ∈ l, x = 0 ∨ x = 1) : (Sp37.count l g).2.1 = 0 ∧ total (Sp37.count l g).1 = (l.length : Int) := by
  have hall : (l.all fun x => inside x 0 1) = true := List.all_eq_true.2 fun x h => inside_iff.2 (by rcases hx x h with h | h <;> omega)
  have hgi : inside g 1 1000 = true := inside_iff.2 hg
  have h1 : ¬ 1000 < l.length := by omega
  unfold Sp37.count
  simp only [h1, hgi, hall, decide_false, Bool.not_true, cond_false]
  refine ⟨trivial, ?_⟩
  obtain ⟨p1, p2, p3, p4⟩ := counts_sum g hg.1 l ([], 0, 0) (by simp) (by simp) (by simp)
  simp only [List.sum_nil] at p4
  have p4' : (counts l g).1.sum + (counts l g).2.1 + (counts l g).2.2 = l.length := by
    have := p4
    unfold counts
    omega
  have hsum : (ends l (counts l g)).sum = l.length ∧ ∀ x ∈ ends l (counts l g), 0 ≤ x := by
    unfold ends
    by_cases hp : 0 < l.length
    · by_cases hd : 0 < (counts l g).2.2
      · simp only [hp, hd, decide_true, cond_true]
        refine ⟨by simp; omega, fun x hx => ?_⟩
        simp only [List.mem_append, List.mem_singleton] at hx
        rcases hx with (h | h) | h
        · exact p1 x h
        · subst h; exact p2
        · omega
      · simp only [hp, hd, decide_true, decide_false, cond_true, cond_false, List.append_nil]
        have hz : (counts l g).2.2 = 0 := by
          have : 0 ≤ (counts l g).2.2 := p3
          omega
        refine ⟨by simp; omega, fun x hx => ?_⟩
        simp only [List.mem_append, List.mem_singleton] at hx
        rcases hx with h | h
        · exact p1 x h
        · subst h; exact p2
    · have : l = [] := List.length_eq_zero_iff.1 (by omega)
      subst this
      exact ⟨rfl, fun x hx => by cases hx⟩
  unfold total
  rw [total_sum _ 0 hsum.2 (by omega) (by rw [hsum.1]; omega), hsum.1]
  omega

theorem all_loop (n : Int) (t : Tp) (h0 : 0 ≤ n) (hn : n ≤ 60) (hw : wf t = true) :
    ∃ e, Loop g4_s0 (t, [], n, ()) = some e ∧ (wf e.1 = true ∧ e.2.1.length ≤ 1000 ∧ ∀ x ∈ e.2.1, x = 0 ∨ x = 1) := by
  refine Loop_post (fun v : Tp × List Int × Int × Unit => wf v.1 = true ∧ (v.2.1.length : Int) + v.2.2.1 ≤ 60 ∧ 0 ≤ v.2.2.1 ∧ ∀ x ∈ v.2.1, x = 0 ∨ x = 1) (fun v : Tp × List Int × Int × Unit => v.2.2.1.toNat) _ ?_ (v := (t, [], n, ())) ⟨hw, by simp; omega, h0, by simp⟩
  rintro ⟨t, l, n, ⟨⟩⟩ ⟨k1, k2, k3, k4⟩
  simp only at k1 k2 k3 k4
  unfold g4_s0
  by_cases h : 0 < n
  · right
    have hr := next_range (t := t) (n := 2) (by omega)
    have e1 : IntKind.wrap .i64 (n - 1) = n - 1 := wi64 (by omega) (by omega)
    simp only [GT.gt, h, decide_true, cond_true, k1, on_true, Option.bind_some, e1]
    rw [ble_t (by omega), cond_true]
    refine ⟨_, rfl, ⟨next_wf (n := 2) k1, by simp; omega, by simp only; omega, fun x hx => ?_⟩, by simp only; omega⟩
    rcases List.mem_append.1 hx with h | h
    · exact k4 x h
    · simp only [List.mem_singleton] at h; omega
  · left
    exact ⟨(t, l, ()), by simp only [GT.gt, h, decide_false, cond_false], k1, by simp only; omega, k4⟩

theorem sizes_loop (a0 : Int) (y5 y6 : Int × Tp) (r : List Int) (hr : (Sp37.count (Sp37.colours y6.1 y5.1).1 (IntKind.wrap .i64 (1 + cut a0 y5.1))).1 = r) (h0 : 0 ≤ y6.1 ∧ y6.1 ≤ 100) (hb : 1 ≤ y5.1 ∧ y5.1 ≤ 20) (hrl : r.length ≤ 1000)
    (hs : ∀ i : Nat, i < r.length → r.getD i 0 = min y5.1 (y6.1 - (i : Int) * y5.1)) : Loop (g4_s1 a0 y5 y6) ((0 : Int), ()) = some (false, (false, ()), ()) := by
  refine Loop_inv (fun v : Int × Unit => 0 ≤ v.1 ∧ v.1 ≤ (r.length : Int)) (fun v : Int × Unit => ((r.length : Int) - v.1).toNat) (fun _ => (false, (false, ()), ())) ?_ (v := (0, ())) ⟨by simp, by simp⟩
  rintro ⟨i, ⟨⟩⟩ ⟨k1, k2⟩
  simp only at k1 k2
  unfold g4_s1
  rw [hr]
  by_cases hi : i < (r.length : Int)
  · right
    have hm1 : 0 ≤ i * y5.1 := Int.mul_nonneg k1 (by omega)
    have hm2 : i * y5.1 ≤ 1000 * 20 := Int.le_trans (Int.mul_le_mul_of_nonneg_left hb.2 k1) (Int.mul_le_mul_of_nonneg_right (by omega) (by omega))
    have e1 : IntKind.wrap .i64 (i + 1) = i + 1 := wi64 (by omega) (by omega)
    have e2 : IntKind.wrap .i64 (i * y5.1) = i * y5.1 := wi64 (by omega) (by omega)
    have e3 : IntKind.wrap .i64 (y6.1 - i * y5.1) = y6.1 - i * y5.1 := wi64 (by omega) (by omega)
    have hg := hs i.toNat (by omega)
    rw [show ((i.toNat : Nat) : Int) = i by omega] at hg
    have hc : r.getD i.toNat 0 = bif decide (y6.1 - i * y5.1 < y5.1) then y6.1 - i * y5.1 else y5.1 := by
      rw [hg]
      by_cases h : y6.1 - i * y5.1 < y5.1
      · simp only [h, decide_true, cond_true]; omega
      · simp only [h, decide_false, cond_false]; omega
    simp only [hi, k1, e1, e2, e3, hc, Int.ofNat_eq_natCast, decide_true, Bool.not_true, cond_true, cond_false, Bool.and_self]
    exact ⟨_, rfl, ⟨by simp only; omega, by simp only; omega⟩, by simp only; omega, trivial⟩
  · left
    simp only [hi, decide_false, cond_false, Int.ofNat_eq_natCast]

theorem g4_ok (a0 : (List Int)) (a1 : Int) (r0 : (Ty.sl (.int .i64)).ok a0) (r1 : IntKind.i64.has a1) : g4 a0 a1 = some (true, ()) := by
  unfold g4
  have w0 := tape_wf a0
  have w1 := next_wf (n := 60) w0
  have hr := next_range (t := Sp37.tape a0) (n := 60) (by omega)
  obtain ⟨e, l1, w2, l2, l3⟩ := all_loop (next (Sp37.tape a0) 60).1 (next (Sp37.tape a0) 60).2 hr.1 (by omega) w1
  have c9 : 0 ≤ cut a1 9 ∧ cut a1 9 < 9 := ⟨cut_nonneg, cut_lt (by omega)⟩
  have e1 : IntKind.wrap .i64 (1 + cut a1 9) = 1 + cut a1 9 := wi64 (by omega) (by omega)
  obtain ⟨t1, t2⟩ := total_count e.2.1 (1 + cut a1 9) (by omega) l2 l3
  have s1 : small 2 = true := rfl
  have s2 : small 20 = true := rfl
  have w3 := range_wf (a := 2) (b := 20) w2
  have hb := range_in (t := e.1) (a := 2) (b := 20) (by omega)
  have hn := next_range (t := (range e.1 2 20).2) (n := 100) (by omega)
  generalize hy5 : range e.1 2 20 = y5 at w3 hb hn
  generalize hy6 : next y5.2 100 = y6 at hn
  have hcb : 0 ≤ cut a1 y5.1 ∧ cut a1 y5.1 < y5.1 := ⟨cut_nonneg, cut_lt (by omega)⟩
  have e2 : IntKind.wrap .i64 (1 + cut a1 y5.1) = 1 + cut a1 y5.1 := wi64 (by omega) (by omega)
  have hrg : ranges y6.1 y5.1 = true := ranges_iff.2 (by omega)
  have hcol : colours y6.1 y5.1 = ((List.range y6.1.toNat).map fun i : Nat => (i : Int) / y5.1 % 2, 0, ()) := by unfold colours; rw [hrg]; rfl
  have hmk := marked_len hrg
  have hcnt : Sp37.count ((List.range y6.1.toNat).map fun i : Nat => (i : Int) / y5.1 % 2) (1 + cut a1 y5.1) =
      (ends ((List.range y6.1.toNat).map fun i : Nat => (i : Int) / y5.1 % 2) (counts ((List.range y6.1.toNat).map fun i : Nat => (i : Int) / y5.1 % 2) (1 + cut a1 y5.1)), 0, ()) := by
    unfold Sp37.count
    have h1 : ¬ 1000 < ((List.range y6.1.toNat).map fun i : Nat => (i : Int) / y5.1 % 2).length := by simp; omega
    have h2 : inside (1 + cut a1 y5.1) 1 1000 = true := inside_iff.2 (by omega)
    have h3 : (((List.range y6.1.toNat).map fun i : Nat => (i : Int) / y5.1 % 2).all fun x => inside x 0 1) = true := List.all_eq_true.2 fun x hx => by
      obtain ⟨i, _, rfl⟩ := List.mem_map.1 hx
      exact inside_iff.2 (by omega)
    simp only [h1, h2, h3, decide_false, Bool.not_true, cond_false]
  obtain ⟨z1, z2⟩ := sizes (b := y5.1) (g := 1 + cut a1 y5.1) (by omega) (by omega) (by omega) y6.1.toNat
  have hnn : ((y6.1.toNat : Nat) : Int) = y6.1 := by omega
  rw [hnn] at z1 z2
  have hr2 : (Sp37.count (colours y6.1 y5.1).1 (IntKind.wrap .i64 (1 + cut a1 y5.1))).1 = ends ((List.range y6.1.toNat).map fun i : Nat => (i : Int) / y5.1 % 2) (counts ((List.range y6.1.toNat).map fun i : Nat => (i : Int) / y5.1 % 2) (1 + cut a1 y5.1)) := by
    rw [hcol, e2, hcnt]
  have hle : (y6.1 + y5.1 - 1) / y5.1 ≤ y6.1 + y5.1 - 1 := Int.ediv_le_self _ (by omega)
  have hdn : 0 ≤ (y6.1 + y5.1 - 1) / y5.1 := Int.ediv_nonneg (by omega) (by omega)
  have hlp := sizes_loop a1 y5 y6 _ hr2 (by omega) (by omega) (by omega) z2
  have d1 : Int.tdiv y6.1 y5.1 = y6.1 / y5.1 := tdiv_nn hn.1
  have d2 : y6.1 / y5.1 ≤ y6.1 := Int.ediv_le_self _ hn.1
  have d3 : 0 ≤ y6.1 / y5.1 := Int.ediv_nonneg hn.1 (by omega)
  have e3 : IntKind.wrap .i64 (y6.1 / y5.1) = y6.1 / y5.1 := wi64 (by omega) (by omega)
  have e4 : IntKind.wrap .i64 (y6.1 + y5.1) = y6.1 + y5.1 := wi64 (by omega) (by omega)
  have e5 : IntKind.wrap .i64 (y6.1 + y5.1 - 1) = y6.1 + y5.1 - 1 := wi64 (by omega) (by omega)
  have d4 : Int.tdiv (y6.1 + y5.1 - 1) y5.1 = (y6.1 + y5.1 - 1) / y5.1 := tdiv_nn (by omega)
  have e6 : IntKind.wrap .i64 ((y6.1 + y5.1 - 1) / y5.1) = (y6.1 + y5.1 - 1) / y5.1 := wi64 (by omega) (by omega)
  have d5 : (((marked y6.1 y5.1).1.length : Nat) : Int) = y6.1 / y5.1 := by rw [hmk.1]; omega
  have d6 : ¬ y5.1 = 0 := by omega
  simp only [w0, on_true, Option.bind_some, l1, e1, t1, t2, Int.ofNat_eq_natCast, decide_true, Bool.not_true, Bool.not_false, cond_true, cond_false, w2, s1, s2, Bool.and_self, hy5, w3, hy6, hlp, d1, e3, e4, e5, d4, e6, d5, d6, decide_false, hmk.2]
  simp only [hcol, e2, hcnt, z1, decide_true, Bool.not_true, Bool.not_false, cond_true, cond_false, Option.bind_some]
end Go.Abs.C37

/- Chapter 37: the law CountAnswers. -/
namespace Go.Abs.C37
open Go Go.Proofs Sp37

theorem pick_wf {t : Tp} {l : List Int} (h : wf t = true) : wf (pick t l).2 = true := next_wf (n := (l.length : Int)) h

theorem ans1 (a0 : Int) (a1 : Int × List Int × List Int × Tp × List (List Int) × Unit) (a2 : Int × Tp) :
    Loop (g6_s1 a0 a1 a2) ((0 : Int), (a0 :: a2.1 :: []), ()) = some (false, (false, ()), ()) := by
  refine Loop_inv (fun v : Int × List Int × Unit => 0 ≤ v.1 ∧ v.1 ≤ 2 ∧ v.2.1.length = 2) (fun v : Int × List Int × Unit => (2 - v.1).toNat) (fun _ => (false, (false, ()), ())) ?_ (v := (0, (a0 :: a2.1 :: []), ())) ⟨by simp, by simp, rfl⟩
  rintro ⟨i, l, ⟨⟩⟩ ⟨k1, k2, k3⟩
  simp only at k1 k2 k3
  unfold g6_s1
  have hl : (Int.ofNat (a0 :: a2.1 :: []).length) = 2 := rfl
  rw [hl]
  by_cases h : i < 2
  · right
    have e1 : IntKind.wrap .i64 (i + 1) = i + 1 := wi64 (by omega) (by omega)
    have c1 : i < (l.length : Int) := by omega
    have c2 : Nat.blt i.toNat l.length = true := blt_t (by omega)
    simp only [h, k1, c1, c2, e1, Int.ofNat_eq_natCast, decide_true, Bool.and_self, Bool.not_true, Bool.not_false, cond_true, cond_false, Option.bind_some]
    exact ⟨_, rfl, ⟨by simp only; omega, by simp only; omega, k3⟩, by simp only; omega, trivial⟩
  · left
    simp only [h, decide_false, cond_false]
theorem ans2 (a0 : List Int) (a1 : List Int × Tp × List Int × List Int × Unit) (a2 : Int × List Int × List Int × Tp × List (List Int) × Unit) :
    Loop (g6_s2 a0 a1 a2) ((0 : Int), (a0 :: a2.2.2.1 :: a2.2.1 :: a1.2.2.1 :: []), ()) = some (false, (false, ()), ()) := by
  refine Loop_inv (fun v : Int × List (List Int) × Unit => 0 ≤ v.1 ∧ v.1 ≤ 4 ∧ v.2.1.length = 4) (fun v : Int × List (List Int) × Unit => (4 - v.1).toNat) (fun _ => (false, (false, ()), ())) ?_ (v := (0, (a0 :: a2.2.2.1 :: a2.2.1 :: a1.2.2.1 :: []), ())) ⟨by simp, by simp, rfl⟩
  rintro ⟨i, l, ⟨⟩⟩ ⟨k1, k2, k3⟩
  simp only at k1 k2 k3
  unfold g6_s2
  have hl : (Int.ofNat (a0 :: a2.2.2.1 :: a2.2.1 :: a1.2.2.1 :: []).length) = 4 := rfl
  rw [hl]
  by_cases h : i < 4
  · right
    have e1 : IntKind.wrap .i64 (i + 1) = i + 1 := wi64 (by omega) (by omega)
    have c1 : i < (l.length : Int) := by omega
    have c2 : Nat.blt i.toNat l.length = true := blt_t (by omega)
    simp only [h, k1, c1, c2, e1, Int.ofNat_eq_natCast, decide_true, Bool.and_self, Bool.not_true, Bool.not_false, cond_true, cond_false, Option.bind_some]
    exact ⟨_, rfl, ⟨by simp only; omega, by simp only; omega, k3⟩, by simp only; omega, trivial⟩
  · left
    simp only [h, decide_false, cond_false]
theorem ans4 (a0 a1 : Int) (a2 a3 : Int × Tp) :
    Loop (g6_s4 a0 a1 a2 a3) (((a0, a1, ()) :: (a2.1, a3.1, ()) :: []), (0 : Int), ()) = some (false, (false, ()), ()) := by
  refine Loop_inv (fun v : List (Int × Int × Unit) × Int × Unit => 0 ≤ v.2.1 ∧ v.2.1 ≤ 2 ∧ v.1.length = 2) (fun v : List (Int × Int × Unit) × Int × Unit => (2 - v.2.1).toNat) (fun _ => (false, (false, ()), ())) ?_ (v := (((a0, a1, ()) :: (a2.1, a3.1, ()) :: []), 0, ())) ⟨by simp, by simp, rfl⟩
  rintro ⟨l, i, ⟨⟩⟩ ⟨k1, k2, k3⟩
  simp only at k1 k2 k3
  unfold g6_s4
  have hl : (Int.ofNat ((a0, a1, ()) :: (a2.1, a3.1, ()) :: []).length) = 2 := rfl
  rw [hl]
  by_cases h : i < 2
  · right
    have e1 : IntKind.wrap .i64 (i + 1) = i + 1 := wi64 (by omega) (by omega)
    have c1 : i < (l.length : Int) := by omega
    have c2 : Nat.blt i.toNat l.length = true := blt_t (by omega)
    simp only [h, k1, c1, c2, e1, Int.ofNat_eq_natCast, decide_true, Bool.and_self, Bool.not_true, Bool.not_false, cond_true, cond_false, Option.bind_some]
    exact ⟨_, rfl, ⟨by simp only; omega, by simp only; omega, k3⟩, by simp only; omega, trivial⟩
  · left
    simp only [h, decide_false, cond_false]
theorem ans3 (a0 a1 : List Int) (a2 : Int) (a3 : List Int × Tp × List Int × List Int × Unit) (bad rec : List Int) (t : Tp) (hw : wf t = true) :
    ∃ e, Loop (g6_s3 a0 a1 a2 a3) ((0 : Int), bad, rec, t, (a0 :: a3.1 :: a3.2.2.1 :: []), ()) = some e ∧ (∃ t', e = (false, (false, ()), t', ()) ∧ wf t' = true) := by
  refine Loop_post (fun v : Int × List Int × List Int × Tp × List (List Int) × Unit => 0 ≤ v.1 ∧ v.1 ≤ 3 ∧ v.2.2.2.2.1.length = 3 ∧ wf v.2.2.2.1 = true) (fun v : Int × List Int × List Int × Tp × List (List Int) × Unit => (3 - v.1).toNat) _ ?_ (v := (0, bad, rec, t, (a0 :: a3.1 :: a3.2.2.1 :: []), ())) ⟨by simp, by simp, rfl, hw⟩
  rintro ⟨i, bad, rec, t, l, ⟨⟩⟩ ⟨k1, k2, k3, k4⟩
  simp only at k1 k2 k3 k4
  unfold g6_s3
  have hl : (Int.ofNat (a0 :: a3.1 :: a3.2.2.1 :: []).length) = 3 := rfl
  rw [hl]
  by_cases h : i < 3
  · right
    have e1 : IntKind.wrap .i64 (i + 1) = i + 1 := wi64 (by omega) (by omega)
    have c1 : i < (l.length : Int) := by omega
    have c2 : Nat.blt i.toNat l.length = true := blt_t (by omega)
    have s0 : small 0 = true := rfl
    have s5 : small 5 = true := rfl
    simp only [h, k1, c1, c2, e1, k4, s0, s5, Int.ofNat_eq_natCast, decide_true, Bool.and_self, cond_true, on_true, Option.bind_some]
    rw [ans1, ]
    simp only [Option.bind_some, cond_false]
    have := ans2 a1 a3 (i, bad, rec, t, l, ())
    simp only at this
    rw [this]
    simp only [Option.bind_some, cond_false]
    exact ⟨_, rfl, ⟨by simp only; omega, by simp only; omega, k3, range_wf (a := 0) (b := 5) k4⟩, by simp only; omega⟩
  · left
    exact ⟨_, by simp only [h, decide_false, cond_false], t, rfl, k4⟩
theorem ans0 (n : Int) (t : Tp) (h0 : 0 ≤ n) (hn : n ≤ 40) (hw : wf t = true) :
    ∃ e, Loop g6_s0 ([], t, [], [], n, ()) = some e ∧ (wf e.2.1 = true ∧ e.2.2.2.1.length ≤ 1000) := by
  refine Loop_post (fun v : List Int × Tp × List Int × List Int × Int × Unit => wf v.2.1 = true ∧ 0 ≤ v.2.2.2.2.1 ∧ (v.1.length : Int) + v.2.2.2.2.1 ≤ 40 ∧ (v.2.2.1.length : Int) + v.2.2.2.2.1 ≤ 40 ∧ (v.2.2.2.1.length : Int) + v.2.2.2.2.1 ≤ 40) (fun v : List Int × Tp × List Int × List Int × Int × Unit => v.2.2.2.2.1.toNat) _ ?_ (v := ([], t, [], [], n, ())) ⟨hw, h0, by simp; omega, by simp; omega, by simp; omega⟩
  rintro ⟨a, t, b, c, n, ⟨⟩⟩ ⟨k1, k2, k3, k4, k5⟩
  simp only at k1 k2 k3 k4 k5
  unfold g6_s0
  by_cases h : 0 < n
  · right
    have s0 : small 0 = true := rfl
    have s1 : small 1 = true := rfl
    have e1 : IntKind.wrap .i64 (n - 1) = n - 1 := wi64 (by omega) (by omega)
    have w1 := range_wf (a := 0) (b := 1) k1
    have w2 := pick_wf (l := (0 :: 1 :: 0 :: 1 :: (range t 0 1).1 :: [])) w1
    have w3 := next_wf (n := 1000) w2
    have w4 := next_wf (n := 9) w3
    simp only [GT.gt, h, decide_true, cond_true, k1, s0, s1, Bool.and_self, on_true, Option.bind_some, w1, w2, w3, w4, e1, List.length_cons, List.length_nil, Nat.zero_add, Nat.reduceAdd, Nat.reduceLT, Nat.reduceLeDiff]
    rw [ble_t (by omega), ble_t (by omega), ble_t (by omega)]
    simp only [cond_true]
    exact ⟨_, rfl, ⟨by simp only; exact pick_wf w4, by simp only; omega, by simp; omega, by simp; omega, by simp; omega⟩, by simp only; omega⟩
  · left
    exact ⟨(a, t, b, c, ()), by simp only [GT.gt, h, decide_false, cond_false], k1, by simp only; omega⟩

theorem g6_ok (a0 : (List Int)) (a1 : (List Int)) (a2 : (List Int)) (a3 : Int) (a4 : Int) (a5 : Int) (r0 : (Ty.sl (.int .i64)).ok a0) (r1 : (Ty.sl (.int .i64)).ok a1) (r2 : (Ty.sl (.int .i64)).ok a2) (r3 : IntKind.i64.has a3) (r4 : IntKind.i64.has a4) (r5 : IntKind.i64.has a5) : g6 a0 a1 a2 a3 a4 a5 = some (true, ()) := by
  unfold g6
  by_cases h1 : 1100 < (a1.length : Int)
  · simp [h1, GT.gt]
  by_cases h2 : 1100 < (a2.length : Int)
  · simp [h1, h2, GT.gt]
  have w0 := tape_wf a0
  have w1 := next_wf (n := 40) w0
  have hr := next_range (t := Sp37.tape a0) (n := 40) (by omega)
  obtain ⟨e, l1, w2, l2⟩ := ans0 (next (Sp37.tape a0) 40).1 (next (Sp37.tape a0) 40).2 hr.1 (by omega) w1
  have w3 := pick_wf (l := ((-1 : Int) :: 0 :: 1000001 :: [])) w2
  obtain ⟨e3, l3, t', rfl, w4⟩ := ans3 a1 a2 a5 e (([] ++ e.2.2.2.1) ++ ((pick e.2.1 ((-1 : Int) :: 0 :: 1000001 :: [])).1 :: [])) e.2.2.2.1 _ w3
  have w5 := next_wf (n := 200) w4
  have s0 : small 0 = true := rfl
  have s20 : small 20 = true := rfl
  have d1 : decide (0 < 3) = true := rfl
  have d2 : decide (3 ≤ 1000) = true := rfl
  simp only [GT.gt, h1, h2, Int.ofNat_eq_natCast, decide_false, Bool.not_false, cond_true, cond_false, Option.bind_some, w0, on_true, l1, w2, d1, d2, Bool.and_self]
  rw [ble_t (by omega), ble_t (by simp; omega)]
  simp only [cond_true, l3, Option.bind_some, cond_false, w4, w5, s0, s20, Bool.and_self, on_true, ans4]
end Go.Abs.C37

/- Chapter 37: the laws keep the contract. -/
namespace Go.Abs.C37
open Go Go.Proofs
theorem ok4 : FunOk Try.prog B 4 c4 := glue L18 all18 plan4 Try.func4 (by kernel_rfl) (by
  rintro ⟨⟨⟩, a0, a1, ⟨⟩⟩ y r h
  exact (g4_eq a0 a1).trans ((g4_ok a0 a1 r.2.1 r.2.2.1).trans h))
theorem ok5 : FunOk Try.prog B 5 c5 := glue L18 all18 plan5 Try.func5 (by kernel_rfl) (by
  rintro ⟨⟨⟩, a0, ⟨⟩⟩ y r h
  exact (g5_eq a0).trans ((g5_ok a0 r.2.1).trans h))
theorem ok6 : FunOk Try.prog B 6 c6 := glue L18 all18 plan6 Try.func6 (by kernel_rfl) (by
  rintro ⟨⟨⟩, a0, a1, a2, a3, a4, a5, ⟨⟩⟩ y r h
  exact (g6_eq a0 a1 a2 a3 a4 a5).trans ((g6_ok a0 a1 a2 a3 a4 a5 r.2.1 r.2.2.1 r.2.2.2.1 r.2.2.2.2.1 r.2.2.2.2.2.1 r.2.2.2.2.2.2.1).trans h))
end Go.Abs.C37
