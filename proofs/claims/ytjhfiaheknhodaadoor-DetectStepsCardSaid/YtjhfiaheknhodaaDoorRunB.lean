/- Chapter 19: proved is that each function that the laws reach keeps its contract; no conditions but those that each theorem states. -/
import Derived.Test.YtjhfiaheknhodaaDoorRunA
set_option linter.unusedVariables false
set_option linter.unusedSimpArgs false
/- Chapter 19: the functions keep their contracts. -/
namespace Go.Abs.C19
open Go Go.Proofs

abbrev B : Env := mkE tab gl 0 false []
theorem glue {f : Nat} {fn : Func} {n : Nat} {hp : Bool} {md : List (Nat × Nat)} (L : List (Nat × Con)) (hL : ∀ g con, lookC L g = some con → FunOk Tryd.prog B g con) (plan : Plan) {c : Con}
    (hf : Tryd.prog.funcs[f]? = some fn) (hck : fnCheck (mkE tab gl n hp md) fn c = true)
    (hF : ∀ x y, (Ty.cons (lfTy c.pre) (shTy c.ps)).ok x → c.F x = some y → (evF (fun _ _ => Loop) (mkE tab gl n hp md) (lookC L) fn plan c x).den = some y) : FunOk Tryd.prog B f c :=
  FunOk.env (E := mkE tab gl n hp md) rfl (fun_ok (pok n hp md) mix (fun g con h => FunOk.env (E := B) rfl (hL g con h)) plan hf hck hF)

theorem on_some {α : Type} {b : Bool} {x y : α} (h : Sp19.on b x = some y) : b = true ∧ x = y := by
  unfold Sp19.on at h
  cases b with
  | false => cases h
  | true => exact ⟨rfl, Option.some.inj h⟩
theorem on_true {α : Type} {b : Bool} {x : α} (h : b = true) : Sp19.on b x = some x := by rw [h]; rfl

theorem wrap_id {n : Int} (h1 : -9223372036854775808 ≤ n) (h2 : n ≤ 9223372036854775807) : IntKind.wrap .i64 n = n := by
  have e1 : (2 : Int) ^ IntKind.i64.bits = 18446744073709551616 := by decide
  have e2 : (2 : Int) ^ (IntKind.i64.bits - 1) = 9223372036854775808 := by decide
  have e3 : IntKind.i64.signed = true := rfl
  simp only [IntKind.wrap, e1, e2, e3, Bool.true_and, decide_eq_true_eq]
  split <;> omega

theorem decB {p : Prop} [Decidable p] : (decide p = true) = p := by simp

theorem g34_ok (a0 : Int) : g34 a0 = some (Sp19.validLimit a0, ()) := by
  unfold g34 Sp19.validLimit
  by_cases h : 1 ≤ a0 <;> simp [h, GE.ge]
theorem ok34 : FunOk Tryd.prog B 34 c34 := glue L0 gam_nil plan34 Tryd.func34 (by kernel_rfl) (by
  rintro ⟨⟨⟩, a0, ⟨⟩⟩ y _ h
  exact (g34_eq a0).trans ((g34_ok a0).trans h))
theorem all34 : ∀ g con, lookC L34 g = some con → FunOk Tryd.prog B g con := gam_cons rfl ok34 gam_nil

theorem g16_ok (a0 a1 a2 : Int) : g16 a0 a1 a2 = some (Sp19.valid (a0, a1, a2, ()), ()) := by
  unfold g16 Sp19.valid
  by_cases h1 : 0 ≤ a0 <;> by_cases h2 : a0 < 3 <;> cases Sp19.validLimit a1 <;> by_cases h3 : 0 ≤ a2 <;> by_cases h4 : a2 ≤ a1 <;> by_cases h5 : a0 = 0 <;> simp [h1, h2, h3, h4, h5, GE.ge]
theorem ok16 : FunOk Tryd.prog B 16 c16 := glue L34 all34 plan16 Tryd.func16 (by kernel_rfl) (by
  rintro ⟨⟨⟩, ⟨a0, a1, a2, ⟨⟩⟩, ⟨⟩⟩ y _ h
  exact (g16_eq a0 a1 a2).trans ((g16_ok a0 a1 a2).trans h))
theorem all16 : ∀ g con, lookC L16 g = some con → FunOk Tryd.prog B g con := gam_cons rfl ok16 all34

theorem valid_iff {s : Sp19.S} (h : Sp19.valid s = true) : 0 ≤ s.1 ∧ s.1 < 3 ∧ 1 ≤ s.2.1 ∧ s.2.1 ≤ 20 ∧ 0 ≤ s.2.2.1 ∧ s.2.2.1 ≤ s.2.1 ∧ (s.1 ≠ 0 ∨ s.2.2.1 = 0) := by
  simp only [Sp19.valid, Sp19.validLimit, Bool.and_eq_true, Bool.or_eq_true, Bool.not_eq_true', decide_eq_true_eq, decide_eq_false_iff_not] at h
  obtain ⟨⟨⟨⟨⟨h1, h2⟩, h3, h4⟩, h5⟩, h6⟩, h7⟩ := h
  exact ⟨h1, h2, h3, h4, h5, h6, h7⟩

theorem g20_ok (a0 a1 a2 : Int) : g20 a0 a1 a2 = some (Sp19.tick (a0, a1, a2, ()), ()) := by
  unfold g20 Sp19.tick
  cases hv : Sp19.valid (a0, a1, a2, ()) with
  | false => simp [Sp19.zs]
  | true =>
    obtain ⟨h1, h2, h3, h4, h5, h6, h7⟩ := valid_iff hv
    simp only at h1 h2 h3 h4 h5 h6 h7
    by_cases h8 : a0 = 0 <;> by_cases h9 : a2 = a1 <;> simp [h8, h9]
    exact wrap_id (by omega) (by omega)
theorem ok20 : FunOk Tryd.prog B 20 c20 := glue L16 all16 plan20 Tryd.func20 (by kernel_rfl) (by
  rintro ⟨⟨⟩, ⟨a0, a1, a2, ⟨⟩⟩, ⟨⟩⟩ y _ h
  exact (g20_eq a0 a1 a2).trans ((g20_ok a0 a1 a2).trans h))
theorem all20 : ∀ g con, lookC L20 g = some con → FunOk Tryd.prog B g con := gam_cons rfl ok20 all16

theorem g19_ok (a0 a1 a2 a3 : Int) : g19 a0 a1 a2 a3 = some (Sp19.hear (a0, a1, a2, ()) a3, ()) := by
  unfold g19 Sp19.hear
  cases hv : Sp19.valid (a0, a1, a2, ()) with
  | false => simp [Sp19.zs]
  | true =>
    obtain ⟨h1, h2, h3, h4, h5, h6, h7⟩ := valid_iff hv
    simp only at h1 h2 h3 h4 h5 h6 h7
    by_cases h8 : 0 ≤ a3 <;> by_cases h9 : a3 < 3 <;> simp [h8, h9, h1, h2, Sp19.after]
    have e : a0.toNat * 3 + a3.toNat < 9 := by omega
    have e2 : Nat.blt (a0.toNat * 3 + a3.toNat) 9 = true := by rw [Nat.blt_eq]; exact e
    rw [e2]
    simp [Nat.mul_comm]
theorem ok19 : FunOk Tryd.prog B 19 c19 := glue L20 all20 plan19 Tryd.func19 (by kernel_rfl) (by
  rintro ⟨⟨⟩, ⟨a0, a1, a2, ⟨⟩⟩, a3, ⟨⟩⟩ y _ h
  exact (g19_eq a0 a1 a2 a3).trans ((g19_ok a0 a1 a2 a3).trans h))
theorem all19 : ∀ g con, lookC L19 g = some con → FunOk Tryd.prog B g con := gam_cons rfl ok19 all20
end Go.Abs.C19

/- Chapter 19: the functions keep their contracts: the document's functions, tapes. -/
namespace Go.Abs.C19
open Go Go.Proofs

theorem g37_ok (a0 : Int) : g37 a0 = some (decide (0 ≤ a0) && decide (a0 < 3), ()) := by
  unfold g37
  by_cases h : 0 ≤ a0 <;> by_cases h2 : a0 < 3 <;> by_cases h3 : a0 ≤ 2 <;> simp [h, h2, h3, GE.ge] <;> omega
theorem ok37 : FunOk Tryd.prog B 37 c37 := glue L19 all19 plan37 Tryd.func37 (by kernel_rfl) (by
  rintro ⟨⟨⟩, a0, ⟨⟩⟩ y _ h
  exact (g37_eq a0).trans ((g37_ok a0).trans h))
theorem all37 : ∀ g con, lookC L37 g = some con → FunOk Tryd.prog B g con := gam_cons rfl ok37 all19

theorem g38_ok (a0 : Int) : g38 a0 = some (Sp19.validLimit a0, ()) := by
  unfold g38 Sp19.validLimit
  by_cases h : 1 ≤ a0 <;> simp [h, GE.ge]
theorem ok38 : FunOk Tryd.prog B 38 c38 := glue L37 all37 plan38 Tryd.func38 (by kernel_rfl) (by
  rintro ⟨⟨⟩, a0, ⟨⟩⟩ y _ h
  exact (g38_eq a0).trans ((g38_ok a0).trans h))
theorem all38 : ∀ g con, lookC L38 g = some con → FunOk Tryd.prog B g con := gam_cons rfl ok38 all37

theorem g22_ok (a0 a1 a2 : Int) : g22 a0 a1 a2 = some (Sp19.valid (a0, a1, a2, ()), ()) := by
  unfold g22 Sp19.valid
  by_cases h1 : 0 ≤ a0 <;> by_cases h2 : a0 < 3 <;> cases Sp19.validLimit a1 <;> by_cases h3 : 0 ≤ a2 <;> by_cases h4 : a2 ≤ a1 <;> by_cases h5 : a0 = 0 <;> simp [h1, h2, h3, h4, h5, GE.ge]
theorem ok22 : FunOk Tryd.prog B 22 c22 := glue L38 all38 plan22 Tryd.func22 (by kernel_rfl) (by
  rintro ⟨⟨⟩, ⟨a0, a1, a2, ⟨⟩⟩, ⟨⟩⟩ y _ h
  exact (g22_eq a0 a1 a2).trans ((g22_ok a0 a1 a2).trans h))
theorem all22 : ∀ g con, lookC L22 g = some con → FunOk Tryd.prog B g con := gam_cons rfl ok22 all38

theorem g23_ok (a0 a1 a2 : Int) : g23 a0 a1 a2 = some (Sp19.tick (a0, a1, a2, ()), ()) := by
  unfold g23 Sp19.tick
  cases hv : Sp19.valid (a0, a1, a2, ()) with
  | false => simp [Sp19.zs]
  | true =>
    obtain ⟨h1, h2, h3, h4, h5, h6, h7⟩ := valid_iff hv
    simp only at h1 h2 h3 h4 h5 h6 h7
    have hw : IntKind.wrap .i64 (a2 + 1) = a2 + 1 := wrap_id (by omega) (by omega)
    by_cases h8 : a0 = 0
    · simp [h8]
    · by_cases h9 : a2 = a1
      · have h10 : a1 < a1 + 1 := by omega
        subst h9
        simp [h8, hw, h10, GT.gt]
      · have : ¬ a2 + 1 > a1 := by omega
        have h10 : ¬ a1 < a2 + 1 := by omega
        simp [h8, h9, hw, h10, GT.gt]
theorem ok23 : FunOk Tryd.prog B 23 c23 := glue L22 all22 plan23 Tryd.func23 (by kernel_rfl) (by
  rintro ⟨⟨⟩, ⟨a0, a1, a2, ⟨⟩⟩, ⟨⟩⟩ y _ h
  exact (g23_eq a0 a1 a2).trans ((g23_ok a0 a1 a2).trans h))
theorem all23 : ∀ g con, lookC L23 g = some con → FunOk Tryd.prog B g con := gam_cons rfl ok23 all22

theorem g24_ok (a0 a1 a2 a3 : Int) : g24 a0 a1 a2 a3 = some (Sp19.hear (a0, a1, a2, ()) a3, ()) := by
  unfold g24 Sp19.hear
  cases hv : Sp19.valid (a0, a1, a2, ()) with
  | false => simp [Sp19.zs]
  | true =>
    obtain ⟨h1, h2, h3, h4, h5, h6, h7⟩ := valid_iff hv
    simp only at h1 h2 h3 h4 h5 h6 h7
    by_cases h8 : 0 ≤ a3
    · by_cases h9 : a3 < 3
      · have ha : a0 = 0 ∨ a0 = 1 ∨ a0 = 2 := by omega
        have hb : a3 = 0 ∨ a3 = 1 ∨ a3 = 2 := by omega
        rcases ha with rfl | rfl | rfl <;> rcases hb with rfl | rfl | rfl <;> rfl
      · simp [h8, h9]
    · simp [h8]
theorem ok24 : FunOk Tryd.prog B 24 c24 := glue L23 all23 plan24 Tryd.func24 (by kernel_rfl) (by
  rintro ⟨⟨⟩, ⟨a0, a1, a2, ⟨⟩⟩, a3, ⟨⟩⟩ y _ h
  exact (g24_eq a0 a1 a2 a3).trans ((g24_ok a0 a1 a2 a3).trans h))
theorem all24 : ∀ g con, lookC L24 g = some con → FunOk Tryd.prog B g con := gam_cons rfl ok24 all23

theorem g35_ok (a0 a1 : Int) (h1 : IntKind.i64.has a1) : g35 a0 a1 = some (Sp19.cut a0 a1, ()) := by
  have hm : a1 ≤ 9223372036854775807 := h1.2
  unfold g35 Sp19.cut
  by_cases h : a1 < 1
  · simp [h]
  · have h0 : ¬ a1 = 0 := by omega
    have hp : 0 < a1 := by omega
    have e1 := Int.emod_nonneg a0 h0
    have e2 := Int.emod_lt_of_pos a0 hp
    have e3 : a0.tmod a1 = if 0 ≤ a0 ∨ a1 ∣ a0 then a0 % a1 else a0 % a1 - a1 := by
      rw [Int.tmod_eq_emod]
      split <;> rename_i h <;> simp [h]
      omega
    by_cases h5 : 0 ≤ a0 ∨ a1 ∣ a0
    · rw [if_pos h5] at e3
      have : ¬ a0 % a1 < 0 := by omega
      simp [h, h0, e3, this]
      rfl
    · rw [if_neg h5] at e3
      have h6 : a0 % a1 - a1 < 0 := by omega
      have h7 : a0 % a1 - a1 + a1 = a0 % a1 := by omega
      have h8 : IntKind.wrap .i64 (a0 % a1) = a0 % a1 := wrap_id (by omega) (by omega)
      simp only [h, h0, e3, h6, h7, h8, decide_true, decide_false, cond_true, cond_false, Bool.not_false, Option.bind]
      rfl
theorem ok35 : FunOk Tryd.prog B 35 c35 := glue L24 all24 plan35 Tryd.func35 (by kernel_rfl) (by
  rintro ⟨⟨⟩, a0, a1, ⟨⟩⟩ y r h
  exact (g35_eq a0 a1).trans ((g35_ok a0 a1 r.2.2.1).trans h))
theorem all35 : ∀ g con, lookC L35 g = some con → FunOk Tryd.prog B g con := gam_cons rfl ok35 all24

theorem wf_iff {t : Sp19.Tp} : Sp19.wf t = true ↔ 0 ≤ t.2.1 ∧ t.2.1 ≤ t.1.length ∧ t.1.length ≤ 600 := by
  simp [Sp19.wf, and_assoc]

theorem g36_ok (a0 : List Int) (a1 : Int) (h : Sp19.wf (a0, a1, ()) = true) : g36 a0 a1 = some (Sp19.raw (a0, a1, ())) := by
  obtain ⟨h1, h2, h3⟩ := wf_iff.1 h
  simp only at h1 h2 h3
  unfold g36 Sp19.raw
  by_cases h4 : a1 < a0.length
  · have h5 : ¬ a1 ≥ (a0.length : Int) := by omega
    have e1 : IntKind.wrap .i64 (a1 + 1) = a1 + 1 := wrap_id (by omega) (by omega)
    have e2 : IntKind.wrap .i64 (a1 + 1 - 1) = a1 := by rw [show a1 + 1 - 1 = a1 by omega]; exact wrap_id (by omega) (by omega)
    simp only [Int.ofNat_eq_natCast, e1, e2, h5, h4, h1, decide_true, decide_false, cond_true, cond_false, Bool.and_self]
  · have h5 : a1 ≥ (a0.length : Int) := by omega
    simp only [Int.ofNat_eq_natCast, h5, h4, decide_true, decide_false, cond_true, cond_false]
theorem ok36 : FunOk Tryd.prog B 36 c36 := glue L35 all35 plan36 Tryd.func36 (by kernel_rfl) (by
  rintro ⟨⟨a0, a1, ⟨⟩⟩, ⟨⟩⟩ y r h
  obtain ⟨h1, h2⟩ := on_some h
  subst h2
  exact (g36_eq a0 a1).trans (g36_ok a0 a1 h1))
theorem all36 : ∀ g con, lookC L36 g = some con → FunOk Tryd.prog B g con := gam_cons rfl ok36 all35

theorem g18_ok (a0 : List Int) (a1 a2 : Int) (h : Sp19.wf (a0, a1, ()) = true) : g18 a0 a1 a2 = some (Sp19.next (a0, a1, ()) a2) := by
  unfold g18
  rw [on_true h]
  rfl
theorem ok18 : FunOk Tryd.prog B 18 c18 := glue L36 all36 plan18 Tryd.func18 (by kernel_rfl) (by
  rintro ⟨⟨a0, a1, ⟨⟩⟩, a2, ⟨⟩⟩ y r h
  obtain ⟨h1, h2⟩ := on_some h
  subst h2
  exact (g18_eq a0 a1 a2).trans (g18_ok a0 a1 a2 h1))
theorem all18 : ∀ g con, lookC L18 g = some con → FunOk Tryd.prog B g con := gam_cons rfl ok18 all36
end Go.Abs.C19

/- Chapter 19: the functions keep their contracts: tapes, the rest. -/
namespace Go.Abs.C19
open Go Go.Proofs

theorem small_iff {n : Int} : Sp19.small n = true ↔ -2305843009213693952 ≤ n ∧ n ≤ 2305843009213693952 := by
  simp [Sp19.small]
theorem raw_wf {t : Sp19.Tp} (h : Sp19.wf t = true) : Sp19.wf (Sp19.raw t).2 = true := by
  obtain ⟨l, a, ⟨⟩⟩ := t
  obtain ⟨h1, h2, h3⟩ := wf_iff.1 h
  simp only at h1 h2 h3
  unfold Sp19.raw
  by_cases h4 : a < l.length
  · simp only [h4, decide_true, cond_true]
    exact wf_iff.2 ⟨by simp only; omega, by simp only; omega, h3⟩
  · simp only [h4, decide_false, cond_false]
    exact h
theorem next_wf {t : Sp19.Tp} {n : Int} (h : Sp19.wf t = true) : Sp19.wf (Sp19.next t n).2 = true := raw_wf h
theorem cut_nonneg {x n : Int} : 0 ≤ Sp19.cut x n := by
  unfold Sp19.cut
  by_cases h : n < 1
  · simp [h]
  · simp only [h, decide_false, cond_false]
    exact Int.emod_nonneg x (by omega)
theorem cut_lt {x n : Int} (h : 1 ≤ n) : Sp19.cut x n < n := by
  unfold Sp19.cut
  have h' : ¬ n < 1 := by omega
  simp only [h', decide_false, cond_false]
  exact Int.emod_lt_of_pos x (by omega)
theorem next_range {t : Sp19.Tp} {n : Int} (h : 1 ≤ n) : 0 ≤ (Sp19.next t n).1 ∧ (Sp19.next t n).1 < n := ⟨cut_nonneg, cut_lt h⟩
theorem range_wf {t : Sp19.Tp} {a b : Int} (h : Sp19.wf t = true) : Sp19.wf (Sp19.range t a b).2 = true := next_wf (n := b - a + 1) h
theorem range_in {t : Sp19.Tp} {a b : Int} (h : a ≤ b) : a ≤ (Sp19.range t a b).1 ∧ (Sp19.range t a b).1 ≤ b := by
  have := next_range (t := t) (n := b - a + 1) (by omega)
  unfold Sp19.range
  simp only
  omega

theorem next_bound {t : Sp19.Tp} {n : Int} : 0 ≤ (Sp19.next t n).1 ∧ ((Sp19.next t n).1 < n ∨ (Sp19.next t n).1 = 0) := by
  by_cases h : 1 ≤ n
  · have := next_range (t := t) h
    exact ⟨this.1, .inl this.2⟩
  · refine ⟨cut_nonneg, .inr ?_⟩
    show Sp19.cut (Sp19.raw t).1 n = 0
    unfold Sp19.cut
    have : n < 1 := by omega
    simp [this]

theorem g21_ok (a0 : List Int) (a1 a2 a3 : Int) (h : Sp19.wf (a0, a1, ()) = true) (h2 : Sp19.small a2 = true) (h3 : Sp19.small a3 = true) : g21 a0 a1 a2 a3 = some (Sp19.range (a0, a1, ()) a2 a3) := by
  have k2 := small_iff.1 h2
  have k3 := small_iff.1 h3
  unfold g21 Sp19.range
  rw [on_true h]
  have e1 : IntKind.wrap .i64 (a3 - a2) = a3 - a2 := wrap_id (by omega) (by omega)
  have e2 : IntKind.wrap .i64 (a3 - a2 + 1) = a3 - a2 + 1 := wrap_id (by omega) (by omega)
  have hb := next_bound (t := (a0, a1, ())) (n := a3 - a2 + 1)
  have e3 : IntKind.wrap .i64 (a2 + (Sp19.next (a0, a1, ()) (a3 - a2 + 1)).1) = a2 + (Sp19.next (a0, a1, ()) (a3 - a2 + 1)).1 := wrap_id (by omega) (by omega)
  simp only [e1, e2, Option.bind, e3]
theorem ok21 : FunOk Tryd.prog B 21 c21 := glue L18 all18 plan21 Tryd.func21 (by kernel_rfl) (by
  rintro ⟨⟨a0, a1, ⟨⟩⟩, a2, a3, ⟨⟩⟩ y r h
  obtain ⟨h1, h2⟩ := on_some h
  subst h2
  simp only [Bool.and_eq_true] at h1
  exact (g21_eq a0 a1 a2 a3).trans (g21_ok a0 a1 a2 a3 h1.1.1 h1.1.2 h1.2))
theorem all21 : ∀ g con, lookC L21 g = some con → FunOk Tryd.prog B g con := gam_cons rfl ok21 all18

theorem g32_ok (a0 : List Int) (a1 a2 : Int) (h : Sp19.wf (a0, a1, ()) = true) (h2 : Sp19.small a2 = true) : g32 a0 a1 a2 = some (Sp19.one (a0, a1, ()) a2) := by
  have k2 := small_iff.1 h2
  unfold g32 Sp19.one
  rw [on_true h]
  have e1 : IntKind.wrap .i64 (a2 - 1) = a2 - 1 := wrap_id (by omega) (by omega)
  simp only [e1, Option.bind]
theorem ok32 : FunOk Tryd.prog B 32 c32 := glue L21 all21 plan32 Tryd.func32 (by kernel_rfl) (by
  rintro ⟨⟨a0, a1, ⟨⟩⟩, a2, ⟨⟩⟩ y r h
  obtain ⟨h1, h2⟩ := on_some h
  subst h2
  simp only [Bool.and_eq_true] at h1
  exact (g32_eq a0 a1 a2).trans (g32_ok a0 a1 a2 h1.1 h1.2))
theorem all32 : ∀ g con, lookC L32 g = some con → FunOk Tryd.prog B g con := gam_cons rfl ok32 all21

theorem ok17 : FunOk Tryd.prog B 17 c17 := glue L32 all32 plan17 Tryd.func17 (by kernel_rfl) (by
  rintro ⟨⟨a0, a1, ⟨⟩⟩, ⟨⟩⟩ y r h
  exact (g17_eq a0 a1).trans h)
theorem all17 : ∀ g con, lookC L17 g = some con → FunOk Tryd.prog B g con := gam_cons rfl ok17 all32

theorem g40_ok (a0 : List Int) (a1 : Int) (a2 : List Int) (h : Sp19.wf (a0, a1, ()) = true) (h2 : 0 < a2.length) : g40 a0 a1 a2 = some (Sp19.pick (a0, a1, ()) a2) := by
  unfold g40 Sp19.pick
  rw [on_true h]
  have hb := next_range (t := (a0, a1, ())) (n := (a2.length : Int)) (by omega)
  simp only [Int.ofNat_eq_natCast, Option.bind, hb.1, hb.2, decide_true, Bool.and_self, cond_true]
theorem ok40 : FunOk Tryd.prog B 40 c40 := glue L17 all17 plan40 Tryd.func40 (by kernel_rfl) (by
  rintro ⟨⟨a0, a1, ⟨⟩⟩, a2, ⟨⟩⟩ y r h
  obtain ⟨h1, h2⟩ := on_some h
  subst h2
  simp only [Bool.and_eq_true, decide_eq_true_eq] at h1
  exact (g40_eq a0 a1 a2).trans (g40_ok a0 a1 a2 h1.1.1 h1.1.2))
theorem all40 : ∀ g con, lookC L40 g = some con → FunOk Tryd.prog B g con := gam_cons rfl ok40 all17

theorem g39_eq (a0 : List Int) (a1 : Int) : (evF (fun _ _ => Loop) E39 G39 Tryd.f39 plan39 c39 ((a0, (a1, ())), ())).den = Option.bind (Sp19.on (Sp19.wf (a0, a1, ()) && true && true) (Sp19.pick (a0, a1, ()) Sp19.wilds)) (fun y => some y) := by kernel_rfl
theorem ok39 : FunOk Tryd.prog B 39 c39 := glue L40 all40 plan39 Tryd.func39 (by kernel_rfl) (by
  rintro ⟨⟨a0, a1, ⟨⟩⟩, ⟨⟩⟩ y r h
  obtain ⟨h1, h2⟩ := on_some h
  subst h2
  refine (g39_eq a0 a1).trans ?_
  have h1 : Sp19.wf (a0, a1, ()) = true := h1
  rw [h1]
  rfl)
theorem all39 : ∀ g con, lookC L39 g = some con → FunOk Tryd.prog B g con := gam_cons rfl ok39 all40
end Go.Abs.C19

/- Chapter 19: the functions keep their contracts: sessions, both ends. -/
namespace Go.Abs.C19
open Go Go.Proofs

theorem one_wf {t : Sp19.Tp} {n : Int} (h : Sp19.wf t = true) : Sp19.wf (Sp19.one t n).2 = true := next_wf (n := n) h
theorem wild_wf {t : Sp19.Tp} (h : Sp19.wf t = true) : Sp19.wf (Sp19.wild t).2 = true := next_wf (n := (Sp19.wilds.length : Int)) h
theorem spoil_wf {t : Sp19.Tp} {x n : Int} (h : Sp19.wf t = true) : Sp19.wf (Sp19.spoil t x n).2 = true := by
  unfold Sp19.spoil
  by_cases h1 : 0 < n
  · simp only [h1, decide_true, cond_true]
    cases (Sp19.one t n).1
    · exact one_wf (n := n) h
    · exact wild_wf (one_wf h)
  · simp only [h1, decide_false, cond_false]; exact h

theorem g33_ok (a0 : List Int) (a1 a2 a3 : Int) (h : Sp19.wf (a0, a1, ()) = true) (h3 : Sp19.small a3 = true) : g33 a0 a1 a2 a3 = some (Sp19.spoil (a0, a1, ()) a2 a3) := by
  unfold g33 Sp19.spoil
  have e : Sp19.on (Sp19.wf (a0, a1, ()) && Sp19.small a3) (Sp19.one (a0, a1, ()) a3) = some (Sp19.one (a0, a1, ()) a3) := on_true (by rw [h, h3]; rfl)
  by_cases h1 : 0 < a3
  · simp only [GT.gt, h1, decide_true, cond_true, e, Option.bind]
    cases (Sp19.one (a0, a1, ()) a3).1
    · rfl
    · rw [on_true (one_wf h)]; rfl
  · simp only [GT.gt, h1, decide_false, cond_false, Option.bind]
theorem ok33 : FunOk Tryd.prog B 33 c33 := glue L39 all39 plan33 Tryd.func33 (by kernel_rfl) (by
  rintro ⟨⟨a0, a1, ⟨⟩⟩, a2, a3, ⟨⟩⟩ y r h
  obtain ⟨h1, h2⟩ := on_some h
  subst h2
  simp only [Bool.and_eq_true] at h1
  exact (g33_eq a0 a1 a2 a3).trans (g33_ok a0 a1 a2 a3 h1.1 h1.2))
theorem all33 : ∀ g con, lookC L33 g = some con → FunOk Tryd.prog B g con := gam_cons rfl ok33 all39

theorem session0_wf {t : Sp19.Tp} (h : Sp19.wf t = true) : Sp19.wf (Sp19.session0 t).2 = true := by
  unfold Sp19.session0
  simp only
  have h1 := range_wf (a := 1) (b := 5) (next_wf (n := 3) h)
  by_cases h2 : (Sp19.next t 3).1 = 0
  · simp only [h2, decide_true, cond_true]; exact h1
  · simp only [h2, decide_false, cond_false]; exact next_wf h1
theorem session1_wf {s : Sp19.S} {t : Sp19.Tp} (h : Sp19.wf t = true) : Sp19.wf (Sp19.session1 s t).2 = true := spoil_wf (spoil_wf (spoil_wf h))
theorem session_wf {t : Sp19.Tp} {n : Int} (h : Sp19.wf t = true) : Sp19.wf (Sp19.session t n).2 = true := by
  unfold Sp19.session
  simp only
  by_cases h1 : 0 < n
  · simp only [h1, decide_true, cond_true]
    cases (Sp19.one (Sp19.session0 t).2 n).1
    · exact one_wf (n := n) (session0_wf h)
    · exact session1_wf (one_wf (session0_wf h))
  · simp only [h1, decide_false, cond_false]; exact session0_wf h

theorem g11_ok (a0 : List Int) (a1 a2 : Int) (h : Sp19.wf (a0, a1, ()) = true) (h2 : Sp19.small a2 = true) : g11 a0 a1 a2 = some (Sp19.session (a0, a1, ()) a2) := by
  have s1 : Sp19.small 1 = true := rfl
  have s5 : Sp19.small 5 = true := rfl
  have s2 : Sp19.small 2 = true := rfl
  have w1 := next_wf (n := 3) h
  have w2 := range_wf (a := 1) (b := 5) w1
  have r2 := range_in (t := (Sp19.next (a0, a1, ()) 3).2) (a := 1) (b := 5) (by omega)
  have e2 : IntKind.wrap .i64 ((Sp19.range (Sp19.next (a0, a1, ()) 3).2 1 5).1 + 1) = (Sp19.range (Sp19.next (a0, a1, ()) 3).2 1 5).1 + 1 := wrap_id (by omega) (by omega)
  have w0 := session0_wf h
  unfold g11
  rw [on_true h]
  simp only [Option.bind_some, w1, s1, s5, Bool.and_self, on_true, e2]
  -- the first part
  have first : (bif !decide ((Sp19.next (a0, a1, ()) 3).1 = 0) then
      (Option.bind (Sp19.on (Sp19.wf (Sp19.range (Sp19.next (a0, a1, ()) 3).2 1 5).2) (Sp19.next (Sp19.range (Sp19.next (a0, a1, ()) 3).2 1 5).2 ((Sp19.range (Sp19.next (a0, a1, ()) 3).2 1 5).1 + 1)))
        (fun y5 => some (((Sp19.next (a0, a1, ()) 3).1, (Sp19.range (Sp19.next (a0, a1, ()) 3).2 1 5).1, y5.1, ()), y5.2, ())))
      else some (((Sp19.next (a0, a1, ()) 3).1, (Sp19.range (Sp19.next (a0, a1, ()) 3).2 1 5).1, 0, ()), (Sp19.range (Sp19.next (a0, a1, ()) 3).2 1 5).2, ())) =
      some ((Sp19.session0 (a0, a1, ())).1, (Sp19.session0 (a0, a1, ())).2, ()) := by
    unfold Sp19.session0
    simp only
    by_cases h3 : (Sp19.next (a0, a1, ()) 3).1 = 0
    · simp only [h3, decide_true, cond_true, cond_false, Bool.not_true]
    · simp only [h3, decide_false, cond_true, cond_false, Bool.not_false, on_true w2, Option.bind_some]
  simp only [first, Option.bind_some]
  unfold Sp19.session
  simp only
  by_cases h4 : 0 < a2
  · simp only [GT.gt, h4, decide_true, cond_true, w0, h2, Bool.and_self, on_true, Option.bind_some]
    have w3 := one_wf (n := a2) w0
    cases (Sp19.one (Sp19.session0 (a0, a1, ())).2 a2).1
    · rfl
    · have w4 := spoil_wf (x := (Sp19.session0 (a0, a1, ())).1.1) (n := 2) w3
      have w5 := spoil_wf (x := (Sp19.session0 (a0, a1, ())).1.2.1) (n := 2) w4
      simp only [cond_true, w3, w4, w5, s2, Bool.and_self, on_true, Option.bind_some]
      rfl
  · simp only [GT.gt, h4, decide_false, cond_false, Option.bind_some]
theorem ok11 : FunOk Tryd.prog B 11 c11 := glue L33 all33 plan11 Tryd.func11 (by kernel_rfl) (by
  rintro ⟨⟨a0, a1, ⟨⟩⟩, a2, ⟨⟩⟩ y r h
  obtain ⟨h1, h2⟩ := on_some h
  subst h2
  simp only [Bool.and_eq_true] at h1
  exact (g11_eq a0 a1 a2).trans (g11_ok a0 a1 a2 h1.1 h1.2))
theorem all11 : ∀ g con, lookC L11 g = some con → FunOk Tryd.prog B g con := gam_cons rfl ok11 all33

theorem intsN_wf {lo hi : Int} : ∀ {n : Nat} {t : Sp19.Tp} {acc : List Int}, Sp19.wf t = true → Sp19.wf (Sp19.intsN lo hi n t acc).2 = true
  | 0, _, _, h => h
  | n + 1, t, acc, h => by
    unfold Sp19.intsN
    exact intsN_wf (range_wf h)
theorem ints_wf {t : Sp19.Tp} {m lo hi : Int} (h : Sp19.wf t = true) : Sp19.wf (Sp19.ints t m lo hi).2 = true := intsN_wf (range_wf h)

theorem g12_ok (a0 : List Int) (a1 a2 a3 a4 : Int) (h : Sp19.wf (a0, a1, ()) = true) (h2 : 0 ≤ a2 ∧ a2 ≤ 1000) (h3 : Sp19.small a3 = true) (h4 : Sp19.small a4 = true) : g12 a0 a1 a2 a3 a4 = some (Sp19.ints (a0, a1, ()) a2 a3 a4) := by
  have sm : Sp19.small a2 = true := small_iff.2 (by omega)
  have s0 : Sp19.small 0 = true := rfl
  unfold g12
  simp only [h, s0, sm, Bool.and_self, on_true, Option.bind]
  have hr := range_in (t := (a0, a1, ())) (a := 0) (b := a2) h2.1
  have key : Loop (g12_s0 a3 a4) ((Sp19.range (a0, a1, ()) 0 a2).2, [], (Sp19.range (a0, a1, ()) 0 a2).1, ()) =
      some ((Sp19.intsN a3 a4 (Sp19.range (a0, a1, ()) 0 a2).1.toNat (Sp19.range (a0, a1, ()) 0 a2).2 []).2, (Sp19.intsN a3 a4 (Sp19.range (a0, a1, ()) 0 a2).1.toNat (Sp19.range (a0, a1, ()) 0 a2).2 []).1, ()) := by
    refine Loop_inv (fun (v : Sp19.Tp × List Int × Int × Unit) => Sp19.wf v.1 = true ∧ 0 ≤ v.2.2.1 ∧ (v.2.1.length : Int) + v.2.2.1 ≤ 1000) (fun (v : Sp19.Tp × List Int × Int × Unit) => v.2.2.1.toNat) (fun (v : Sp19.Tp × List Int × Int × Unit) => ((Sp19.intsN a3 a4 v.2.2.1.toNat v.1 v.2.1).2, (Sp19.intsN a3 a4 v.2.2.1.toNat v.1 v.2.1).1, ())) ?_ ⟨range_wf (a := 0) (b := a2) h, hr.1, by simp; omega⟩
    rintro ⟨t, acc, i, ⟨⟩⟩ ⟨w, k1, k2⟩
    simp only at w k1 k2
    by_cases h5 : 0 < i
    · right
      refine ⟨((Sp19.range t a3 a4).2, acc ++ [(Sp19.range t a3 a4).1], i - 1, ()), ?_, ⟨range_wf (a := a3) (b := a4) w, by simp only; omega, by simp; omega⟩, by simp only; omega, ?_⟩
      · unfold g12_s0
        have e1 : IntKind.wrap .i64 (i - 1) = i - 1 := wrap_id (by omega) (by omega)
        have e2 : Nat.ble ((acc.length + 1) * 8) 140737488355328 = true := by rw [Nat.ble_eq]; omega
        simp only [GT.gt, h5, decide_true, cond_true, w, h3, h4, Bool.and_self, on_true, Option.bind, e1, e2]
      · simp only
        have : i.toNat = (i - 1).toNat + 1 := by omega
        rw [this]
        rfl
    · left
      have : i.toNat = 0 := by omega
      simp only [this]
      unfold g12_s0
      simp only [GT.gt, h5, decide_false, cond_false]
      rfl
  rw [key]
  rfl
theorem ok12 : FunOk Tryd.prog B 12 c12 := glue L11 all11 plan12 Tryd.func12 (by kernel_rfl) (by
  rintro ⟨⟨a0, a1, ⟨⟩⟩, a2, a3, a4, ⟨⟩⟩ y r h
  obtain ⟨h1, h2⟩ := on_some h
  subst h2
  simp only [Bool.and_eq_true, decide_eq_true_eq] at h1
  obtain ⟨⟨⟨⟨h1, h2⟩, h3⟩, h4⟩, h5⟩ := h1
  exact (g12_eq a0 a1 a2 a3 a4).trans (g12_ok a0 a1 a2 a3 a4 h1 ⟨h2, h3⟩ h4 h5))
theorem all12 : ∀ g con, lookC L12 g = some con → FunOk Tryd.prog B g con := gam_cons rfl ok12 all11

theorem g10_ok (a0 : List Int) : g10 a0 = some (Sp19.tape a0, ()) := by
  unfold g10 Sp19.tape
  by_cases h : (600 : Int) < a0.length
  · have h2 : (600 : Int) ≤ a0.length := by omega
    simp [GT.gt, h, h2]
  · have : a0.take 600 = a0 := List.take_of_length_le (by omega)
    simp [GT.gt, h, this]
theorem ok10 : FunOk Tryd.prog B 10 c10 := glue L12 all12 plan10 Tryd.func10 (by kernel_rfl) (by
  rintro ⟨⟨⟩, a0, ⟨⟩⟩ y r h
  exact (g10_eq a0).trans ((g10_ok a0).trans h))
theorem all10 : ∀ g con, lookC L10 g = some con → FunOk Tryd.prog B g con := gam_cons rfl ok10 all12
theorem tape_wf (l : List Int) : Sp19.wf (Sp19.tape l) = true := wf_iff.2 ⟨by simp [Sp19.tape], by simp [Sp19.tape], by simp [Sp19.tape]; omega⟩
end Go.Abs.C19

/- Chapter 19: the functions keep their contracts: both ends, new ends. -/
namespace Go.Abs.C19
open Go Go.Proofs

theorem noBit_eq (x k : Int) : decide (IntKind.wrap .i64 (Int.ofNat (BitVec.toNat (BitVec.and (BitVec.ofInt 64 x) (BitVec.ofInt 64 k)))) = 0) = Sp19.noBit x k := rfl

theorem loop13 (l : List Int) (a b : Sp19.S) (hl : l.length ≤ 300) : Loop (g13_s0 l) (b, a, 0, ()) = some ((Sp19.rounds (a, b) l).2, (Sp19.rounds (a, b) l).1, ()) := by
  have := Loop_fold (step := g13_s0 l) l (fun i (s : Sp19.S × Sp19.S) => (s.2, s.1, (i : Int), ())) Sp19.round (fun s => (s.2, s.1, ())) (fun _ _ => True) ?_ ?_ l.length 0 (a, b) (by omega) (by omega) trivial
  · simpa [Sp19.rounds] using this
  · rintro i ⟨a, b⟩ hi _
    refine ⟨?_, trivial⟩
    have h1 : (i : Int) < l.length := by omega
    have h2 : (0 : Int) ≤ i := by omega
    have e1 : IntKind.wrap .i64 ((i : Int) + 1) = ((i + 1 : Nat) : Int) := by rw [wrap_id (by omega) (by omega)]; rfl
    unfold g13_s0
    simp only [Int.ofNat_eq_natCast, h1, h2, decide_true, cond_true, Bool.and_self, Int.toNat_natCast, getD_lt hi]
    have n1 := noBit_eq l[i] 1
    have n2 := noBit_eq l[i] 2
    simp only [Int.ofNat_eq_natCast] at n1 n2
    simp only [n1, n2, e1, Sp19.round]
    cases Sp19.noBit l[i] 1 <;> cases Sp19.noBit l[i] 2 <;> rfl
  · rintro ⟨a, b⟩ _
    unfold g13_s0
    simp

theorem g13_ok (a b : Sp19.S) (l : List Int) : g13 a.1 a.2.1 a.2.2.1 b.1 b.2.1 b.2.2.1 l = some (Sp19.both a b l, ()) := by
  obtain ⟨a0, a1, a2, ⟨⟩⟩ := a
  obtain ⟨b0, b1, b2, ⟨⟩⟩ := b
  unfold g13 Sp19.both
  cases Sp19.valid (a0, a1, a2, ()) with
  | false => simp [Sp19.zs]
  | true =>
    cases Sp19.valid (b0, b1, b2, ()) with
    | false => simp [Sp19.zs]
    | true =>
      by_cases h : l.length ≤ 300
      · have h' : ¬ (300 : Int) < l.length := by omega
        have hl := loop13 l (a0, a1, a2, ()) (b0, b1, b2, ()) h
        simp [h, h', hl]
      · have h' : (300 : Int) < l.length := by omega
        simp [h, h', Sp19.zs]
theorem ok13 : FunOk Tryd.prog B 13 c13 := glue L10 all10 plan13 Tryd.func13 (by kernel_rfl) (by
  rintro ⟨⟨⟩, ⟨a0, a1, a2, ⟨⟩⟩, ⟨b0, b1, b2, ⟨⟩⟩, l, ⟨⟩⟩ y r h
  exact (g13_eq a0 a1 a2 b0 b1 b2 l).trans ((g13_ok (a0, a1, a2, ()) (b0, b1, b2, ()) l).trans h))
theorem all13 : ∀ g con, lookC L13 g = some con → FunOk Tryd.prog B g con := gam_cons rfl ok13 all10

theorem loop14 (l : List Int) (a b : Sp19.S) (hl : l.length ≤ 300) : Loop (g14_s0 l) (0, a, b, ()) = some ((Sp19.rounds (a, b) l).1, (Sp19.rounds (a, b) l).2, ()) := by
  have := Loop_fold (step := g14_s0 l) l (fun i (s : Sp19.S × Sp19.S) => ((i : Int), s.1, s.2, ())) Sp19.round (fun s => (s.1, s.2, ())) (fun _ _ => True) ?_ ?_ l.length 0 (a, b) (by omega) (by omega) trivial
  · simpa [Sp19.rounds] using this
  · rintro i ⟨a, b⟩ hi _
    refine ⟨?_, trivial⟩
    have h1 : (i : Int) < l.length := by omega
    have h2 : (0 : Int) ≤ i := by omega
    have e1 : IntKind.wrap .i64 ((i : Int) + 1) = ((i + 1 : Nat) : Int) := by rw [wrap_id (by omega) (by omega)]; rfl
    unfold g14_s0
    simp only [Int.ofNat_eq_natCast, h1, h2, decide_true, cond_true, Bool.and_self, Int.toNat_natCast, getD_lt hi]
    have n1 := noBit_eq l[i] 1
    have n2 := noBit_eq l[i] 2
    simp only [Int.ofNat_eq_natCast] at n1 n2
    simp only [n1, n2, e1, Sp19.round]
    cases Sp19.noBit l[i] 1 <;> cases Sp19.noBit l[i] 2 <;> rfl
  · rintro ⟨a, b⟩ _
    unfold g14_s0
    simp

theorem g14_ok (a b : Sp19.S) (l : List Int) : g14 a.1 a.2.1 a.2.2.1 b.1 b.2.1 b.2.2.1 l = some (Sp19.both a b l, ()) := by
  obtain ⟨a0, a1, a2, ⟨⟩⟩ := a
  obtain ⟨b0, b1, b2, ⟨⟩⟩ := b
  unfold g14 Sp19.both
  cases Sp19.valid (a0, a1, a2, ()) with
  | false => simp [Sp19.zs]
  | true =>
    cases Sp19.valid (b0, b1, b2, ()) with
    | false => simp [Sp19.zs]
    | true =>
      by_cases h : l.length ≤ 300
      · have h' : ¬ (300 : Int) < l.length := by omega
        have hl := loop14 l (a0, a1, a2, ()) (b0, b1, b2, ()) h
        simp [h, h', hl]
      · have h' : (300 : Int) < l.length := by omega
        simp [h, h', Sp19.zs]
theorem ok14 : FunOk Tryd.prog B 14 c14 := glue L13 all13 plan14 Tryd.func14 (by kernel_rfl) (by
  rintro ⟨⟨⟩, ⟨a0, a1, a2, ⟨⟩⟩, ⟨b0, b1, b2, ⟨⟩⟩, l, ⟨⟩⟩ y r h
  exact (g14_eq a0 a1 a2 b0 b1 b2 l).trans ((g14_ok (a0, a1, a2, ()) (b0, b1, b2, ()) l).trans h))
theorem all14 : ∀ g con, lookC L14 g = some con → FunOk Tryd.prog B g con := gam_cons rfl ok14 all13

theorem g27_ok (a0 : Int) : g27 a0 = some (Sp19.new a0, ()) := by
  unfold g27 Sp19.new
  cases Sp19.validLimit a0 <;> rfl
theorem ok27 : FunOk Tryd.prog B 27 c27 := glue L14 all14 plan27 Tryd.func27 (by kernel_rfl) (by
  rintro ⟨⟨⟩, a0, ⟨⟩⟩ y r h
  exact (g27_eq a0).trans ((g27_ok a0).trans h))
theorem all27 : ∀ g con, lookC L27 g = some con → FunOk Tryd.prog B g con := gam_cons rfl ok27 all14
theorem g28_ok (a0 : Int) : g28 a0 = some (Sp19.new a0, ()) := by
  unfold g28 Sp19.new
  cases Sp19.validLimit a0 <;> rfl
theorem ok28 : FunOk Tryd.prog B 28 c28 := glue L27 all27 plan28 Tryd.func28 (by kernel_rfl) (by
  rintro ⟨⟨⟩, a0, ⟨⟩⟩ y r h
  exact (g28_eq a0).trans ((g28_ok a0).trans h))
theorem all28 : ∀ g con, lookC L28 g = some con → FunOk Tryd.prog B g con := gam_cons rfl ok28 all27

theorem g25_ok (a0 : Int) : g25 a0 = some (Sp19.within a0, ()) := by
  unfold g25 Sp19.within
  cases h : Sp19.validLimit a0
  · rfl
  · simp only [Sp19.validLimit, Bool.and_eq_true, decide_eq_true_eq] at h
    have : IntKind.wrap .i64 (a0 + 2) = a0 + 2 := wrap_id (by omega) (by omega)
    simp [this]
theorem ok25 : FunOk Tryd.prog B 25 c25 := glue L28 all28 plan25 Tryd.func25 (by kernel_rfl) (by
  rintro ⟨⟨⟩, a0, ⟨⟩⟩ y r h
  exact (g25_eq a0).trans ((g25_ok a0).trans h))
theorem all25 : ∀ g con, lookC L25 g = some con → FunOk Tryd.prog B g con := gam_cons rfl ok25 all28
theorem g26_ok (a0 : Int) : g26 a0 = some (Sp19.within a0, ()) := by
  unfold g26 Sp19.within
  cases h : Sp19.validLimit a0
  · rfl
  · simp only [Sp19.validLimit, Bool.and_eq_true, decide_eq_true_eq] at h
    have : IntKind.wrap .i64 (a0 + 2) = a0 + 2 := wrap_id (by omega) (by omega)
    simp [this]
theorem ok26 : FunOk Tryd.prog B 26 c26 := glue L25 all25 plan26 Tryd.func26 (by kernel_rfl) (by
  rintro ⟨⟨⟩, a0, ⟨⟩⟩ y r h
  exact (g26_eq a0).trans ((g26_ok a0).trans h))
theorem all26 : ∀ g con, lookC L26 g = some con → FunOk Tryd.prog B g con := gam_cons rfl ok26 all25

theorem g15_eq : (evF (fun _ _ => Loop) E15 G15 Tryd.f15 plan15 c15 ((), ())).den = some (true, ()) := by kernel_rfl
theorem ok15 : FunOk Tryd.prog B 15 c15 := glue L26 all26 plan15 Tryd.func15 (by kernel_rfl) (by
  rintro ⟨⟨⟩, ⟨⟩⟩ y r h
  exact g15_eq.trans h)
theorem all15 : ∀ g con, lookC L15 g = some con → FunOk Tryd.prog B g con := gam_cons rfl ok15 all26
end Go.Abs.C19

/- Chapter 19: the functions keep their contracts: plays; the law DetectBoth. -/
namespace Go.Abs.C19
open Go Go.Proofs

def playF (p : List Int × Sp19.S) (x : Int) : List Int × Sp19.S := (p.1 ++ [(Sp19.act p.2 x).1], Sp19.act p.2 x)
theorem playF_fold : ∀ (l : List Int) (out : List Int) (s : Sp19.S), (l.foldl playF (out, s)).1 = out ++ Sp19.plays s l
  | [], out, s => by simp [Sp19.plays]
  | x :: r, out, s => by
    rw [List.foldl_cons, playF, playF_fold r]
    simp [Sp19.plays]

theorem loop29 (l : List Int) (s : Sp19.S) (hl : l.length ≤ 300) : Loop (g29_s0 l) (0, [], s, ()) = some (Sp19.plays s l, ()) := by
  have := Loop_fold (step := g29_s0 l) l (fun i (p : List Int × Sp19.S) => ((i : Int), p.1, p.2, ())) playF (fun p => (p.1, ())) (fun i p => p.1.length = i) ?_ ?_ l.length 0 ([], s) (by omega) (by omega) rfl
  · rw [List.drop_zero, playF_fold] at this
    simpa using this
  · rintro i ⟨out, s⟩ hi hI
    simp only at hI
    refine ⟨?_, by simp [playF, hI]⟩
    have h1 : (i : Int) < l.length := by omega
    have h2 : (0 : Int) ≤ i := by omega
    have e1 : IntKind.wrap .i64 ((i : Int) + 1) = ((i + 1 : Nat) : Int) := by rw [wrap_id (by omega) (by omega)]; rfl
    have e2 : Nat.ble ((out.length + 1) * 8) 140737488355328 = true := by rw [Nat.ble_eq]; omega
    unfold g29_s0
    simp only [Int.ofNat_eq_natCast, h1, h2, decide_true, cond_true, Bool.and_self, Int.toNat_natCast, getD_lt hi, e1, e2, playF, Sp19.act]
    by_cases h3 : 0 ≤ l[i] <;> by_cases h4 : l[i] < 3 <;> simp [GE.ge, h3, h4]
  · rintro ⟨out, s⟩ _
    unfold g29_s0
    simp
theorem loop30 (l : List Int) (s : Sp19.S) (hl : l.length ≤ 300) : Loop (g30_s0 l) (0, [], s, ()) = some (Sp19.plays s l, ()) := by
  have := Loop_fold (step := g30_s0 l) l (fun i (p : List Int × Sp19.S) => ((i : Int), p.1, p.2, ())) playF (fun p => (p.1, ())) (fun i p => p.1.length = i) ?_ ?_ l.length 0 ([], s) (by omega) (by omega) rfl
  · rw [List.drop_zero, playF_fold] at this
    simpa using this
  · rintro i ⟨out, s⟩ hi hI
    simp only at hI
    refine ⟨?_, by simp [playF, hI]⟩
    have h1 : (i : Int) < l.length := by omega
    have h2 : (0 : Int) ≤ i := by omega
    have e1 : IntKind.wrap .i64 ((i : Int) + 1) = ((i + 1 : Nat) : Int) := by rw [wrap_id (by omega) (by omega)]; rfl
    have e2 : Nat.ble ((out.length + 1) * 8) 140737488355328 = true := by rw [Nat.ble_eq]; omega
    unfold g30_s0
    simp only [Int.ofNat_eq_natCast, h1, h2, decide_true, cond_true, Bool.and_self, Int.toNat_natCast, getD_lt hi, e1, e2, playF, Sp19.act]
    by_cases h3 : 0 ≤ l[i] <;> by_cases h4 : l[i] < 3 <;> simp [h3, h4]
  · rintro ⟨out, s⟩ _
    unfold g30_s0
    simp
theorem g29_ok (a0 : Int) (l : List Int) : g29 a0 l = some (Sp19.play a0 l, ()) := by
  unfold g29 Sp19.play Sp19.new
  cases Sp19.validLimit a0
  · simp
  · by_cases h : l.length ≤ 300
    · have h' : ¬ (300 : Int) < l.length := by omega
      have := loop29 l (0, a0, 0, ()) h
      simp [h, h', this]
    · have h' : (300 : Int) < l.length := by omega
      simp [h, h']
theorem ok29 : FunOk Tryd.prog B 29 c29 := glue L15 all15 plan29 Tryd.func29 (by kernel_rfl) (by
  rintro ⟨⟨⟩, a0, l, ⟨⟩⟩ y r h
  exact (g29_eq a0 l).trans ((g29_ok a0 l).trans h))
theorem all29 : ∀ g con, lookC L29 g = some con → FunOk Tryd.prog B g con := gam_cons rfl ok29 all15
theorem g30_ok (a0 : Int) (l : List Int) : g30 a0 l = some (Sp19.play a0 l, ()) := by
  unfold g30 Sp19.play Sp19.new
  cases Sp19.validLimit a0
  · simp
  · by_cases h : l.length ≤ 300
    · have h' : ¬ (300 : Int) < l.length := by omega
      have := loop30 l (0, a0, 0, ()) h
      simp [h, h', this]
    · have h' : (300 : Int) < l.length := by omega
      simp [h, h']
theorem ok30 : FunOk Tryd.prog B 30 c30 := glue L29 all29 plan30 Tryd.func30 (by kernel_rfl) (by
  rintro ⟨⟨⟩, a0, l, ⟨⟩⟩ y r h
  exact (g30_eq a0 l).trans ((g30_ok a0 l).trans h))
theorem all30 : ∀ g con, lookC L30 g = some con → FunOk Tryd.prog B g con := gam_cons rfl ok30 all29

theorem loop31 (a b : List Int) (hab : a.length = b.length) (hl : a.length ≤ 1000) : Loop (g31_s0 a b) (0, false, ()) = some (!decide (a = b), (false, ()), (false, ())) := by
  have := Loop_inv (step := g31_s0 a b) (fun v => 0 ≤ v.1 ∧ v.1 ≤ a.length ∧ v.2 = (false, ()) ∧ a.take v.1.toNat = b.take v.1.toNat) (fun v => a.length - v.1.toNat) (fun _ => (!decide (a = b), (false, ()), (false, ()))) ?_ (v := (0, false, ())) ⟨Int.le_refl 0, by simp, rfl, by simp⟩
  · exact this
  · rintro ⟨i, v2⟩ ⟨h1, h2, h3, h4⟩
    simp only at h1 h2 h3 h4
    subst h3
    by_cases h5 : i < a.length
    · have hi : i.toNat < a.length := by omega
      have hi2 : i.toNat < b.length := by omega
      have h6 : i < b.length := by omega
      have e1 : IntKind.wrap .i64 (i + 1) = i + 1 := wrap_id (by omega) (by omega)
      by_cases h7 : a[i.toNat] = b[i.toNat]
      · right
        refine ⟨(i + 1, false, ()), ?_, ⟨by simp only; omega, by simp only; omega, rfl, ?_⟩, by simp only; omega, rfl⟩
        · unfold g31_s0
          simp only [Int.ofNat_eq_natCast, h5, h6, h1, decide_true, cond_true, Bool.and_self, getD_lt hi, getD_lt hi2, h7, e1, Bool.not_true, cond_false]
        · simp only
          have : (i + 1).toNat = i.toNat + 1 := by omega
          rw [this, List.take_add_one, List.take_add_one, h4]
          simp [hi, hi2, h7]
      · left
        have hne : a ≠ b := fun h => h7 (by subst h; rfl)
        unfold g31_s0
        simp only [Int.ofNat_eq_natCast, h5, h6, h1, decide_true, cond_true, Bool.and_self, getD_lt hi, getD_lt hi2, h7, hne, decide_false, Bool.not_false]
    · left
      have : i.toNat = a.length := by omega
      rw [this, List.take_length, List.take_of_length_le (by omega)] at h4
      have h5b : ¬ i < b.length := by omega
      unfold g31_s0
      simp only [Int.ofNat_eq_natCast, h5, h5b, decide_false, cond_false, h4, decide_true, Bool.not_true]
theorem g31_ok (a b : List Int) (hl : a.length ≤ 1000) : g31 a b = some (decide (a = b), ()) := by
  unfold g31
  by_cases h : a.length = b.length
  · have h' : (Int.ofNat a.length = Int.ofNat b.length) := by rw [h]
    simp only [h', decide_true, Bool.not_true, cond_false, loop31 a b h hl, Option.bind_some]
    by_cases h2 : a = b <;> simp [h2]
  · have h' : ¬ (Int.ofNat a.length = Int.ofNat b.length) := by intro hh; exact h (Int.ofNat.inj hh)
    have hne : a ≠ b := fun hh => h (by rw [hh])
    simp only [h', decide_false, Bool.not_false, cond_true, hne]
theorem ok31 : FunOk Tryd.prog B 31 c31 := glue L30 all30 plan31 Tryd.func31 (by kernel_rfl) (by
  rintro ⟨⟨⟩, a, b, ⟨⟩⟩ y r h
  obtain ⟨h1, h2⟩ := on_some h
  subst h2
  exact (g31_eq a b).trans (g31_ok a b (by simpa using h1)))
theorem all31 : ∀ g con, lookC L31 g = some con → FunOk Tryd.prog B g con := gam_cons rfl ok31 all30

theorem g3_ok (l raw : List Int) (a b : Sp19.S) : g3 l raw a.1 a.2.1 a.2.2.1 b.1 b.2.1 b.2.2.1 = some (true, ()) := by
  have w0 := tape_wf l
  have w1 := session_wf (n := 6) w0
  have w2 := session_wf (n := 6) w1
  have s6 : Sp19.small 6 = true := rfl
  have s0 : Sp19.small 0 = true := rfl
  have s3 : Sp19.small 3 = true := rfl
  have d1 : decide ((0 : Int) ≤ 20) = true := rfl
  have d2 : decide ((20 : Int) ≤ 1000) = true := rfl
  unfold g3
  simp only [w0, s6, w1, w2, s0, s3, d1, d2, Bool.and_self, on_true, Option.bind_some, decide_true, Bool.and_true, Bool.not_true, Bool.not_false, cond_true, cond_false]
  cases decide (Int.ofNat raw.length > 1000) <;> rfl
theorem ok3 : FunOk Tryd.prog B 3 c3 := glue L31 all31 plan3 Tryd.func3 (by kernel_rfl) (by
  rintro ⟨⟨⟩, l, raw, ⟨a0, a1, a2, ⟨⟩⟩, ⟨b0, b1, b2, ⟨⟩⟩, ⟨⟩⟩ y r h
  exact (g3_eq l raw a0 a1 a2 b0 b1 b2).trans ((g3_ok l raw (a0, a1, a2, ()) (b0, b1, b2, ())).trans h))
end Go.Abs.C19
