/- Proved is the statement of the law AdvertNewer: for every input the law returns true, and each argument reads as it did. -/
import Derived.Test.YtmofipnlkfhfpaaRunQ
set_option linter.unusedVariables false
set_option linter.unusedSimpArgs false
/- Chapter 07: the law on newer adverts. -/
namespace Go.Abs.C07
open Go Go.Proofs Sp07
set_option maxRecDepth 100000

theorem inner6 (l0 l : List Ad) (i : Int) (hl : l.length ≤ 100) (h0 : 0 ≤ i) (hi : i < (l.length : Int)) : Loop (g6_s0 (i, l0, ())) ((0 : Int), l, ()) = some (false, (false, ()), l, ()) := by
  refine Loop_inv (fun v : Int × List Ad × Unit => 0 ≤ v.1 ∧ v.1 ≤ (l.length : Int) ∧ v.2.1 = l) (fun v => ((l.length : Int) - v.1).toNat) (fun v => (false, (false, ()), v.2)) ?_ (v := ((0 : Int), l, ())) ⟨by simp, by simp, rfl⟩
  rintro ⟨k, l', ⟨⟩⟩ ⟨h1, h2, h3⟩
  simp only at h1 h2 h3
  subst h3
  have e : IntKind.wrap .i64 (k + 1) = k + 1 := wi64 (by omega) (by omega)
  have b1 : Nat.blt i.toNat l'.length = true := blt_t (by omega)
  unfold g6_s0
  by_cases h4 : k < (l'.length : Int)
  · right
    have b2 : Nat.blt k.toNat l'.length = true := blt_t (by omega)
    refine ⟨(k + 1, l', ()), ?_, ⟨by simp only; omega, by simp only; omega, rfl⟩, by simp only; omega, rfl⟩
    simp only [Int.ofNat_eq_natCast, h4, hi, h0, h1, b1, b2, decide_true, cond_true, Bool.and_self, Bool.not_true, cond_false, e]
  · left
    simp only [Int.ofNat_eq_natCast, h4, decide_false, cond_false]
theorem outer6 (x y : Ad) (l : List Ad) (hl : l.length ≤ 100) : Loop (g6_s1 x.1 x.2.1 x.2.2.1 x.2.2.2.1 x.2.2.2.2.1 y.1 y.2.1 y.2.2.1 y.2.2.2.1 y.2.2.2.2.1) ((0 : Int), l, ()) = some (false, (false, ()), ()) := by
  refine Loop_inv (fun v : Int × List Ad × Unit => 0 ≤ v.1 ∧ v.1 ≤ (l.length : Int) ∧ v.2.1 = l) (fun v => ((l.length : Int) - v.1).toNat) (fun _ => (false, (false, ()), ())) ?_ (v := ((0 : Int), l, ())) ⟨by simp, by simp, rfl⟩
  rintro ⟨k, l', ⟨⟩⟩ ⟨h1, h2, h3⟩
  simp only at h1 h2 h3
  subst h3
  have e : IntKind.wrap .i64 (k + 1) = k + 1 := wi64 (by omega) (by omega)
  unfold g6_s1
  by_cases h4 : k < (l'.length : Int)
  · have b2 : Nat.blt k.toNat l'.length = true := blt_t (by omega)
    simp only [Int.ofNat_eq_natCast, h4, decide_true, cond_true, Option.bind_some]
    cases Sp07.big (x.1, x.2.1, x.2.2.1, x.2.2.2.1, x.2.2.2.2.1, ()) with
    | true => left; rfl
    | false =>
    cases Sp07.big (y.1, y.2.1, y.2.2.1, y.2.2.2.1, y.2.2.2.2.1, ()) with
    | true => left; rfl
    | false =>
      right
      refine ⟨(k + 1, l', ()), ?_, ⟨by simp only; omega, by simp only; omega, rfl⟩, by simp only; omega, trivial⟩
      simp only [Bool.not_false, cond_true, Option.bind_some]
      rw [inner6 l' l' k hl h1 h4]
      simp only [e, cond_false, Option.bind_some]
  · left
    simp only [Int.ofNat_eq_natCast, h4, decide_false, cond_false, Option.bind_some]

theorem g6_ok (a0 : (List Int)) (a1 : Int) (a2 : Int) (a3 : Bool) (a4 : (List (Int × (Int × (Int × Unit))))) (a5 : (List (Int × (Int × (Int × Unit))))) (a6 : Int) (a7 : Int) (a8 : Bool) (a9 : (List (Int × (Int × (Int × Unit))))) (a10 : (List (Int × (Int × (Int × Unit))))) (r0 : (Ty.sl (.int .i64)).ok a0) (r1 : IntKind.i64.has a1) (r2 : IntKind.i64.has a2) (r4 : (Ty.sl (rc)).ok a4) (r5 : (Ty.sl (rc)).ok a5) (r6 : IntKind.i64.has a6) (r7 : IntKind.i64.has a7) (r9 : (Ty.sl (rc)).ok a9) (r10 : (Ty.sl (rc)).ok a10) : g6 a0 a1 a2 a3 a4 a5 a6 a7 a8 a9 a10 = some (true, ()) := by
  unfold g6
  have w0 := tape_wf a0
  have w1 := range_wf (a := 1) (b := 2) w0
  have w2 := adv_wf (r := (Sp07.range (Sp07.tape a0) 1 2).1) (n := 5) w1
  have w3 := range_wf (a := 1) (b := 2) w2
  rw [on_range w0 (by decide) (by decide)]
  simp only [Option.bind_some]
  rw [on_adv w1 _ (by decide)]
  simp only [Option.bind_some]
  rw [on_range w2 (by decide) (by decide)]
  simp only [Option.bind_some]
  have w4 := adv_wf (r := (Sp07.range (Sp07.advert (Sp07.range (Sp07.tape a0) 1 2).2 (Sp07.range (Sp07.tape a0) 1 2).1 5).2 1 2).1) (n := 0) w3
  rw [on_adv w3 _ (by decide)]
  simp only [Option.bind_some]
  rw [on_adv w4 _ (by decide)]
  simp only [Option.bind_some]
  rw [outer6 (a1, a2, a3, a4, a5, ()) (a6, a7, a8, a9, a10, ()) _ (by simp only [List.length_cons, List.length_nil]; omega)]
  rfl

theorem ok6 : FunOk Try.prog B 6 c6 := glue L11 all11 plan6 Try.func6 (by kernel_rfl) (by
  rintro ⟨⟨⟩, a0, ⟨a1, a2, a3, a4, a5, ⟨⟩⟩, ⟨a6, a7, a8, a9, a10, ⟨⟩⟩, ⟨⟩⟩ y r h
  exact (g6_eq a0 a1 a2 a3 a4 a5 a6 a7 a8 a9 a10).trans ((g6_ok a0 a1 a2 a3 a4 a5 a6 a7 a8 a9 a10 r.2.1 r.2.2.1.1 r.2.2.1.2.1 r.2.2.1.2.2.2.1 r.2.2.1.2.2.2.2.1 r.2.2.2.1.1 r.2.2.2.1.2.1 r.2.2.2.1.2.2.2.1 r.2.2.2.1.2.2.2.2.1).trans h))
end Go.Abs.C07

/- Chapter 07: the row of AdvertNewer. -/
namespace Go.Proofs.Ytmofipnlkfhfpaa
open Go.ChangeShapes Go.WideShapes Go.ChangeAt Go.RowKit Go.Abs Go.Abs.C07

set_option maxRecDepth 100000 in
theorem AdvertNewer_lifted (os : Os) (started : os.Started) (H : Type) (enc : TypeId × Value → H) :
    ReturnsInHanded {} Try.checked os 6 .any (fun w args => (Rows.advertNewerSpec.pre enc Try.prog Try.f6 Rows.advertNewerRow.domain false w args ∧ True) ∧ sizedMet enc Try.prog Try.f6 (OpenSpec.ofChange Rows.advertNewerSpec) false w args)
      (Rows.advertNewerSpec.post enc Try.prog Try.f6 false true false false) := by
  refine returnsInHanded_of_change_and (C := Try.checked) (X := fun _ _ => True) (fun _ _ _ _ _ => trivial) Try.own started (by kernel_rfl) Try.func6
    (ChangeSpec.witness_at (enc := enc) (C := Try.checked) (os := os) (X := fun _ _ => True) false (laidWorld os) #[.slice none 0 0, .agg #[.int .i64 0, .int .i64 0, .bool false, .slice none 0 0, .slice none 0 0], .agg #[.int .i64 0, .int .i64 0, .bool false, .slice none 0 0, .slice none 0 0]] 8 rfl (by kernel_rfl) (by kernel_rfl) (by kernel_rfl) (by kernel_rfl) (by kernel_rfl) trivial) ?_
  intro W base args ds gs before hval hW _ hwt hL _
  exact law_row 8 [.sl (.int .i64), .st 72 (.cons (.int .i64) (.cons (.int .i64) (.cons .bool (.cons (.sl (.st 24 (.cons (.int .i64) (.cons (.int .i64) (.cons (.int .i64) .unit))))) (.cons (.sl (.st 24 (.cons (.int .i64) (.cons (.int .i64) (.cons (.int .i64) .unit))))) .unit))))), .st 72 (.cons (.int .i64) (.cons (.int .i64) (.cons .bool (.cons (.sl (.st 24 (.cons (.int .i64) (.cons (.int .i64) (.cons (.int .i64) .unit))))) (.cons (.sl (.st 24 (.cons (.int .i64) (.cons (.int .i64) (.cons (.int .i64) .unit))))) .unit)))))] ok6 rfl Try.laidOut (by kernel_rfl) (by kernel_rfl) rfl (by kernel_rfl) (tb := 4) (by kernel_rfl)
    (fun ds hd => by
      match ds, hd with
      | [d1, d2, d3], _ => rfl) glob_ok hval hW hwt

theorem AdvertNewer_holds : Rows.AdvertNewerSaid :=
  OpenClaim.holds_of_wide 6 Try.f6 rfl rfl rfl rfl rfl rfl rfl ⟨rfl, rfl, rfl, rfl, rfl⟩ rfl rfl rfl rfl rfl (by kernel_rfl) Try.func6 (by kernel_rfl)
    (of_decide_eq_true (by kernel_rfl)) (by unfold Func.isWrapper; first | (rw [if_pos (by decide +kernel)]; kernel_rfl) | (rw [if_neg (by decide +kernel)]; exact ⟨rfl, rfl⟩))
    (fun os started H enc _ => by
      show ReturnsInHanded {} Try.checked os 6 .any (fun w args => Rows.advertNewerSpec.pre enc Try.prog Try.f6 Rows.advertNewerRow.domain false w args ∧ sizedMet enc Try.prog Try.f6 (OpenSpec.ofChange Rows.advertNewerSpec) false w args) (Rows.advertNewerSpec.post enc Try.prog Try.f6 false true false false)
      have h := AdvertNewer_lifted os started H enc
      simp only [and_true] at h
      exact h)
end Go.Proofs.Ytmofipnlkfhfpaa
