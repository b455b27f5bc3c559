/- Proved is the statement of the law AdvertOf: for every input the law returns true, and each argument reads as it did. -/
import Derived.Test.YtmofipnlkfhfpaaRunQ
set_option linter.unusedVariables false
set_option linter.unusedSimpArgs false
namespace Go.Abs.C07
open Go Go.Proofs Sp07
set_option maxRecDepth 100000

theorem adv_wf {t : Tp} {r n : Int} (h : wf t = true) : wf (Sp07.advert t r n).2 = true := by
  have w1 : wf (Sp07.pick t [1, 1, 2, 3, 3, 500000, 1000000]).2 = true := pick_wf h
  have w2 := next_wf (n := 3) w1
  have w3 := (links_wf (r := r) w2 6).1
  have w4 := (claims_wf w3 2).1
  have w5 : wf (plainA t r).2 = true := w4
  have p3 : ∀ (k : Tp) (x y z : List Int), wf k = true → wf (pick3 k x y z).2 = true := fun k x y z hk => pick_wf (l := z) (pick_wf (l := y) (pick_wf (l := x) hk))
  have sp : ∀ (a : Ad) (k : Tp), wf k = true → wf (spoilA a r k).2 = true := by
    intro a k hk
    have g := next_wf (n := 6) hk
    unfold spoilA
    generalize next k 6 = q at g
    simp only
    cases decide (q.1 = 0) with
    | true => exact wild_wf g
    | false =>
    cases decide (q.1 = 1) with
    | true => exact wild_wf g
    | false =>
    cases decide (q.1 = 2) with
    | true => exact p3 _ [0, r, 6, 99, 100] [0, 1, 1000, 1001] [-1, 0, 1000, 1001] g
    | false =>
    cases decide (q.1 = 3) with
    | true => exact p3 _ [-1, 0, 7, 8] [0, 1, 256, 257] [0, 8, 9, 64] g
    | false =>
    cases decide (q.1 = 4) with
    | true => exact g
    | false =>
    cases decide (0 < a.2.2.2.1.length) with
    | true => exact wild_wf g
    | false => exact g
  unfold Sp07.advert
  cases decide (0 < n) with
  | false => exact w5
  | true =>
    have w6 := one_wf (n := n) w5
    simp only [cond_true]
    generalize one (plainA t r).2 n = o at w6
    cases o.1 with
    | true => exact sp _ _ w6
    | false => exact w6
theorem on_adv {t : Tp} (h : wf t = true) (r : Int) {n : Int} (hn : inside n 0 1000 = true) : on (wf t && inside n 0 1000) (Sp07.advert t r n) = some (Sp07.advert t r n) := on_true (by rw [h, hn]; rfl)

end Go.Abs.C07

namespace Go.Abs.C07
open Go Go.Proofs Sp07
set_option maxRecDepth 100000

theorem adv_claims {t : Tp} {r n : Int} (h : wf t = true) : (Sp07.advert t r n).1.2.2.2.2.1.length ≤ 3 := by
  have w1 : wf (Sp07.pick t [1, 1, 2, 3, 3, 500000, 1000000]).2 = true := pick_wf h
  have w2 := next_wf (n := 3) w1
  have w3 := (links_wf (r := r) w2 6).1
  have l4 := (claims_wf w3 2).2
  have l5 : (plainA t r).1.2.2.2.2.1.length ≤ 2 := l4
  have sp : ∀ (a : Ad) (k : Tp), (spoilA a r k).1.2.2.2.2.1.length ≤ a.2.2.2.2.1.length + 1 := by
    intro a k
    unfold spoilA
    generalize next k 6 = q
    simp only
    cases decide (q.1 = 0) with
    | true => exact Nat.le_succ _
    | false =>
    cases decide (q.1 = 1) with
    | true => exact Nat.le_succ _
    | false =>
    cases decide (q.1 = 2) with
    | true => exact Nat.le_succ _
    | false =>
    cases decide (q.1 = 3) with
    | true => simp only [cond_true, cond_false, List.length_append, List.length_cons, List.length_nil]; omega
    | false =>
    cases decide (q.1 = 4) with
    | true => exact Nat.le_succ _
    | false =>
    cases decide (0 < a.2.2.2.1.length) with
    | true => exact Nat.le_succ _
    | false => exact Nat.le_succ _
  unfold Sp07.advert
  cases decide (0 < n) with
  | false => exact Nat.le_succ_of_le l5
  | true =>
    simp only [cond_true]
    generalize one (plainA t r).2 n = o
    cases o.1 with
    | true => exact Nat.le_trans (sp _ _) (by omega)
    | false => exact Nat.le_succ_of_le l5

theorem g9_ok (a0 : (List Int)) (a1 : Int) (a2 : Int) (a3 : (List (Int × (Int × (Int × Unit))))) (r0 : (Ty.sl (.int .i64)).ok a0) (r1 : IntKind.i64.has a1) (r2 : IntKind.i64.has a2) (r3 : (Ty.sl (rc)).ok a3) : g9 a0 a1 a2 a3 = some (true, ()) := by
  unfold g9
  have w0 := tape_wf a0
  obtain ⟨w1, l1⟩ := topo_wf (a := 7) (n := 6) w0 (by decide)
  rw [on_true (show (wf (Sp07.tape a0) && inside 7 1 50 && small 6) = true by rw [w0]; rfl)]
  simp only [Option.bind_some]
  generalize topo (Sp07.tape a0) 7 6 = y4 at w1 l1 ⊢
  rw [on_w w1]
  simp only [Option.bind_some]
  have w2 := next_wf (n := 2) w1
  generalize next y4.2 2 = y5 at w2 ⊢
  have h6 : ∃ y6 : To × Tp × Unit, (bif decide (y5.1 = 0) then (Option.bind (Sp07.on (wf y5.2 && inside 7 1 50) (mixed y5.2 7)) fun y6 => some (y6.1, (y6.2, ()))) else some (y4.1, (y5.2, ()))) = some y6 ∧ wf y6.2.1 = true ∧ y6.1.1.length ≤ 75 := by
    cases decide (y5.1 = 0) with
    | true =>
      obtain ⟨w3, l3⟩ := mixed_wf (a := 7) w2 (by decide)
      rw [on_true (show (wf y5.2 && inside 7 1 50) = true by rw [w2]; rfl)]
      exact ⟨_, rfl, w3, l3⟩
    | false => exact ⟨_, rfl, w2, l1⟩
  obtain ⟨y6, e6, w6, l6⟩ := h6
  rw [e6]
  simp only [Option.bind_some]
  rw [on_adv w6 _ (by decide)]
  simp only [Option.bind_some]
  have w7 := adv_wf (r := 1) (n := 4) w6
  have l7 := adv_claims (r := 1) (n := 4) w6
  generalize Sp07.advert y6.2.1 1 4 = y7 at w7 l7 ⊢
  rw [show Nat.ble ((0 + y7.1.2.2.2.2.1.length) * 24) 140737488355328 = true from Nat.ble_eq_true_of_le (by omega)]
  simp only [cond_true]
  rw [on_true (show (wf y7.2 && small 4 && decide (y6.1.1.length ≤ 1000)) = true by rw [w7, decide_eq_true (show y6.1.1.length ≤ 1000 by omega)]; rfl)]
  simp only [Option.bind_some]
  have w8 := router_wf (g := y6.1) (n := 4) w7
  generalize routerT y7.2 y6.1 4 = y8 at w8 ⊢
  rw [on_true (show (wf y8.2 && decide (0 < 6) && decide (6 ≤ 1000)) = true by rw [w8]; rfl)]
  simp only [Option.bind_some, sameA_self, decide_true, Bool.not_true, Bool.not_false, cond_true, cond_false]
  cases decide (Int.ofNat a3.length > 50) with
  | true => rfl
  | false => rfl
end Go.Abs.C07

namespace Go.Abs.C07
open Go Go.Proofs
set_option maxRecDepth 100000
theorem ok9 : FunOk Try.prog B 9 c9 := glue L32 all32 plan9 Try.func9 (by kernel_rfl) (by
  rintro ⟨⟨⟩, a0, a1, a2, a3, ⟨⟩⟩ y r h
  exact (g9_eq a0 a1 a2 a3).trans ((g9_ok a0 a1 a2 a3 r.2.1 r.2.2.1 r.2.2.2.1 r.2.2.2.2.1).trans h))
end Go.Abs.C07

namespace Go.Proofs.Ytmofipnlkfhfpaa
open Go.ChangeShapes Go.WideShapes Go.ChangeAt Go.RowKit Go.Abs Go.Abs.C07

set_option maxRecDepth 100000 in
theorem AdvertOf_lifted (os : Os) (started : os.Started) (H : Type) (enc : TypeId × Value → H) :
    ReturnsInHanded {} Try.checked os 9 .any (fun w args => (Rows.advertOfSpec.pre enc Try.prog Try.f9 Rows.advertOfRow.domain false w args ∧ True) ∧ sizedMet enc Try.prog Try.f9 (OpenSpec.ofChange Rows.advertOfSpec) false w args)
      (Rows.advertOfSpec.post enc Try.prog Try.f9 false true false false) := by
  refine returnsInHanded_of_change_and (C := Try.checked) (X := fun _ _ => True) (fun _ _ _ _ _ => trivial) Try.own started (by kernel_rfl) Try.func9
    (ChangeSpec.witness_at (enc := enc) (C := Try.checked) (os := os) (X := fun _ _ => True) false (laidWorld os) #[.slice none 0 0, .int .i64 0, .int .i64 0, .slice none 0 0] 8 rfl (by kernel_rfl) (by kernel_rfl) (by kernel_rfl) (by kernel_rfl) (by kernel_rfl) trivial) ?_
  intro W base args ds gs before hval hW _ hwt hL _
  exact law_row 8 [.sl (.int .i64), .int .i64, .int .i64, .sl (.st 24 (.cons (.int .i64) (.cons (.int .i64) (.cons (.int .i64) .unit))))] ok9 rfl Try.laidOut (by kernel_rfl) (by kernel_rfl) rfl (by kernel_rfl) (tb := 4) (by kernel_rfl)
    (fun ds hd => by
      match ds, hd with
      | [d1, d2, d3, d4], _ => rfl) glob_ok hval hW hwt

theorem AdvertOf_holds : Rows.AdvertOfSaid :=
  OpenClaim.holds_of_wide 9 Try.f9 rfl rfl rfl rfl rfl rfl rfl ⟨rfl, rfl, rfl, rfl, rfl⟩ rfl rfl rfl rfl rfl (by kernel_rfl) Try.func9 (by kernel_rfl)
    (of_decide_eq_true (by kernel_rfl)) (by unfold Func.isWrapper; first | (rw [if_pos (by decide +kernel)]; kernel_rfl) | (rw [if_neg (by decide +kernel)]; exact ⟨rfl, rfl⟩))
    (fun os started H enc _ => by
      show ReturnsInHanded {} Try.checked os 9 .any (fun w args => Rows.advertOfSpec.pre enc Try.prog Try.f9 Rows.advertOfRow.domain false w args ∧ sizedMet enc Try.prog Try.f9 (OpenSpec.ofChange Rows.advertOfSpec) false w args) (Rows.advertOfSpec.post enc Try.prog Try.f9 false true false false)
      have h := AdvertOf_lifted os started H enc
      simp only [and_true] at h
      exact h)
end Go.Proofs.Ytmofipnlkfhfpaa
