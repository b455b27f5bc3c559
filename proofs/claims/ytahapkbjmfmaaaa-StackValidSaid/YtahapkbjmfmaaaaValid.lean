/- Proved is the statement of the law StackValid: for every input the law returns true, and each argument reads as it did. -/
import Derived.Test.YtahapkbjmfmaaaaRunQ
set_option linter.unusedVariables false
set_option linter.unusedSimpArgs false
namespace Go.Abs.C04
open Go Go.Proofs Sp04
set_option maxRecDepth 100000

theorem labT_wf {t : Tp} {n : Int} (w : wf t = true) : wf (labT t n).2 = true := by
  unfold labT
  simp only
  have w1 := pick_wf (l := [0, 17, 18, 115, 116, 1048575]) w
  generalize pick t [0, 17, 18, 115, 116, 1048575] = y1 at w1 ⊢
  have w2 := spoil_wf (x := y1.1) (n := n) w1
  generalize spoil y1.2 y1.1 n = y2 at w2 ⊢
  have w3 := next_wf (n := 8) w2
  generalize next y2.2 8 = y3 at w3 ⊢
  have w4 := spoil_wf (x := y3.1) (n := n) w3
  generalize spoil y3.2 y3.1 n = y4 at w4 ⊢
  have w5 := pick_wf (l := [0, 1, 255]) w4
  generalize pick y4.2 [0, 1, 255] = y5 at w5 ⊢
  exact spoil_wf w5
end Go.Abs.C04

namespace Go.Abs.C04
open Go Go.Proofs Sp04
set_option maxRecDepth 100000

theorem g3_ok (a0 : (List Int)) (a1 : Int) (a2 : Int) (a3 : Int) (a4 : (List Int)) (a5 : Int) (a6 : Int) (a7 : Int) (a8 : Int) (a9 : Int) (a10 : Int) (a11 : Int) (a12 : Int) (a13 : Int) (a14 : (List Int)) (r0 : (Ty.sl (.int .i64)).ok a0) (r1 : IntKind.i64.has a1) (r2 : IntKind.i64.has a2) (r3 : IntKind.i64.has a3) (r4 : (Ty.sl (.int .i64)).ok a4) (r5 : IntKind.i64.has a5) (r6 : IntKind.i64.has a6) (r7 : IntKind.i64.has a7) (r8 : IntKind.i64.has a8) (r9 : IntKind.i64.has a9) (r10 : IntKind.i64.has a10) (r11 : IntKind.i64.has a11) (r12 : IntKind.i64.has a12) (r13 : IntKind.u64.has a13) (r14 : Ty.str.ok a14) : g3 a0 a1 a2 a3 a4 a5 a6 a7 a8 a9 a10 a11 a12 a13 a14 = some (true, ()) := by
  have w0 := tape_wf a0
  unfold g3
  rw [on_true (show (wf (Sp04.tape a0) && small 4) = true by rw [w0]; rfl)]
  simp only [Option.bind_some]
  have w1 := labT_wf (n := 4) w0
  generalize labT (Sp04.tape a0) 4 = y15 at w1 ⊢
  rw [on_true (show (wf y15.2 && small 2) = true by rw [w1]; rfl)]
  simp only [Option.bind_some, eq_self, decide_true, cond_true]
  cases decide (Int.ofNat a4.length > 100) <;> rfl
end Go.Abs.C04

namespace Go.Abs.C04
open Go Go.Proofs
set_option maxRecDepth 100000
theorem ok3 : FunOk Try.prog B 3 c3 := glue L16 all16 plan3 Try.func3 (by kernel_rfl) (by
  rintro ⟨⟨⟩, a0, ⟨a1, a2, a3, ⟨⟩⟩, ⟨a4, a5, a6, a7, a8, a9, a10, a11, a12, a13, a14, ⟨⟩⟩, ⟨⟩⟩ y r h
  exact (g3_eq a0 a1 a2 a3 a4 a5 a6 a7 a8 a9 a10 a11 a12 a13 a14).trans ((g3_ok a0 a1 a2 a3 a4 a5 a6 a7 a8 a9 a10 a11 a12 a13 a14 r.2.1 r.2.2.1.1 r.2.2.1.2.1 r.2.2.1.2.2.1 r.2.2.2.1.1 r.2.2.2.1.2.1 r.2.2.2.1.2.2.1 r.2.2.2.1.2.2.2.1 r.2.2.2.1.2.2.2.2.1 r.2.2.2.1.2.2.2.2.2.1 r.2.2.2.1.2.2.2.2.2.2.1 r.2.2.2.1.2.2.2.2.2.2.2.1 r.2.2.2.1.2.2.2.2.2.2.2.2.1 r.2.2.2.1.2.2.2.2.2.2.2.2.2.1 r.2.2.2.1.2.2.2.2.2.2.2.2.2.2.1).trans h))
end Go.Abs.C04

namespace Go.Proofs.Ytahapkbjmfmaaaa
open Go.ChangeShapes Go.WideShapes Go.ChangeAt Go.RowKit Go.Abs Go.Abs.C04

set_option maxRecDepth 100000 in
theorem StackValid_lifted (os : Os) (started : os.Started) (H : Type) (enc : TypeId × Value → H) :
    ReturnsInHanded {} Try.checked os 3 .any (fun w args => (Rows.stackValidSpec.pre enc Try.prog Try.f3 Rows.stackValidRow.domain false w args ∧ True) ∧ sizedMet enc Try.prog Try.f3 (OpenSpec.ofChange Rows.stackValidSpec) false w args)
      (Rows.stackValidSpec.post enc Try.prog Try.f3 false true false false) := by
  refine returnsInHanded_of_change_and (C := Try.checked) (X := fun _ _ => True) (fun _ _ _ _ _ => trivial) Try.own started (by kernel_rfl) Try.func3
    (ChangeSpec.witness_at (enc := enc) (C := Try.checked) (os := os) (X := fun _ _ => True) false (laidWorld os) #[.slice none 0 0, .agg #[.int .i64 0, .int .i64 0, .int .i64 0], .agg #[.slice none 0 0, .int .i64 0, .int .i64 0, .int .i64 0, .int .i64 0, .int .i64 0, .int .i64 0, .int .i64 0, .int .i64 0, .int .u64 0, .string ⟨#[]⟩]] 8 rfl (by kernel_rfl) (by kernel_rfl) (by kernel_rfl) (by kernel_rfl) (by kernel_rfl) trivial) ?_
  intro W base args ds gs before hval hW _ hwt hL _
  exact law_row 8 [.sl (.int .i64), .st 24 (.cons (.int .i64) (.cons (.int .i64) (.cons (.int .i64) .unit))), .st 112 (.cons (.sl (.int .i64)) (.cons (.st 88 (.cons (.int .i64) (.cons (.int .i64) (.cons (.int .i64) (.cons (.int .i64) (.cons (.int .i64) (.cons (.int .i64) (.cons (.int .i64) (.cons (.int .i64) (.cons (.int .u64) (.cons .str .unit))))))))))) .unit))] ok3 rfl Try.laidOut (by kernel_rfl) (by kernel_rfl) rfl (by kernel_rfl) (tb := 4) (by kernel_rfl)
    (fun ds hd => by
      match ds, hd with
      | [d1, d2, d3], _ => rfl) glob_ok hval hW hwt

theorem StackValid_holds : Rows.StackValidSaid :=
  OpenClaim.holds_of_wide 3 Try.f3 rfl rfl rfl rfl rfl rfl rfl ⟨rfl, rfl, rfl, rfl, rfl⟩ rfl rfl rfl rfl rfl (by kernel_rfl) Try.func3 (by kernel_rfl)
    (of_decide_eq_true (by kernel_rfl)) (by unfold Func.isWrapper; first | (rw [if_pos (by decide +kernel)]; kernel_rfl) | (rw [if_neg (by decide +kernel)]; exact ⟨rfl, rfl⟩))
    (fun os started H enc _ => by
      show ReturnsInHanded {} Try.checked os 3 .any (fun w args => Rows.stackValidSpec.pre enc Try.prog Try.f3 Rows.stackValidRow.domain false w args ∧ sizedMet enc Try.prog Try.f3 (OpenSpec.ofChange Rows.stackValidSpec) false w args) (Rows.stackValidSpec.post enc Try.prog Try.f3 false true false false)
      have h := StackValid_lifted os started H enc
      simp only [and_true] at h
      exact h)
end Go.Proofs.Ytahapkbjmfmaaaa
