/- Proved is the tied card of the law DetectBoth: for every input the law returns true, and each argument reads as it did; the one package variable that the row lists holds what the text lays, and the card ties that to the text. -/
import Derived.Test.YtjhfiaheknhodaaDoorRunB
import Derived.Test.YtjhfiaheknhodaaDoorTie
import Derived.Test.YtjhfiaheknhodaaDoorCards
import Derived.LaidLaws
import Derived.SevenTiedAt
set_option linter.unusedVariables false
set_option linter.unusedSimpArgs false
/- Chapter 19: the rows and the cards. -/
namespace Go.Proofs.YtjhfiaheknhodaaDoor
open Go.ChangeShapes Go.WideShapes Go.ChangeAt Go.RowKit Go.Abs Go.Abs.C19

theorem Tryd.own : ownKnob Tryd.prog.godebug = none := by kernel_rfl
theorem Tryd.laidOut : laidOutB Tryd.prog = true := by kernel_rfl
theorem Tryd.after : Tryd.prog.globalNamed "bitcast/detect.after" = some 0 := by kernel_rfl
theorem Tryd.afterType : (Tryd.prog.globals[0]?).map (·.type) = some 55 := by kernel_rfl

/-- The settled world, but the table is laid. -/
noncomputable def laidWorld (os : Os) : World :=
  let w0 := World.holding Tryd.prog os ⟨#[], #[], []⟩
  { w0 with heap := w0.heap.modify 0 fun
      | .cells _ t frozen => .cells #[.int .i64 1, .int .i64 2, .int .i64 0, .int .i64 1, .int .i64 2, .int .i64 2, .int .i64 0, .int .i64 2, .int .i64 2] t frozen
      | o => o }
theorem laid_met (os : Os) (args : Array Value) : laidMet Tryd.prog Rows.detectBothRow.laid ((laidWorld os).forCall (fun _ _ => 0) ⟨#[], args, []⟩).memory :=
  laidMet_of_run (ps := [.cell 0 0, .cell 0 1, .cell 0 2, .cell 0 3, .cell 0 4, .cell 0 5, .cell 0 6, .cell 0 7, .cell 0 8]) 8 (by kernel_rfl) (by kernel_rfl) (by kernel_rfl)

theorem glob_ok {W : World} (h : laidMet Tryd.prog Rows.detectBothRow.laid W) : ∀ g k l, (B.glob g) = some (k, l) → l.length ≤ cellN W g ∧ ∀ j (h : j < l.length), W.cell? ⟨g, j, none⟩ = some (.int k l[j]) ∧ k.has l[j] := by
  obtain ⟨ps, hps, _⟩ := h
  have key := laid_glob (k := .i64) (n := 5) (t := 55) hps Tryd.after Tryd.afterType (by kernel_rfl)
  intro g k l hg
  have hg' : lookG gl g = some (k, l) := hg
  simp only [gl, lookG] at hg'
  cases hb : Nat.beq g 0 with
  | false => rw [hb] at hg'; cases hg'
  | true =>
    rw [hb] at hg'
    simp only [cond_true, Option.some.injEq, Prod.mk.injEq] at hg'
    obtain ⟨rfl, rfl⟩ := hg'
    have := Nat.eq_of_beq_eq_true hb
    subst this
    exact key

def tySes : Ty := .st 24 (.cons (.int .i64) (.cons (.int .i64) (.cons (.int .i64) .unit)))
theorem DetectBoth_lifted (os : Os) (started : os.Started) (H : Type) (enc : TypeId × Value → H) :
    ReturnsInHanded {} Tryd.checked os 3 .any (fun w args => (Rows.detectBothSpec.pre enc Tryd.prog Tryd.f3 Rows.detectBothRow.domain false w args ∧ laidMet Tryd.prog Rows.detectBothRow.laid w) ∧ sizedMet enc Tryd.prog Tryd.f3 (OpenSpec.ofChange Rows.detectBothSpec) false w args)
      (Rows.detectBothSpec.post enc Tryd.prog Tryd.f3 false true false false) := by
  refine returnsInHanded_of_change_and (C := Tryd.checked) (X := fun w _ => laidMet Tryd.prog Rows.detectBothRow.laid w) (fun _ _ _ hh h => h.of_heap hh) Tryd.own started (by kernel_rfl) Tryd.func3
    (ChangeSpec.witness_at (enc := enc) (C := Tryd.checked) (os := os) (X := fun w _ => laidMet Tryd.prog Rows.detectBothRow.laid w) false (laidWorld os) #[.slice none 0 0, .slice none 0 0, .agg #[.int .i64 0, .int .i64 0, .int .i64 0], .agg #[.int .i64 0, .int .i64 0, .int .i64 0]] 8 rfl (by kernel_rfl) (by kernel_rfl) (by kernel_rfl) (by kernel_rfl) (by kernel_rfl) (laid_met os _)) ?_
  intro W base args ds gs before hval hW _ hwt hL _
  exact law_row 8 [.sl (.int .i64), .sl (.int .i64), tySes, tySes] ok3 rfl Tryd.laidOut (by kernel_rfl) (by kernel_rfl) rfl (by kernel_rfl) (tb := 4) (by kernel_rfl)
    (fun ds hd => by
      match ds, hd with
      | [d1, d2, d3, d4], _ => rfl) (glob_ok hL) hval hW hwt

theorem DetectBoth_holds : Rows.DetectBothSaid :=
  OpenClaim.holds_of_wide 3 Tryd.f3 rfl rfl rfl rfl rfl rfl rfl ⟨rfl, rfl, rfl, rfl, rfl⟩ rfl rfl rfl rfl rfl (by kernel_rfl) Tryd.func3 (by kernel_rfl)
    (of_decide_eq_true (by kernel_rfl)) (by unfold Func.isWrapper; first | (rw [if_pos (by decide +kernel)]; kernel_rfl) | (rw [if_neg (by decide +kernel)]; exact ⟨rfl, rfl⟩))
    (fun os started H enc _ => DetectBoth_lifted os started H enc)

theorem DetectBoth_card : Rows.DetectBothCardSaid :=
  Claim7.holds_tied_plain_at .later [] [.data] true (true, "41819a6bbf9c94262bce982920466dd8b564ebe21df7eaf67676cbcd81f84611") false
    DetectBoth_holds (fun _ h => by cases h) (by kernel_rfl) (fun _ h => by cases h) detectBoth_row_tie rfl ⟨rfl, rfl⟩ (by kernel_rfl) rfl
    (fun f fn hf hfn => by
      obtain rfl : f = 3 := Option.some.inj ((show Tryd.prog.funcNamed "bitcast/bitcastlaw19.DetectBoth" = some 3 by kernel_rfl).symm.trans hf) |>.symm
      obtain rfl : fn = Tryd.f3 := (Option.some.inj (Tryd.func3.symm.trans hfn)).symm
      exact ⟨by kernel_rfl, fun j t ht => by
        have : (Tryd.f3.params.toList.all fun t => !Tryd.prog.wantsStandIn t) = true := by kernel_rfl
        have := List.all_eq_true.1 this t (List.mem_of_getElem? (by simpa using ht))
        show Tryd.prog.wantsStandIn t = false
        simpa using this⟩)
    (by kernel_rfl)
end Go.Proofs.YtjhfiaheknhodaaDoor
