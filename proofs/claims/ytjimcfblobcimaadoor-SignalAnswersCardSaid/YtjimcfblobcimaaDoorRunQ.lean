/- Chapter 25: proved is what the rows share; no conditions but those that each theorem states. -/
import Derived.Test.YtjimcfblobcimaaDoorRunC
import Derived.Test.YtjimcfblobcimaaDoorRows
import Derived.LaidLaws
import Derived.SevenTiedAt
set_option linter.unusedVariables false
set_option linter.unusedSimpArgs false
/- Chapter 25: what the rows share. -/
namespace Go.Proofs.YtjimcfblobcimaaDoor
open Go.ChangeShapes Go.WideShapes Go.ChangeAt Go.RowKit Go.Abs Go.Abs.C25

theorem Tryd.own : ownKnob Tryd.prog.godebug = none := by kernel_rfl
theorem Tryd.laidOut : laidOutB Tryd.prog = true := by kernel_rfl
theorem Tryd.table2 : Tryd.prog.globalNamed "bitcast/signal.zero" = some 2 := by kernel_rfl
theorem Tryd.tableType2 : (Tryd.prog.globals[2]?).map (·.type) = some 59 := by kernel_rfl
theorem Tryd.table1 : Tryd.prog.globalNamed "bitcast/signal.number" = some 1 := by kernel_rfl
theorem Tryd.tableType1 : (Tryd.prog.globals[1]?).map (·.type) = some 59 := by kernel_rfl
theorem Tryd.table0 : Tryd.prog.globalNamed "bitcast/signal.first" = some 0 := by kernel_rfl
theorem Tryd.tableType0 : (Tryd.prog.globals[0]?).map (·.type) = some 59 := by kernel_rfl
theorem Tryd.table3 : Tryd.prog.globalNamed "bitcast/signal.group" = some 3 := by kernel_rfl
theorem Tryd.tableType3 : (Tryd.prog.globals[3]?).map (·.type) = some 59 := by kernel_rfl

/-- The settled world, but the variables are laid. -/
noncomputable def laidWorld (os : Os) : World :=
  let w0 := World.holding Tryd.prog os ⟨#[], #[], []⟩
  let w0 := { w0 with heap := w0.heap.modify 2 fun
      | .cells _ t frozen => .cells #[.int .i64 0, .int .i64 0] t frozen
      | o => o }
  let w0 := { w0 with heap := w0.heap.modify 1 fun
      | .cells _ t frozen => .cells #[.int .i64 0, .int .i64 1000000] t frozen
      | o => o }
  let w0 := { w0 with heap := w0.heap.modify 0 fun
      | .cells _ t frozen => .cells #[.int .i64 1, .int .i64 1000000] t frozen
      | o => o }
  let w0 := { w0 with heap := w0.heap.modify 3 fun
      | .cells _ t frozen => .cells #[.int .i64 1, .int .i64 99] t frozen
      | o => o }
  w0
set_option maxRecDepth 100000 in
theorem laid_met (os : Os) (args : Array Value) : laidMet Tryd.prog Rows.signalDecodesRow.laid ((laidWorld os).forCall (fun _ _ => 0) ⟨#[], args, []⟩).memory :=
  laidMet_of_run (ps := [.cell 2 0, .cell 2 1, .cell 1 0, .cell 1 1, .cell 0 0, .cell 0 1, .cell 3 0, .cell 3 1]) 8 (by kernel_rfl) (by kernel_rfl) (by kernel_rfl)

set_option maxRecDepth 100000 in
theorem glob_ok {W : World} (h : laidMet Tryd.prog Rows.signalDecodesRow.laid W) : ∀ g k l, (B.glob g) = some (k, l) → l.length ≤ cellN W g ∧ ∀ j (h : j < l.length), W.cell? ⟨g, j, none⟩ = some (.int k l[j]) ∧ k.has l[j] := by
  obtain ⟨ps, hps, _⟩ := h
  have key2 := laid_glob (k := .i64) (n := 5) (t := 59) hps Tryd.table2 Tryd.tableType2 (by kernel_rfl)
  obtain ⟨_, hps0⟩ := laid_rest hps
  have key1 := laid_glob (k := .i64) (n := 5) (t := 59) hps0 Tryd.table1 Tryd.tableType1 (by kernel_rfl)
  obtain ⟨_, hps01⟩ := laid_rest hps0
  have key0 := laid_glob (k := .i64) (n := 5) (t := 59) hps01 Tryd.table0 Tryd.tableType0 (by kernel_rfl)
  obtain ⟨_, hps012⟩ := laid_rest hps01
  have key3 := laid_glob (k := .i64) (n := 5) (t := 59) hps012 Tryd.table3 Tryd.tableType3 (by kernel_rfl)
  intro g k l hg
  have hg' : lookG gl g = some (k, l) := hg
  simp only [gl, lookG] at hg'
  cases hb0 : Nat.beq g 0 with
  | true =>
    simp only [hb0, cond_true, Option.some.injEq, Prod.mk.injEq] at hg'
    obtain ⟨rfl, rfl⟩ := hg'
    have := Nat.eq_of_beq_eq_true hb0
    subst this
    exact key0
  | false =>
  simp only [hb0, cond_false] at hg'
  cases hb1 : Nat.beq g 1 with
  | true =>
    simp only [hb1, cond_true, Option.some.injEq, Prod.mk.injEq] at hg'
    obtain ⟨rfl, rfl⟩ := hg'
    have := Nat.eq_of_beq_eq_true hb1
    subst this
    exact key1
  | false =>
  simp only [hb1, cond_false] at hg'
  cases hb2 : Nat.beq g 2 with
  | true =>
    simp only [hb2, cond_true, Option.some.injEq, Prod.mk.injEq] at hg'
    obtain ⟨rfl, rfl⟩ := hg'
    have := Nat.eq_of_beq_eq_true hb2
    subst this
    exact key2
  | false =>
  simp only [hb2, cond_false] at hg'
  cases hb3 : Nat.beq g 3 with
  | true =>
    simp only [hb3, cond_true, Option.some.injEq, Prod.mk.injEq] at hg'
    obtain ⟨rfl, rfl⟩ := hg'
    have := Nat.eq_of_beq_eq_true hb3
    subst this
    exact key3
  | false =>
  simp only [hb3, cond_false] at hg'
  cases hg'
end Go.Proofs.YtjimcfblobcimaaDoor
