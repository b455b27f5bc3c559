/- Proved is the tied card of the law ForwardPlanes: for every input the law returns true, and each argument reads as it did; the package variable that the row lists holds what the text lays, and the card ties that to the text. -/
import Derived.Test.YtmpfafdaadhabaaDoorRunQ
import Derived.Test.YtmpfafdaadhabaaDoorTie
import Derived.Test.YtmpfafdaadhabaaDoorCards
set_option linter.unusedVariables false
set_option linter.unusedSimpArgs false
namespace Go.Abs.C13
open Go Go.Abs
set_option maxRecDepth 20000
set_option linter.unusedVariables false
noncomputable def g5_s0 (a0 : Int) (a1 : ((Sp13.Tb × (Sp13.Pk × Unit)) × Sp13.Tp)) (a2 : ((List Int) × Sp13.Tp)) (a3 : (Int × Sp13.Tp)) (a4 : (Int × Sp13.Tp)) (a5 : (Int × Unit)) : (Option (Sum (Int × Unit) (Bool × ((Bool × Unit) × Unit)))) :=
  (bif (decide (a5.1 < (Int.ofNat (Sp13.fwd a1.1.1 a1.1.2.1).1.2.2.1.length))) then (Option.bind (bif ((decide (0 ≤ a5.1)) && (decide (a5.1 < (Int.ofNat (Sp13.fwd a1.1.1 a1.1.2.1).1.2.2.1.length)))) then (bif ((decide (0 ≤ a5.1)) && (decide (a5.1 < (Int.ofNat (Sp13.fwd a1.1.1 (a1.1.2.1.1, (a1.1.2.1.2.1, (a1.1.2.1.2.2.1, (a1.1.2.1.2.2.2.1, (a1.1.2.1.2.2.2.2.1, ((IntKind.wrap .i64 ((@Int.tmod a1.1.2.1.2.2.2.2.2.1 8) + (IntKind.wrap .i64 (8 * (IntKind.wrap .i64 (@Int.tmod a0 120)))))), (a4.1, (a3.1, (a1.1.2.1.2.2.2.2.2.2.2.2.1, (a2.1, ()))))))))))).1.2.2.1.length)))) then (bif (!(!(decide ((List.getD (Sp13.fwd a1.1.1 a1.1.2.1).1.2.2.1 (Int.toNat a5.1) (0, (([], ((0, (0, (0, (0, (0, (0, (0, (0, (0, ([], ())))))))))), ())), ()))).1 = (List.getD (Sp13.fwd a1.1.1 (a1.1.2.1.1, (a1.1.2.1.2.1, (a1.1.2.1.2.2.1, (a1.1.2.1.2.2.2.1, (a1.1.2.1.2.2.2.2.1, ((IntKind.wrap .i64 ((@Int.tmod a1.1.2.1.2.2.2.2.2.1 8) + (IntKind.wrap .i64 (8 * (IntKind.wrap .i64 (@Int.tmod a0 120)))))), (a4.1, (a3.1, (a1.1.2.1.2.2.2.2.2.2.2.2.1, (a2.1, ()))))))))))).1.2.2.1 (Int.toNat a5.1) (0, (([], ((0, (0, (0, (0, (0, (0, (0, (0, (0, ([], ())))))))))), ())), ()))).1)))) then (bif (!(!(decide ((List.getD (Sp13.fwd a1.1.1 a1.1.2.1).1.2.2.1 (Int.toNat a5.1) (0, (([], ((0, (0, (0, (0, (0, (0, (0, (0, (0, ([], ())))))))))), ())), ()))).1 = (List.getD (Sp13.fwd a1.1.1 (a1.1.2.1.1, (a1.1.2.1.2.1, (a1.1.2.1.2.2.1, (a1.1.2.1.2.2.2.1, (a1.1.2.1.2.2.2.2.1, ((IntKind.wrap .i64 ((@Int.tmod a1.1.2.1.2.2.2.2.2.1 8) + (IntKind.wrap .i64 (8 * (IntKind.wrap .i64 (@Int.tmod a0 120)))))), (a4.1, (a3.1, (a1.1.2.1.2.2.2.2.2.2.2.2.1, (a2.1, ()))))))))))).1.2.2.1 (Int.toNat a5.1) (0, (([], ((0, (0, (0, (0, (0, (0, (0, (0, (0, ([], ())))))))))), ())), ()))).1)))) then (bif (!(!(decide ((List.getD (Sp13.fwd a1.1.1 a1.1.2.1).1.2.2.1 (Int.toNat a5.1) (0, (([], ((0, (0, (0, (0, (0, (0, (0, (0, (0, ([], ())))))))))), ())), ()))).1 = (List.getD (Sp13.fwd a1.1.1 (a1.1.2.1.1, (a1.1.2.1.2.1, (a1.1.2.1.2.2.1, (a1.1.2.1.2.2.2.1, (a1.1.2.1.2.2.2.2.1, ((IntKind.wrap .i64 ((@Int.tmod a1.1.2.1.2.2.2.2.2.1 8) + (IntKind.wrap .i64 (8 * (IntKind.wrap .i64 (@Int.tmod a0 120)))))), (a4.1, (a3.1, (a1.1.2.1.2.2.2.2.2.2.2.2.1, (a2.1, ()))))))))))).1.2.2.1 (Int.toNat a5.1) (0, (([], ((0, (0, (0, (0, (0, (0, (0, (0, (0, ([], ())))))))))), ())), ()))).1)))) then (bif (!(!(decide ((List.getD (Sp13.fwd a1.1.1 a1.1.2.1).1.2.2.1 (Int.toNat a5.1) (0, (([], ((0, (0, (0, (0, (0, (0, (0, (0, (0, ([], ())))))))))), ())), ()))).1 = (List.getD (Sp13.fwd a1.1.1 (a1.1.2.1.1, (a1.1.2.1.2.1, (a1.1.2.1.2.2.1, (a1.1.2.1.2.2.2.1, (a1.1.2.1.2.2.2.2.1, ((IntKind.wrap .i64 ((@Int.tmod a1.1.2.1.2.2.2.2.2.1 8) + (IntKind.wrap .i64 (8 * (IntKind.wrap .i64 (@Int.tmod a0 120)))))), (a4.1, (a3.1, (a1.1.2.1.2.2.2.2.2.2.2.2.1, (a2.1, ()))))))))))).1.2.2.1 (Int.toNat a5.1) (0, (([], ((0, (0, (0, (0, (0, (0, (0, (0, (0, ([], ())))))))))), ())), ()))).1)))) then (bif ((decide (0 ≤ a5.1)) && (decide (a5.1 < (Int.ofNat (Sp13.fwd a1.1.1 a1.1.2.1).1.2.2.1.length)))) then (bif (!(!(decide ((List.getD (Sp13.fwd a1.1.1 a1.1.2.1).1.2.2.1 (Int.toNat a5.1) (0, (([], ((0, (0, (0, (0, (0, (0, (0, (0, (0, ([], ())))))))))), ())), ()))).1 = (List.getD (Sp13.fwd a1.1.1 (a1.1.2.1.1, (a1.1.2.1.2.1, (a1.1.2.1.2.2.1, (a1.1.2.1.2.2.2.1, (a1.1.2.1.2.2.2.2.1, ((IntKind.wrap .i64 ((@Int.tmod a1.1.2.1.2.2.2.2.2.1 8) + (IntKind.wrap .i64 (8 * (IntKind.wrap .i64 (@Int.tmod a0 120)))))), (a4.1, (a3.1, (a1.1.2.1.2.2.2.2.2.2.2.2.1, (a2.1, ()))))))))))).1.2.2.1 (Int.toNat a5.1) (0, (([], ((0, (0, (0, (0, (0, (0, (0, (0, (0, ([], ())))))))))), ())), ()))).1)))) then (bif (!(!(decide ((List.getD (Sp13.fwd a1.1.1 a1.1.2.1).1.2.2.1 (Int.toNat a5.1) (0, (([], ((0, (0, (0, (0, (0, (0, (0, (0, (0, ([], ())))))))))), ())), ()))).1 = (List.getD (Sp13.fwd a1.1.1 (a1.1.2.1.1, (a1.1.2.1.2.1, (a1.1.2.1.2.2.1, (a1.1.2.1.2.2.2.1, (a1.1.2.1.2.2.2.2.1, ((IntKind.wrap .i64 ((@Int.tmod a1.1.2.1.2.2.2.2.2.1 8) + (IntKind.wrap .i64 (8 * (IntKind.wrap .i64 (@Int.tmod a0 120)))))), (a4.1, (a3.1, (a1.1.2.1.2.2.2.2.2.2.2.2.1, (a2.1, ()))))))))))).1.2.2.1 (Int.toNat a5.1) (0, (([], ((0, (0, (0, (0, (0, (0, (0, (0, (0, ([], ())))))))))), ())), ()))).1)))) then (bif (!(!(decide ((List.getD (Sp13.fwd a1.1.1 a1.1.2.1).1.2.2.1 (Int.toNat a5.1) (0, (([], ((0, (0, (0, (0, (0, (0, (0, (0, (0, ([], ())))))))))), ())), ()))).1 = (List.getD (Sp13.fwd a1.1.1 (a1.1.2.1.1, (a1.1.2.1.2.1, (a1.1.2.1.2.2.1, (a1.1.2.1.2.2.2.1, (a1.1.2.1.2.2.2.2.1, ((IntKind.wrap .i64 ((@Int.tmod a1.1.2.1.2.2.2.2.2.1 8) + (IntKind.wrap .i64 (8 * (IntKind.wrap .i64 (@Int.tmod a0 120)))))), (a4.1, (a3.1, (a1.1.2.1.2.2.2.2.2.2.2.2.1, (a2.1, ()))))))))))).1.2.2.1 (Int.toNat a5.1) (0, (([], ((0, (0, (0, (0, (0, (0, (0, (0, (0, ([], ())))))))))), ())), ()))).1)))) then (bif (!(!(decide ((List.getD (Sp13.fwd a1.1.1 a1.1.2.1).1.2.2.1 (Int.toNat a5.1) (0, (([], ((0, (0, (0, (0, (0, (0, (0, (0, (0, ([], ())))))))))), ())), ()))).1 = (List.getD (Sp13.fwd a1.1.1 (a1.1.2.1.1, (a1.1.2.1.2.1, (a1.1.2.1.2.2.1, (a1.1.2.1.2.2.2.1, (a1.1.2.1.2.2.2.2.1, ((IntKind.wrap .i64 ((@Int.tmod a1.1.2.1.2.2.2.2.2.1 8) + (IntKind.wrap .i64 (8 * (IntKind.wrap .i64 (@Int.tmod a0 120)))))), (a4.1, (a3.1, (a1.1.2.1.2.2.2.2.2.2.2.2.1, (a2.1, ()))))))))))).1.2.2.1 (Int.toNat a5.1) (0, (([], ((0, (0, (0, (0, (0, (0, (0, (0, (0, ([], ())))))))))), ())), ()))).1)))) then (bif (!(!(decide ((List.getD (Sp13.fwd a1.1.1 a1.1.2.1).1.2.2.1 (Int.toNat a5.1) (0, (([], ((0, (0, (0, (0, (0, (0, (0, (0, (0, ([], ())))))))))), ())), ()))).1 = (List.getD (Sp13.fwd a1.1.1 (a1.1.2.1.1, (a1.1.2.1.2.1, (a1.1.2.1.2.2.1, (a1.1.2.1.2.2.2.1, (a1.1.2.1.2.2.2.2.1, ((IntKind.wrap .i64 ((@Int.tmod a1.1.2.1.2.2.2.2.2.1 8) + (IntKind.wrap .i64 (8 * (IntKind.wrap .i64 (@Int.tmod a0 120)))))), (a4.1, (a3.1, (a1.1.2.1.2.2.2.2.2.2.2.2.1, (a2.1, ()))))))))))).1.2.2.1 (Int.toNat a5.1) (0, (([], ((0, (0, (0, (0, (0, (0, (0, (0, (0, ([], ())))))))))), ())), ()))).1)))) then (bif (!(!(decide ((List.getD (Sp13.fwd a1.1.1 a1.1.2.1).1.2.2.1 (Int.toNat a5.1) (0, (([], ((0, (0, (0, (0, (0, (0, (0, (0, (0, ([], ())))))))))), ())), ()))).1 = (List.getD (Sp13.fwd a1.1.1 (a1.1.2.1.1, (a1.1.2.1.2.1, (a1.1.2.1.2.2.1, (a1.1.2.1.2.2.2.1, (a1.1.2.1.2.2.2.2.1, ((IntKind.wrap .i64 ((@Int.tmod a1.1.2.1.2.2.2.2.2.1 8) + (IntKind.wrap .i64 (8 * (IntKind.wrap .i64 (@Int.tmod a0 120)))))), (a4.1, (a3.1, (a1.1.2.1.2.2.2.2.2.2.2.2.1, (a2.1, ()))))))))))).1.2.2.1 (Int.toNat a5.1) (0, (([], ((0, (0, (0, (0, (0, (0, (0, (0, (0, ([], ())))))))))), ())), ()))).1)))) then (bif (!(!(decide ((List.getD (Sp13.fwd a1.1.1 a1.1.2.1).1.2.2.1 (Int.toNat a5.1) (0, (([], ((0, (0, (0, (0, (0, (0, (0, (0, (0, ([], ())))))))))), ())), ()))).1 = (List.getD (Sp13.fwd a1.1.1 (a1.1.2.1.1, (a1.1.2.1.2.1, (a1.1.2.1.2.2.1, (a1.1.2.1.2.2.2.1, (a1.1.2.1.2.2.2.2.1, ((IntKind.wrap .i64 ((@Int.tmod a1.1.2.1.2.2.2.2.2.1 8) + (IntKind.wrap .i64 (8 * (IntKind.wrap .i64 (@Int.tmod a0 120)))))), (a4.1, (a3.1, (a1.1.2.1.2.2.2.2.2.2.2.2.1, (a2.1, ()))))))))))).1.2.2.1 (Int.toNat a5.1) (0, (([], ((0, (0, (0, (0, (0, (0, (0, (0, (0, ([], ())))))))))), ())), ()))).1)))) then (bif (!(!(decide ((List.getD (Sp13.fwd a1.1.1 a1.1.2.1).1.2.2.1 (Int.toNat a5.1) (0, (([], ((0, (0, (0, (0, (0, (0, (0, (0, (0, ([], ())))))))))), ())), ()))).1 = (List.getD (Sp13.fwd a1.1.1 (a1.1.2.1.1, (a1.1.2.1.2.1, (a1.1.2.1.2.2.1, (a1.1.2.1.2.2.2.1, (a1.1.2.1.2.2.2.2.1, ((IntKind.wrap .i64 ((@Int.tmod a1.1.2.1.2.2.2.2.2.1 8) + (IntKind.wrap .i64 (8 * (IntKind.wrap .i64 (@Int.tmod a0 120)))))), (a4.1, (a3.1, (a1.1.2.1.2.2.2.2.2.2.2.2.1, (a2.1, ()))))))))))).1.2.2.1 (Int.toNat a5.1) (0, (([], ((0, (0, (0, (0, (0, (0, (0, (0, (0, ([], ())))))))))), ())), ()))).1)))) then (bif ((decide (0 ≤ a5.1)) && (decide (a5.1 < (Int.ofNat (Sp13.fwd a1.1.1 (a1.1.2.1.1, (a1.1.2.1.2.1, (a1.1.2.1.2.2.1, (a1.1.2.1.2.2.2.1, (a1.1.2.1.2.2.2.2.1, ((IntKind.wrap .i64 ((@Int.tmod a1.1.2.1.2.2.2.2.2.1 8) + (IntKind.wrap .i64 (8 * (IntKind.wrap .i64 (@Int.tmod a0 120)))))), (a4.1, (a3.1, (a1.1.2.1.2.2.2.2.2.2.2.2.1, (a2.1, ()))))))))))).1.2.2.1.length)))) then (bif (!(!(decide ((List.getD (Sp13.fwd a1.1.1 a1.1.2.1).1.2.2.1 (Int.toNat a5.1) (0, (([], ((0, (0, (0, (0, (0, (0, (0, (0, (0, ([], ())))))))))), ())), ()))).1 = (List.getD (Sp13.fwd a1.1.1 (a1.1.2.1.1, (a1.1.2.1.2.1, (a1.1.2.1.2.2.1, (a1.1.2.1.2.2.2.1, (a1.1.2.1.2.2.2.2.1, ((IntKind.wrap .i64 ((@Int.tmod a1.1.2.1.2.2.2.2.2.1 8) + (IntKind.wrap .i64 (8 * (IntKind.wrap .i64 (@Int.tmod a0 120)))))), (a4.1, (a3.1, (a1.1.2.1.2.2.2.2.2.2.2.2.1, (a2.1, ()))))))))))).1.2.2.1 (Int.toNat a5.1) (0, (([], ((0, (0, (0, (0, (0, (0, (0, (0, (0, ([], ())))))))))), ())), ()))).1)))) then (bif (!(!(decide ((List.getD (Sp13.fwd a1.1.1 a1.1.2.1).1.2.2.1 (Int.toNat a5.1) (0, (([], ((0, (0, (0, (0, (0, (0, (0, (0, (0, ([], ())))))))))), ())), ()))).1 = (List.getD (Sp13.fwd a1.1.1 (a1.1.2.1.1, (a1.1.2.1.2.1, (a1.1.2.1.2.2.1, (a1.1.2.1.2.2.2.1, (a1.1.2.1.2.2.2.2.1, ((IntKind.wrap .i64 ((@Int.tmod a1.1.2.1.2.2.2.2.2.1 8) + (IntKind.wrap .i64 (8 * (IntKind.wrap .i64 (@Int.tmod a0 120)))))), (a4.1, (a3.1, (a1.1.2.1.2.2.2.2.2.2.2.2.1, (a2.1, ()))))))))))).1.2.2.1 (Int.toNat a5.1) (0, (([], ((0, (0, (0, (0, (0, (0, (0, (0, (0, ([], ())))))))))), ())), ()))).1)))) then (bif (!(!(decide ((List.getD (Sp13.fwd a1.1.1 a1.1.2.1).1.2.2.1 (Int.toNat a5.1) (0, (([], ((0, (0, (0, (0, (0, (0, (0, (0, (0, ([], ())))))))))), ())), ()))).1 = (List.getD (Sp13.fwd a1.1.1 (a1.1.2.1.1, (a1.1.2.1.2.1, (a1.1.2.1.2.2.1, (a1.1.2.1.2.2.2.1, (a1.1.2.1.2.2.2.2.1, ((IntKind.wrap .i64 ((@Int.tmod a1.1.2.1.2.2.2.2.2.1 8) + (IntKind.wrap .i64 (8 * (IntKind.wrap .i64 (@Int.tmod a0 120)))))), (a4.1, (a3.1, (a1.1.2.1.2.2.2.2.2.2.2.2.1, (a2.1, ()))))))))))).1.2.2.1 (Int.toNat a5.1) (0, (([], ((0, (0, (0, (0, (0, (0, (0, (0, (0, ([], ())))))))))), ())), ()))).1)))) then (bif (!(!(decide ((List.getD (Sp13.fwd a1.1.1 a1.1.2.1).1.2.2.1 (Int.toNat a5.1) (0, (([], ((0, (0, (0, (0, (0, (0, (0, (0, (0, ([], ())))))))))), ())), ()))).1 = (List.getD (Sp13.fwd a1.1.1 (a1.1.2.1.1, (a1.1.2.1.2.1, (a1.1.2.1.2.2.1, (a1.1.2.1.2.2.2.1, (a1.1.2.1.2.2.2.2.1, ((IntKind.wrap .i64 ((@Int.tmod a1.1.2.1.2.2.2.2.2.1 8) + (IntKind.wrap .i64 (8 * (IntKind.wrap .i64 (@Int.tmod a0 120)))))), (a4.1, (a3.1, (a1.1.2.1.2.2.2.2.2.2.2.2.1, (a2.1, ()))))))))))).1.2.2.1 (Int.toNat a5.1) (0, (([], ((0, (0, (0, (0, (0, (0, (0, (0, (0, ([], ())))))))))), ())), ()))).1)))) then (bif (!(!(decide ((List.getD (Sp13.fwd a1.1.1 a1.1.2.1).1.2.2.1 (Int.toNat a5.1) (0, (([], ((0, (0, (0, (0, (0, (0, (0, (0, (0, ([], ())))))))))), ())), ()))).1 = (List.getD (Sp13.fwd a1.1.1 (a1.1.2.1.1, (a1.1.2.1.2.1, (a1.1.2.1.2.2.1, (a1.1.2.1.2.2.2.1, (a1.1.2.1.2.2.2.2.1, ((IntKind.wrap .i64 ((@Int.tmod a1.1.2.1.2.2.2.2.2.1 8) + (IntKind.wrap .i64 (8 * (IntKind.wrap .i64 (@Int.tmod a0 120)))))), (a4.1, (a3.1, (a1.1.2.1.2.2.2.2.2.2.2.2.1, (a2.1, ()))))))))))).1.2.2.1 (Int.toNat a5.1) (0, (([], ((0, (0, (0, (0, (0, (0, (0, (0, (0, ([], ())))))))))), ())), ()))).1)))) then (bif (!(!(decide ((List.getD (Sp13.fwd a1.1.1 a1.1.2.1).1.2.2.1 (Int.toNat a5.1) (0, (([], ((0, (0, (0, (0, (0, (0, (0, (0, (0, ([], ())))))))))), ())), ()))).1 = (List.getD (Sp13.fwd a1.1.1 (a1.1.2.1.1, (a1.1.2.1.2.1, (a1.1.2.1.2.2.1, (a1.1.2.1.2.2.2.1, (a1.1.2.1.2.2.2.2.1, ((IntKind.wrap .i64 ((@Int.tmod a1.1.2.1.2.2.2.2.2.1 8) + (IntKind.wrap .i64 (8 * (IntKind.wrap .i64 (@Int.tmod a0 120)))))), (a4.1, (a3.1, (a1.1.2.1.2.2.2.2.2.2.2.2.1, (a2.1, ()))))))))))).1.2.2.1 (Int.toNat a5.1) (0, (([], ((0, (0, (0, (0, (0, (0, (0, (0, (0, ([], ())))))))))), ())), ()))).1)))) then (some ((!(decide ((List.getD (Sp13.fwd a1.1.1 a1.1.2.1).1.2.2.1 (Int.toNat a5.1) (0, (([], ((0, (0, (0, (0, (0, (0, (0, (0, (0, ([], ())))))))))), ())), ()))).2.1.2.1.2.2.2.2.2.2.2.2.1 = (List.getD (Sp13.fwd a1.1.1 (a1.1.2.1.1, (a1.1.2.1.2.1, (a1.1.2.1.2.2.1, (a1.1.2.1.2.2.2.1, (a1.1.2.1.2.2.2.2.1, ((IntKind.wrap .i64 ((@Int.tmod a1.1.2.1.2.2.2.2.2.1 8) + (IntKind.wrap .i64 (8 * (IntKind.wrap .i64 (@Int.tmod a0 120)))))), (a4.1, (a3.1, (a1.1.2.1.2.2.2.2.2.2.2.2.1, (a2.1, ()))))))))))).1.2.2.1 (Int.toNat a5.1) (0, (([], ((0, (0, (0, (0, (0, (0, (0, (0, (0, ([], ())))))))))), ())), ()))).2.1.2.1.2.2.2.2.2.2.2.2.1))), ())) else none) else none) else none) else none) else none) else none) else none) else none) else none) else none) else none) else none) else none) else none) else none) else none) else none) else none) else none) else (bif (!(decide ((List.getD (Sp13.fwd a1.1.1 a1.1.2.1).1.2.2.1 (Int.toNat a5.1) (0, (([], ((0, (0, (0, (0, (0, (0, (0, (0, (0, ([], ())))))))))), ())), ()))).1 = (List.getD (Sp13.fwd a1.1.1 (a1.1.2.1.1, (a1.1.2.1.2.1, (a1.1.2.1.2.2.1, (a1.1.2.1.2.2.2.1, (a1.1.2.1.2.2.2.2.1, ((IntKind.wrap .i64 ((@Int.tmod a1.1.2.1.2.2.2.2.2.1 8) + (IntKind.wrap .i64 (8 * (IntKind.wrap .i64 (@Int.tmod a0 120)))))), (a4.1, (a3.1, (a1.1.2.1.2.2.2.2.2.2.2.2.1, (a2.1, ()))))))))))).1.2.2.1 (Int.toNat a5.1) (0, (([], ((0, (0, (0, (0, (0, (0, (0, (0, (0, ([], ())))))))))), ())), ()))).1))) then (bif (!(decide ((List.getD (Sp13.fwd a1.1.1 a1.1.2.1).1.2.2.1 (Int.toNat a5.1) (0, (([], ((0, (0, (0, (0, (0, (0, (0, (0, (0, ([], ())))))))))), ())), ()))).1 = (List.getD (Sp13.fwd a1.1.1 (a1.1.2.1.1, (a1.1.2.1.2.1, (a1.1.2.1.2.2.1, (a1.1.2.1.2.2.2.1, (a1.1.2.1.2.2.2.2.1, ((IntKind.wrap .i64 ((@Int.tmod a1.1.2.1.2.2.2.2.2.1 8) + (IntKind.wrap .i64 (8 * (IntKind.wrap .i64 (@Int.tmod a0 120)))))), (a4.1, (a3.1, (a1.1.2.1.2.2.2.2.2.2.2.2.1, (a2.1, ()))))))))))).1.2.2.1 (Int.toNat a5.1) (0, (([], ((0, (0, (0, (0, (0, (0, (0, (0, (0, ([], ())))))))))), ())), ()))).1))) then (bif (!(decide ((List.getD (Sp13.fwd a1.1.1 a1.1.2.1).1.2.2.1 (Int.toNat a5.1) (0, (([], ((0, (0, (0, (0, (0, (0, (0, (0, (0, ([], ())))))))))), ())), ()))).1 = (List.getD (Sp13.fwd a1.1.1 (a1.1.2.1.1, (a1.1.2.1.2.1, (a1.1.2.1.2.2.1, (a1.1.2.1.2.2.2.1, (a1.1.2.1.2.2.2.2.1, ((IntKind.wrap .i64 ((@Int.tmod a1.1.2.1.2.2.2.2.2.1 8) + (IntKind.wrap .i64 (8 * (IntKind.wrap .i64 (@Int.tmod a0 120)))))), (a4.1, (a3.1, (a1.1.2.1.2.2.2.2.2.2.2.2.1, (a2.1, ()))))))))))).1.2.2.1 (Int.toNat a5.1) (0, (([], ((0, (0, (0, (0, (0, (0, (0, (0, (0, ([], ())))))))))), ())), ()))).1))) then (bif (!(decide ((List.getD (Sp13.fwd a1.1.1 a1.1.2.1).1.2.2.1 (Int.toNat a5.1) (0, (([], ((0, (0, (0, (0, (0, (0, (0, (0, (0, ([], ())))))))))), ())), ()))).1 = (List.getD (Sp13.fwd a1.1.1 (a1.1.2.1.1, (a1.1.2.1.2.1, (a1.1.2.1.2.2.1, (a1.1.2.1.2.2.2.1, (a1.1.2.1.2.2.2.2.1, ((IntKind.wrap .i64 ((@Int.tmod a1.1.2.1.2.2.2.2.2.1 8) + (IntKind.wrap .i64 (8 * (IntKind.wrap .i64 (@Int.tmod a0 120)))))), (a4.1, (a3.1, (a1.1.2.1.2.2.2.2.2.2.2.2.1, (a2.1, ()))))))))))).1.2.2.1 (Int.toNat a5.1) (0, (([], ((0, (0, (0, (0, (0, (0, (0, (0, (0, ([], ())))))))))), ())), ()))).1))) then (bif (!(decide ((List.getD (Sp13.fwd a1.1.1 a1.1.2.1).1.2.2.1 (Int.toNat a5.1) (0, (([], ((0, (0, (0, (0, (0, (0, (0, (0, (0, ([], ())))))))))), ())), ()))).1 = (List.getD (Sp13.fwd a1.1.1 (a1.1.2.1.1, (a1.1.2.1.2.1, (a1.1.2.1.2.2.1, (a1.1.2.1.2.2.2.1, (a1.1.2.1.2.2.2.2.1, ((IntKind.wrap .i64 ((@Int.tmod a1.1.2.1.2.2.2.2.2.1 8) + (IntKind.wrap .i64 (8 * (IntKind.wrap .i64 (@Int.tmod a0 120)))))), (a4.1, (a3.1, (a1.1.2.1.2.2.2.2.2.2.2.2.1, (a2.1, ()))))))))))).1.2.2.1 (Int.toNat a5.1) (0, (([], ((0, (0, (0, (0, (0, (0, (0, (0, (0, ([], ())))))))))), ())), ()))).1))) then (bif (!(decide ((List.getD (Sp13.fwd a1.1.1 a1.1.2.1).1.2.2.1 (Int.toNat a5.1) (0, (([], ((0, (0, (0, (0, (0, (0, (0, (0, (0, ([], ())))))))))), ())), ()))).1 = (List.getD (Sp13.fwd a1.1.1 (a1.1.2.1.1, (a1.1.2.1.2.1, (a1.1.2.1.2.2.1, (a1.1.2.1.2.2.2.1, (a1.1.2.1.2.2.2.2.1, ((IntKind.wrap .i64 ((@Int.tmod a1.1.2.1.2.2.2.2.2.1 8) + (IntKind.wrap .i64 (8 * (IntKind.wrap .i64 (@Int.tmod a0 120)))))), (a4.1, (a3.1, (a1.1.2.1.2.2.2.2.2.2.2.2.1, (a2.1, ()))))))))))).1.2.2.1 (Int.toNat a5.1) (0, (([], ((0, (0, (0, (0, (0, (0, (0, (0, (0, ([], ())))))))))), ())), ()))).1))) then (bif (!(decide ((List.getD (Sp13.fwd a1.1.1 a1.1.2.1).1.2.2.1 (Int.toNat a5.1) (0, (([], ((0, (0, (0, (0, (0, (0, (0, (0, (0, ([], ())))))))))), ())), ()))).1 = (List.getD (Sp13.fwd a1.1.1 (a1.1.2.1.1, (a1.1.2.1.2.1, (a1.1.2.1.2.2.1, (a1.1.2.1.2.2.2.1, (a1.1.2.1.2.2.2.2.1, ((IntKind.wrap .i64 ((@Int.tmod a1.1.2.1.2.2.2.2.2.1 8) + (IntKind.wrap .i64 (8 * (IntKind.wrap .i64 (@Int.tmod a0 120)))))), (a4.1, (a3.1, (a1.1.2.1.2.2.2.2.2.2.2.2.1, (a2.1, ()))))))))))).1.2.2.1 (Int.toNat a5.1) (0, (([], ((0, (0, (0, (0, (0, (0, (0, (0, (0, ([], ())))))))))), ())), ()))).1))) then (bif (!(decide ((List.getD (Sp13.fwd a1.1.1 a1.1.2.1).1.2.2.1 (Int.toNat a5.1) (0, (([], ((0, (0, (0, (0, (0, (0, (0, (0, (0, ([], ())))))))))), ())), ()))).1 = (List.getD (Sp13.fwd a1.1.1 (a1.1.2.1.1, (a1.1.2.1.2.1, (a1.1.2.1.2.2.1, (a1.1.2.1.2.2.2.1, (a1.1.2.1.2.2.2.2.1, ((IntKind.wrap .i64 ((@Int.tmod a1.1.2.1.2.2.2.2.2.1 8) + (IntKind.wrap .i64 (8 * (IntKind.wrap .i64 (@Int.tmod a0 120)))))), (a4.1, (a3.1, (a1.1.2.1.2.2.2.2.2.2.2.2.1, (a2.1, ()))))))))))).1.2.2.1 (Int.toNat a5.1) (0, (([], ((0, (0, (0, (0, (0, (0, (0, (0, (0, ([], ())))))))))), ())), ()))).1))) then (bif (!(decide ((List.getD (Sp13.fwd a1.1.1 a1.1.2.1).1.2.2.1 (Int.toNat a5.1) (0, (([], ((0, (0, (0, (0, (0, (0, (0, (0, (0, ([], ())))))))))), ())), ()))).1 = (List.getD (Sp13.fwd a1.1.1 (a1.1.2.1.1, (a1.1.2.1.2.1, (a1.1.2.1.2.2.1, (a1.1.2.1.2.2.2.1, (a1.1.2.1.2.2.2.2.1, ((IntKind.wrap .i64 ((@Int.tmod a1.1.2.1.2.2.2.2.2.1 8) + (IntKind.wrap .i64 (8 * (IntKind.wrap .i64 (@Int.tmod a0 120)))))), (a4.1, (a3.1, (a1.1.2.1.2.2.2.2.2.2.2.2.1, (a2.1, ()))))))))))).1.2.2.1 (Int.toNat a5.1) (0, (([], ((0, (0, (0, (0, (0, (0, (0, (0, (0, ([], ())))))))))), ())), ()))).1))) then (bif (!(decide ((List.getD (Sp13.fwd a1.1.1 a1.1.2.1).1.2.2.1 (Int.toNat a5.1) (0, (([], ((0, (0, (0, (0, (0, (0, (0, (0, (0, ([], ())))))))))), ())), ()))).1 = (List.getD (Sp13.fwd a1.1.1 (a1.1.2.1.1, (a1.1.2.1.2.1, (a1.1.2.1.2.2.1, (a1.1.2.1.2.2.2.1, (a1.1.2.1.2.2.2.2.1, ((IntKind.wrap .i64 ((@Int.tmod a1.1.2.1.2.2.2.2.2.1 8) + (IntKind.wrap .i64 (8 * (IntKind.wrap .i64 (@Int.tmod a0 120)))))), (a4.1, (a3.1, (a1.1.2.1.2.2.2.2.2.2.2.2.1, (a2.1, ()))))))))))).1.2.2.1 (Int.toNat a5.1) (0, (([], ((0, (0, (0, (0, (0, (0, (0, (0, (0, ([], ())))))))))), ())), ()))).1))) then (bif (!(decide ((List.getD (Sp13.fwd a1.1.1 a1.1.2.1).1.2.2.1 (Int.toNat a5.1) (0, (([], ((0, (0, (0, (0, (0, (0, (0, (0, (0, ([], ())))))))))), ())), ()))).1 = (List.getD (Sp13.fwd a1.1.1 (a1.1.2.1.1, (a1.1.2.1.2.1, (a1.1.2.1.2.2.1, (a1.1.2.1.2.2.2.1, (a1.1.2.1.2.2.2.2.1, ((IntKind.wrap .i64 ((@Int.tmod a1.1.2.1.2.2.2.2.2.1 8) + (IntKind.wrap .i64 (8 * (IntKind.wrap .i64 (@Int.tmod a0 120)))))), (a4.1, (a3.1, (a1.1.2.1.2.2.2.2.2.2.2.2.1, (a2.1, ()))))))))))).1.2.2.1 (Int.toNat a5.1) (0, (([], ((0, (0, (0, (0, (0, (0, (0, (0, (0, ([], ())))))))))), ())), ()))).1))) then (bif (!(decide ((List.getD (Sp13.fwd a1.1.1 a1.1.2.1).1.2.2.1 (Int.toNat a5.1) (0, (([], ((0, (0, (0, (0, (0, (0, (0, (0, (0, ([], ())))))))))), ())), ()))).1 = (List.getD (Sp13.fwd a1.1.1 (a1.1.2.1.1, (a1.1.2.1.2.1, (a1.1.2.1.2.2.1, (a1.1.2.1.2.2.2.1, (a1.1.2.1.2.2.2.2.1, ((IntKind.wrap .i64 ((@Int.tmod a1.1.2.1.2.2.2.2.2.1 8) + (IntKind.wrap .i64 (8 * (IntKind.wrap .i64 (@Int.tmod a0 120)))))), (a4.1, (a3.1, (a1.1.2.1.2.2.2.2.2.2.2.2.1, (a2.1, ()))))))))))).1.2.2.1 (Int.toNat a5.1) (0, (([], ((0, (0, (0, (0, (0, (0, (0, (0, (0, ([], ())))))))))), ())), ()))).1))) then (bif (!(decide ((List.getD (Sp13.fwd a1.1.1 a1.1.2.1).1.2.2.1 (Int.toNat a5.1) (0, (([], ((0, (0, (0, (0, (0, (0, (0, (0, (0, ([], ())))))))))), ())), ()))).1 = (List.getD (Sp13.fwd a1.1.1 (a1.1.2.1.1, (a1.1.2.1.2.1, (a1.1.2.1.2.2.1, (a1.1.2.1.2.2.2.1, (a1.1.2.1.2.2.2.2.1, ((IntKind.wrap .i64 ((@Int.tmod a1.1.2.1.2.2.2.2.2.1 8) + (IntKind.wrap .i64 (8 * (IntKind.wrap .i64 (@Int.tmod a0 120)))))), (a4.1, (a3.1, (a1.1.2.1.2.2.2.2.2.2.2.2.1, (a2.1, ()))))))))))).1.2.2.1 (Int.toNat a5.1) (0, (([], ((0, (0, (0, (0, (0, (0, (0, (0, (0, ([], ())))))))))), ())), ()))).1))) then (bif (!(decide ((List.getD (Sp13.fwd a1.1.1 a1.1.2.1).1.2.2.1 (Int.toNat a5.1) (0, (([], ((0, (0, (0, (0, (0, (0, (0, (0, (0, ([], ())))))))))), ())), ()))).1 = (List.getD (Sp13.fwd a1.1.1 (a1.1.2.1.1, (a1.1.2.1.2.1, (a1.1.2.1.2.2.1, (a1.1.2.1.2.2.2.1, (a1.1.2.1.2.2.2.2.1, ((IntKind.wrap .i64 ((@Int.tmod a1.1.2.1.2.2.2.2.2.1 8) + (IntKind.wrap .i64 (8 * (IntKind.wrap .i64 (@Int.tmod a0 120)))))), (a4.1, (a3.1, (a1.1.2.1.2.2.2.2.2.2.2.2.1, (a2.1, ()))))))))))).1.2.2.1 (Int.toNat a5.1) (0, (([], ((0, (0, (0, (0, (0, (0, (0, (0, (0, ([], ())))))))))), ())), ()))).1))) then (bif (!(decide ((List.getD (Sp13.fwd a1.1.1 a1.1.2.1).1.2.2.1 (Int.toNat a5.1) (0, (([], ((0, (0, (0, (0, (0, (0, (0, (0, (0, ([], ())))))))))), ())), ()))).1 = (List.getD (Sp13.fwd a1.1.1 (a1.1.2.1.1, (a1.1.2.1.2.1, (a1.1.2.1.2.2.1, (a1.1.2.1.2.2.2.1, (a1.1.2.1.2.2.2.2.1, ((IntKind.wrap .i64 ((@Int.tmod a1.1.2.1.2.2.2.2.2.1 8) + (IntKind.wrap .i64 (8 * (IntKind.wrap .i64 (@Int.tmod a0 120)))))), (a4.1, (a3.1, (a1.1.2.1.2.2.2.2.2.2.2.2.1, (a2.1, ()))))))))))).1.2.2.1 (Int.toNat a5.1) (0, (([], ((0, (0, (0, (0, (0, (0, (0, (0, (0, ([], ())))))))))), ())), ()))).1))) then (bif (!(decide ((List.getD (Sp13.fwd a1.1.1 a1.1.2.1).1.2.2.1 (Int.toNat a5.1) (0, (([], ((0, (0, (0, (0, (0, (0, (0, (0, (0, ([], ())))))))))), ())), ()))).1 = (List.getD (Sp13.fwd a1.1.1 (a1.1.2.1.1, (a1.1.2.1.2.1, (a1.1.2.1.2.2.1, (a1.1.2.1.2.2.2.1, (a1.1.2.1.2.2.2.2.1, ((IntKind.wrap .i64 ((@Int.tmod a1.1.2.1.2.2.2.2.2.1 8) + (IntKind.wrap .i64 (8 * (IntKind.wrap .i64 (@Int.tmod a0 120)))))), (a4.1, (a3.1, (a1.1.2.1.2.2.2.2.2.2.2.2.1, (a2.1, ()))))))))))).1.2.2.1 (Int.toNat a5.1) (0, (([], ((0, (0, (0, (0, (0, (0, (0, (0, (0, ([], ())))))))))), ())), ()))).1))) then (bif (!(decide ((List.getD (Sp13.fwd a1.1.1 a1.1.2.1).1.2.2.1 (Int.toNat a5.1) (0, (([], ((0, (0, (0, (0, (0, (0, (0, (0, (0, ([], ())))))))))), ())), ()))).1 = (List.getD (Sp13.fwd a1.1.1 (a1.1.2.1.1, (a1.1.2.1.2.1, (a1.1.2.1.2.2.1, (a1.1.2.1.2.2.2.1, (a1.1.2.1.2.2.2.2.1, ((IntKind.wrap .i64 ((@Int.tmod a1.1.2.1.2.2.2.2.2.1 8) + (IntKind.wrap .i64 (8 * (IntKind.wrap .i64 (@Int.tmod a0 120)))))), (a4.1, (a3.1, (a1.1.2.1.2.2.2.2.2.2.2.2.1, (a2.1, ()))))))))))).1.2.2.1 (Int.toNat a5.1) (0, (([], ((0, (0, (0, (0, (0, (0, (0, (0, (0, ([], ())))))))))), ())), ()))).1))) then (some (true, ())) else none) else none) else none) else none) else none) else none) else none) else none) else none) else none) else none) else none) else none) else none) else none) else none) else none)) else none) else none) (fun y6 => (bif y6.1 then (some (.inr (true, ((false, ()), ())))) else (some (.inl ((IntKind.wrap .i64 (a5.1 + 1)), ())))))) else (some (.inr (false, ((false, ()), ())))))
noncomputable def g5 (a0 : (List Int)) (a1 : Int) : (Option (Bool × Unit)) :=
  (Option.bind (Sp13.on (Sp13.wf (Sp13.tape a0)) (((Sp13.fitT (Sp13.tape a0)).1.1, ((Sp13.fitT (Sp13.tape a0)).1.2, ())), (Sp13.fitT (Sp13.tape a0)).2)) (fun y2 => (Option.bind (Sp13.on (((Sp13.wf y2.2) && (decide ((0 : Int) ≤ (5 : Int)))) && (decide ((5 : Int) ≤ (1000 : Int)))) (Sp13.text y2.2 5)) (fun y3 => (Option.bind (Sp13.on (Sp13.wf y3.2) (Sp13.next y3.2 8)) (fun y4 => (Option.bind (Sp13.on (Sp13.wf y4.2) (Sp13.next y4.2 257)) (fun y5 => (Option.bind (bif (!(!(decide ((Sp13.fwd y2.1.1 y2.1.2.1).2.1 = (Sp13.fwd y2.1.1 (y2.1.2.1.1, (y2.1.2.1.2.1, (y2.1.2.1.2.2.1, (y2.1.2.1.2.2.2.1, (y2.1.2.1.2.2.2.2.1, ((IntKind.wrap .i64 ((@Int.tmod y2.1.2.1.2.2.2.2.2.1 8) + (IntKind.wrap .i64 (8 * (IntKind.wrap .i64 (@Int.tmod a1 120)))))), (y5.1, (y4.1, (y2.1.2.1.2.2.2.2.2.2.2.2.1, (y3.1, ()))))))))))).2.1)))) then (bif (!(!(decide ((Sp13.fwd y2.1.1 y2.1.2.1).1.1 = (Sp13.fwd y2.1.1 (y2.1.2.1.1, (y2.1.2.1.2.1, (y2.1.2.1.2.2.1, (y2.1.2.1.2.2.2.1, (y2.1.2.1.2.2.2.2.1, ((IntKind.wrap .i64 ((@Int.tmod y2.1.2.1.2.2.2.2.2.1 8) + (IntKind.wrap .i64 (8 * (IntKind.wrap .i64 (@Int.tmod a1 120)))))), (y5.1, (y4.1, (y2.1.2.1.2.2.2.2.2.2.2.2.1, (y3.1, ()))))))))))).1.1)))) then (bif (!(!(decide ((Sp13.fwd y2.1.1 y2.1.2.1).1.2.1 = (Sp13.fwd y2.1.1 (y2.1.2.1.1, (y2.1.2.1.2.1, (y2.1.2.1.2.2.1, (y2.1.2.1.2.2.2.1, (y2.1.2.1.2.2.2.2.1, ((IntKind.wrap .i64 ((@Int.tmod y2.1.2.1.2.2.2.2.2.1 8) + (IntKind.wrap .i64 (8 * (IntKind.wrap .i64 (@Int.tmod a1 120)))))), (y5.1, (y4.1, (y2.1.2.1.2.2.2.2.2.2.2.2.1, (y3.1, ()))))))))))).1.2.1)))) then (some ((!(decide ((Int.ofNat (Sp13.fwd y2.1.1 y2.1.2.1).1.2.2.1.length) = (Int.ofNat (Sp13.fwd y2.1.1 (y2.1.2.1.1, (y2.1.2.1.2.1, (y2.1.2.1.2.2.1, (y2.1.2.1.2.2.2.1, (y2.1.2.1.2.2.2.2.1, ((IntKind.wrap .i64 ((@Int.tmod y2.1.2.1.2.2.2.2.2.1 8) + (IntKind.wrap .i64 (8 * (IntKind.wrap .i64 (@Int.tmod a1 120)))))), (y5.1, (y4.1, (y2.1.2.1.2.2.2.2.2.2.2.2.1, (y3.1, ()))))))))))).1.2.2.1.length)))), ())) else (some (true, ()))) else (some (true, ()))) else (some (true, ()))) (fun y6 => (bif y6.1 then (some (false, ())) else (Option.bind (Loop (@g5_s0 a1 y2 y3 y4 y5) (0, ())) (fun y7 => (bif y7.1 then (some y7.2.1) else (some (true, ()))))))))))))))))
theorem g5_eq (a0 : (List Int)) (a1 : Int) : (evF (fun _ _ => Loop) E5 G5 Go.Proofs.Tryd.f5 plan5 c5 ((), (a0, (a1, ())))).den = g5 a0 a1 := by kernel_rfl
end Go.Abs.C13

namespace Go.Abs.C13
open Go Go.Proofs Sp13
open Sp13.Bt
set_option maxRecDepth 100000
def kb (c : Cp) : Int × Int := (c.1, c.2.1.2.1.2.2.2.2.2.2.2.2.1)
structure Alike (p p' : Pk) : Prop where
  pl : plane p = plane p'
  st : Sp13.st p = Sp13.st p'
  tl : Sp13.tl p = Sp13.tl p'
  bt : bt p = bt p'
theorem sim_step {t : Tb} {p p' : Pk} (h : FwOk t p) (h' : FwOk t p') (A : Alike p p') {s s' : Int × Int × Int × List Cp} (hI : Inv t p s) (hI' : Inv t p' s') (hU : U (bt p)) (e1 : s.1 = s'.1) (e2 : s.2.1 = s'.2.1) (e3 : s.2.2.1 = s'.2.2.1) (e4 : s.2.2.2.map kb = s'.2.2.2.map kb) (h0 : s.1 ≠ 0) :
    (fstep t p s).1 = (fstep t p' s').1 ∧ (fstep t p s).2.1 = (fstep t p' s').2.1 ∧ (fstep t p s).2.2.1 = (fstep t p' s').2.2.1 ∧ (fstep t p s).2.2.2.map kb = (fstep t p' s').2.2.2.map kb := by
  obtain ⟨k, hk, hb, n1, f1⟩ := fstep_eq h hI hU h0
  obtain ⟨k', hk', hb', n2, f2⟩ := fstep_eq h' hI' (A.bt ▸ hU) (e1 ▸ h0)
  have ek : k' = k := by rw [e1, n2] at n1; omega
  subst ek
  have eh : hp t p' k' = hp t p k' := by
    show hopB t (plane p') (Sp13.st p') _ _ = hopB t (plane p) (Sp13.st p) _ _
    rw [A.pl, A.st]
  rw [f1, f2, eh, ← e1, ← e2, ← e3, ← A.pl, ← A.st, ← A.tl]
  cases decide (hp t p k' = 0) with
  | true => exact ⟨rfl, rfl, rfl, e4⟩
  | false =>
    simp only [cond_false]
    cases decide (hp t p k' = t.1) with
    | true => exact ⟨rfl, rfl, rfl, e4⟩
    | false =>
      simp only [cond_false]
      cases decide (Sp13.tl p = 0) with
      | true => exact ⟨rfl, rfl, rfl, e4⟩
      | false =>
        simp only [Bool.not_false, cond_true]
        refine ⟨trivial, trivial, trivial, ?_⟩
        rw [List.map_append, List.map_append, e4]
        rfl
theorem sim_all {t : Tb} {p p' : Pk} (h : FwOk t p) (h' : FwOk t p') (A : Alike p p') (hU : U (bt p)) : ∀ m (s s' : Int × Int × Int × List Cp), Inv t p s → Inv t p' s' → s.1 = s'.1 → s.2.1 = s'.2.1 → s.2.2.1 = s'.2.2.1 → s.2.2.2.map kb = s'.2.2.2.map kb →
    (fwdN t p m s).2.1 = (fwdN t p' m s').2.1 ∧ (fwdN t p m s).2.2.1 = (fwdN t p' m s').2.2.1 ∧ (fwdN t p m s).2.2.2.map kb = (fwdN t p' m s').2.2.2.map kb
  | 0, _, _, _, _, _, e2, e3, e4 => ⟨e2, e3, e4⟩
  | m + 1, s, s', hI, hI', e1, e2, e3, e4 => by
    unfold fwdN
    by_cases h0 : s.1 = 0
    · rw [dT h0, dT (e1 ▸ h0 : s'.1 = 0)]
      exact ⟨e2, e3, e4⟩
    · rw [dF h0, dF (show ¬ s'.1 = 0 from e1 ▸ h0)]
      simp only [cond_false]
      obtain ⟨q1, q2, q3, q4⟩ := sim_step h h' A hI hI' hU e1 e2 e3 e4 h0
      exact sim_all h h' A hU m _ _ (inv_bit h hI hU h0).1 (inv_bit h' hI' (A.bt ▸ hU) (e1 ▸ h0)).1 q1 q2 q3 q4
abbrev enP (a en : Int) : Int := IntKind.wrap .i64 (Int.tmod en 8 + IntKind.wrap .i64 (8 * IntKind.wrap .i64 (Int.tmod a 120)))
abbrev othP (a : Int) (q : Pk) (tx : List Int) (p i : Int) : Pk := (q.1, (q.2.1, (q.2.2.1, (q.2.2.2.1, (q.2.2.2.2.1, (enP a q.2.2.2.2.2.1, (i, (p, (q.2.2.2.2.2.2.2.2.1, (tx, ()))))))))))
theorem enP_in {a en : Int} (ha : 0 ≤ a ∧ a < 256) (he : 0 ≤ en ∧ en ≤ 1023) : 0 ≤ enP a en ∧ enP a en ≤ 1023 ∧ enP a en % 8 = en % 8 := by
  unfold enP
  rw [tmod_nn he.1, tmod_nn ha.1, wi64 (n := a % 120) (by omega) (by omega), wi64 (n := 8 * (a % 120)) (by omega) (by omega), wi64 (by omega) (by omega)]
  omega
theorem loop5 {a0 : Int} {y : ((Tb × Pk × Unit) × Tp)} {y3 : List Int × Tp} {y4 y5 : Int × Tp} {o o' : Oc} (e : fwd y.1.1 y.1.2.1 = (o, 0, ())) (e' : fwd y.1.1 (othP a0 y.1.2.1 y3.1 y4.1 y5.1) = (o', 0, ())) (hm : o.2.2.1.map kb = o'.2.2.1.map kb) (hl : o.2.2.1.length ≤ 1000) :
    Loop (g5_s0 a0 y y3 y4 y5) ((0 : Int), ()) = some (false, ((false, ()), ())) := by
  have hlen : o'.2.2.1.length = o.2.2.1.length := by
    have := congrArg List.length hm
    simpa using this.symm
  have hkb : ∀ k, k < o.2.2.1.length → kb (o.2.2.1.getD k zC) = kb (o'.2.2.1.getD k zC) := fun k hk => by
    have h1 : (o.2.2.1.map kb).getD k (kb zC) = (o'.2.2.1.map kb).getD k (kb zC) := by rw [hm]
    rw [List.getD_eq_getElem?_getD, List.getD_eq_getElem?_getD, List.getElem?_map, List.getElem?_map, List.getElem?_eq_getElem hk, List.getElem?_eq_getElem (show k < o'.2.2.1.length by omega)] at h1
    rw [getD_ix hk, getD_ix (show k < o'.2.2.1.length by omega)]
    simpa using h1
  refine Loop_seq (step := g5_s0 a0 y y3 y4 y5) (fun k => ((k : Int), ())) o.2.2.1.length _ (fun k hk => ?_) ?_ 0 (Nat.zero_le _)
  · have hq := hkb k hk
    unfold kb at hq
    injection hq with h1 h2
    unfold g5_s0
    rw [e, e']
    simp only [Int.ofNat_eq_natCast, Int.toNat_natCast]
    rw [dT (show (k : Int) < (o.2.2.1.length : Int) by omega), dT (show (k : Int) < (o'.2.2.1.length : Int) by omega), dT (show (0 : Int) ≤ (k : Int) by omega), wi64n (by omega), dT h1, dT h2]
    rfl
  · unfold g5_s0
    rw [e]
    simp only [Int.ofNat_eq_natCast]
    rw [dF (show ¬ (o.2.2.1.length : Int) < (o.2.2.1.length : Int) by omega)]
    rfl
theorem g5_ok (a0 : (List Int)) (a1 : Int) (r0 : (Ty.sl (.int .i64)).ok a0) (r1 : IntKind.u8.has a1) : g5 a0 a1 = some (true, ()) := by
  unfold g5
  have hw := tape_wf a0
  have ha := has_u8 r1
  rw [on_w hw]
  simp only [Option.bind_some]
  obtain ⟨h, hU, hE, w1⟩ := fit_ok hw
  generalize fitT (Sp13.tape a0) = r at h hU hE w1
  rw [on_true (show (wf r.2 && decide ((0 : Int) ≤ 5) && decide ((5 : Int) ≤ 1000)) = true by rw [w1]; rfl)]
  simp only [Option.bind_some]
  have w2 := text_wf2 (n := 5) w1
  have l2 := text_len (n := 5) w1 (by omega)
  generalize text r.2 5 = y3 at w2 l2 ⊢
  rw [on_w w2]
  simp only [Option.bind_some]
  have w3 := next_wf (n := 8) w2
  have l3 := next_range (t := y3.2) (n := 8) (by omega)
  generalize next y3.2 8 = y4 at w3 l3 ⊢
  rw [on_w w3]
  simp only [Option.bind_some]
  have l4 := next_range (t := y4.2) (n := 257) (by omega)
  generalize next y4.2 257 = y5 at l4 ⊢
  obtain ⟨f1, f2, f3, f4, f5, f6, f7, f8, f9⟩ := fit_iff.1 h.k
  obtain ⟨n1, n2, n3⟩ := enP_in ha f6
  have hk' : validK (othP a1 r.1.2 y3.1 y4.1 y5.1) = true := fit_iff.2 ⟨f1, f2, f3, f4, f5, ⟨n1, n2⟩, ⟨l4.1, by show y5.1 ≤ 256; omega⟩, ⟨l3.1, by show y4.1 ≤ 7; omega⟩, by show y3.1.length ≤ 64; omega⟩
  have h' : FwOk r.1.1 (othP a1 r.1.2 y3.1 y4.1 y5.1) := ⟨h.T, hk', h.n⟩
  have hE' : fwdE r.1.1 (othP a1 r.1.2 y3.1 y4.1 y5.1) = 0 := by
    unfold fwdE at hE ⊢
    rw [h.k] at hE
    rw [hk']
    exact hE
  have A : Alike r.1.2 (othP a1 r.1.2 y3.1 y4.1 y5.1) := ⟨by
    unfold plane
    rw [h.k, hk']
    exact n3.symm, rfl, rfl, rfl⟩
  obtain ⟨q1, q2, q3⟩ := sim_all h h' A hU 64 (bt r.1.2, 0, 0, []) (bt r.1.2, 0, 0, []) (inv_init hU) (inv_init (p := othP a1 r.1.2 y3.1 y4.1 y5.1) hU) rfl rfl rfl rfl
  have e : fwd r.1.1 r.1.2 = (fwd0 r.1.1 r.1.2, 0, ()) := by unfold fwd; rw [hE]; rfl
  have e' : fwd r.1.1 (othP a1 r.1.2 y3.1 y4.1 y5.1) = (fwd0 r.1.1 (othP a1 r.1.2 y3.1 y4.1 y5.1), 0, ()) := by unfold fwd; rw [hE']; rfl
  have q1 : (fwd0 r.1.1 r.1.2).1 = (fwd0 r.1.1 (othP a1 r.1.2 y3.1 y4.1 y5.1)).1 := q1
  have q2 : (fwd0 r.1.1 r.1.2).2.1 = (fwd0 r.1.1 (othP a1 r.1.2 y3.1 y4.1 y5.1)).2.1 := q2
  have q3 : (fwd0 r.1.1 r.1.2).2.2.1.map kb = (fwd0 r.1.1 (othP a1 r.1.2 y3.1 y4.1 y5.1)).2.2.1.map kb := q3
  have hlen : (fwd0 r.1.1 r.1.2).2.2.1.length ≤ 99 := by
    obtain ⟨o, eo, D⟩ := fwd_done h hU hE
    rw [e] at eo
    have : fwd0 r.1.1 r.1.2 = o := congrArg Prod.fst eo
    rw [this]
    exact D.len h
  have q4 : Int.ofNat (fwd0 r.1.1 r.1.2).2.2.1.length = Int.ofNat (fwd0 r.1.1 (othP a1 r.1.2 y3.1 y4.1 y5.1)).2.2.1.length := by
    have := congrArg List.length q3
    simp only [List.length_map] at this
    rw [this]
  have hL := loop5 (a0 := a1) (y := ((r.1.1, (r.1.2, ())), r.2)) (y3 := y3) (y4 := y4) (y5 := y5) e e' q3 (by omega)
  rw [hL, e, e']
  rw [dT (show (fwd0 r.1.1 r.1.2, (0 : Int), ()).2.1 = (fwd0 r.1.1 (othP a1 r.1.2 y3.1 y4.1 y5.1), (0 : Int), ()).2.1 from rfl), dT q1, dT q2, dT q4]
  rfl
end Go.Abs.C13

namespace Go.Abs.C13
open Go Go.Proofs
set_option maxRecDepth 100000
theorem ok5 : FunOk Tryd.prog B 5 c5 := glue L11 all11 plan5 Tryd.func5 (by kernel_rfl) (by
  rintro ⟨⟨⟩, a0, a1, ⟨⟩⟩ y r h
  exact (g5_eq a0 a1).trans ((g5_ok a0 a1 r.2.1 r.2.2.1).trans h))
end Go.Abs.C13

namespace Go.Proofs.YtmpfafdaadhabaaDoor
open Go.ChangeShapes Go.WideShapes Go.ChangeAt Go.RowKit Go.Abs Go.Abs.C13

set_option maxRecDepth 100000 in
theorem ForwardPlanes_lifted (os : Os) (started : os.Started) (H : Type) (enc : TypeId × Value → H) :
    ReturnsInHanded {} Tryd.checked os 5 .any (fun w args => (Rows.forwardPlanesSpec.pre enc Tryd.prog Tryd.f5 Rows.forwardPlanesRow.domain false w args ∧ laidMet Tryd.prog Rows.forwardPlanesRow.laid w) ∧ sizedMet enc Tryd.prog Tryd.f5 (OpenSpec.ofChange Rows.forwardPlanesSpec) false w args)
      (Rows.forwardPlanesSpec.post enc Tryd.prog Tryd.f5 false true false false) := by
  refine returnsInHanded_of_change_and (C := Tryd.checked) (X := fun w _ => laidMet Tryd.prog Rows.forwardPlanesRow.laid w) (fun _ _ _ hh h => h.of_heap hh) Tryd.own started (by kernel_rfl) Tryd.func5
    (ChangeSpec.witness_at (enc := enc) (C := Tryd.checked) (os := os) (X := fun w _ => laidMet Tryd.prog Rows.forwardPlanesRow.laid w) false (laidWorld os) #[.slice none 0 0, .int .u8 0] 8 rfl (by kernel_rfl) (by kernel_rfl) (by kernel_rfl) (by kernel_rfl) (by kernel_rfl) (laid_met os _)) ?_
  intro W base args ds gs before hval hW _ hwt hL _
  exact law_row 8 [.sl (.int .i64), .int .u8] ok5 rfl Tryd.laidOut (by kernel_rfl) (by kernel_rfl) rfl (by kernel_rfl) (tb := 4) (by kernel_rfl)
    (fun ds hd => by
      match ds, hd with
      | [d1, d2], _ => rfl) (glob_ok hL) hval hW hwt

set_option maxRecDepth 100000 in
theorem ForwardPlanes_holds : Rows.ForwardPlanesSaid :=
  OpenClaim.holds_of_wide 5 Tryd.f5 rfl rfl rfl rfl rfl rfl rfl ⟨rfl, rfl, rfl, rfl, rfl⟩ rfl rfl rfl rfl rfl (by kernel_rfl) Tryd.func5 (by kernel_rfl)
    (of_decide_eq_true (by kernel_rfl)) (by unfold Func.isWrapper; first | (rw [if_pos (by decide +kernel)]; kernel_rfl) | (rw [if_neg (by decide +kernel)]; exact ⟨rfl, rfl⟩))
    (fun os started H enc _ => ForwardPlanes_lifted os started H enc)

set_option maxRecDepth 100000 in
theorem ForwardPlanes_card : Rows.ForwardPlanesCardSaid :=
  Claim7.holds_tied_plain_at .later [] [.data] true (true, "2a7623a7a1813104f3ae94582018a11af263d4e88501241f85eded4d736cb0d7") false
    ForwardPlanes_holds (fun _ h => by cases h) (by kernel_rfl) (fun _ h => by cases h) forwardPlanes_row_tie rfl ⟨rfl, rfl⟩ (by kernel_rfl) rfl
    (fun f fn hf hfn => by
      obtain rfl : f = 5 := Option.some.inj ((show Tryd.prog.funcNamed "bitcast/bitcastlaw13.ForwardPlanes" = some 5 by kernel_rfl).symm.trans hf) |>.symm
      obtain rfl : fn = Tryd.f5 := (Option.some.inj (Tryd.func5.symm.trans hfn)).symm
      exact ⟨by kernel_rfl, fun j t ht => by
        have : (Tryd.f5.params.toList.all fun t => !Tryd.prog.wantsStandIn t) = true := by kernel_rfl
        have := List.all_eq_true.1 this t (List.mem_of_getElem? (by simpa using ht))
        show Tryd.prog.wantsStandIn t = false
        simpa using this⟩)
    (by kernel_rfl)
end Go.Proofs.YtmpfafdaadhabaaDoor
