/- Chapter 29 (sort): proved is, of more functions, that the evaluator comes to the printed term; the order of receipts; what the library's copy and the comparisons of receipts return; no conditions but those that each theorem states. -/
import Derived.Test.YtaabojpgjgeigaaDoorRunA
import Derived.Shelf.SlSortCmp.WholeK
import Derived.RegionTactic
import Derived.WalkSpells
import Derived.Lib.SliceRun
import Derived.Laws.Cells
import Derived.WalkKit
import Derived.Lib.Hide
import Derived.StillTactics
import Derived.Deep.RegionHeld3
set_option linter.unusedVariables false
set_option linter.unusedSimpArgs false
namespace Go.Abs.C29
open Go Go.Abs
set_option maxRecDepth 20000
set_option linter.unusedVariables false
noncomputable def g30_s0 (a0 : (@List (Int × (Int × Unit)))) (a1 : (Int × Unit)) : (Option (Sum (Int × Unit) (Bool × ((Bool × Unit) × Unit)))) :=
  (bif (decide (a1.1 < (Int.ofNat a0.length))) then (bif ((decide ((0 : Int) ≤ a1.1)) && (decide (a1.1 < (Int.ofNat a0.length)))) then (bif ((true && (decide ((0 : Int) ≤ a1.1))) && (decide (a1.1 ≤ (Int.ofNat a0.length)))) then (Option.bind (@Sp29.on (Bool × Unit) (@Sp29.none_ (Int × (Int × Unit)) (List.drop 0 (List.take (Int.toNat a1.1) a0))) (false, ())) (fun (y2 : (Bool × Unit)) => (Option.bind (bif (!(!(@Sp29.inside (List.getD ((List.getD a0 (Int.toNat a1.1) ((0 : Int), ((0 : Int), ()))) :: []) 0 ((0 : Int), ((0 : Int), ()))).2.1 (1 : Int) (256 : Int)))) then (bif (!(!(@Sp29.inside (List.getD ((List.getD a0 (Int.toNat a1.1) ((0 : Int), ((0 : Int), ()))) :: []) 0 ((0 : Int), ((0 : Int), ()))).2.1 (1 : Int) (256 : Int)))) then (bif (!(!(@Sp29.inside (List.getD ((List.getD a0 (Int.toNat a1.1) ((0 : Int), ((0 : Int), ()))) :: []) 0 ((0 : Int), ((0 : Int), ()))).2.1 (1 : Int) (256 : Int)))) then (bif (!(!(@Sp29.inside (List.getD ((List.getD a0 (Int.toNat a1.1) ((0 : Int), ((0 : Int), ()))) :: []) 0 ((0 : Int), ((0 : Int), ()))).2.1 (1 : Int) (256 : Int)))) then (bif (!(!(@Sp29.inside (List.getD ((List.getD a0 (Int.toNat a1.1) ((0 : Int), ((0 : Int), ()))) :: []) 0 ((0 : Int), ((0 : Int), ()))).2.1 (1 : Int) (256 : Int)))) then (bif (!(!(@Sp29.inside (List.getD ((List.getD a0 (Int.toNat a1.1) ((0 : Int), ((0 : Int), ()))) :: []) 0 ((0 : Int), ((0 : Int), ()))).1 (1 : Int) (99 : Int)))) then (bif (!(!(@Sp29.inside (List.getD ((List.getD a0 (Int.toNat a1.1) ((0 : Int), ((0 : Int), ()))) :: []) 0 ((0 : Int), ((0 : Int), ()))).1 (1 : Int) (99 : Int)))) then (bif (!y2.1) then (bif (!y2.1) then (bif (!y2.1) then (bif (decide (a1.1 > (0 : Int))) then (bif (decide (a1.1 > (0 : Int))) then (bif (decide (a1.1 > (0 : Int))) then (bif (decide (a1.1 > (0 : Int))) then (bif (decide (a1.1 > (0 : Int))) then (bif ((decide ((0 : Int) ≤ (IntKind.wrap Go.IntKind.i64 (a1.1 - (1 : Int))))) && (decide ((IntKind.wrap Go.IntKind.i64 (a1.1 - (1 : Int))) < (Int.ofNat a0.length)))) then (bif (decide (a1.1 > (0 : Int))) then (bif (decide (a1.1 > (0 : Int))) then (bif (decide (a1.1 > (0 : Int))) then (bif (decide (a1.1 > (0 : Int))) then (bif (decide (a1.1 > (0 : Int))) then (bif (!y2.1) then (bif (decide (a1.1 > (0 : Int))) then (bif (!y2.1) then (some ((decide ((List.getD a0 (Int.toNat (IntKind.wrap Go.IntKind.i64 (a1.1 - (1 : Int)))) ((0 : Int), ((0 : Int), ()))).2.1 ≥ (List.getD ((List.getD a0 (Int.toNat a1.1) ((0 : Int), ((0 : Int), ()))) :: []) 0 ((0 : Int), ((0 : Int), ()))).2.1)), ())) else none) else none) else none) else none) else none) else none) else none) else none) else none) else none) else none) else none) else none) else (bif (!(decide (a1.1 > (0 : Int)))) then (bif (!(decide (a1.1 > (0 : Int)))) then (bif (!(decide (a1.1 > (0 : Int)))) then (bif (!(decide (a1.1 > (0 : Int)))) then (bif (!(decide (a1.1 > (0 : Int)))) then (bif (!(decide (a1.1 > (0 : Int)))) then (bif (!(decide (a1.1 > (0 : Int)))) then (bif (!(decide (a1.1 > (0 : Int)))) then (bif (!(decide (a1.1 > (0 : Int)))) then (bif (!y2.1) then (bif (!(decide (a1.1 > (0 : Int)))) then (bif (!y2.1) then (some (false, ())) else none) else none) else none) else none) else none) else none) else none) else none) else none) else none) else none) else none)) else none) else none) else (bif y2.1 then (bif y2.1 then (bif y2.1 then (bif y2.1 then (some (true, ())) else none) else none) else none) else none)) else none) else (bif (!(@Sp29.inside (List.getD ((List.getD a0 (Int.toNat a1.1) ((0 : Int), ((0 : Int), ()))) :: []) 0 ((0 : Int), ((0 : Int), ()))).1 (1 : Int) (99 : Int))) then (some (true, ())) else none)) else none) else none) else none) else none) else (bif (!(@Sp29.inside (List.getD ((List.getD a0 (Int.toNat a1.1) ((0 : Int), ((0 : Int), ()))) :: []) 0 ((0 : Int), ((0 : Int), ()))).2.1 (1 : Int) (256 : Int))) then (bif (!(@Sp29.inside (List.getD ((List.getD a0 (Int.toNat a1.1) ((0 : Int), ((0 : Int), ()))) :: []) 0 ((0 : Int), ((0 : Int), ()))).2.1 (1 : Int) (256 : Int))) then (bif (!(@Sp29.inside (List.getD ((List.getD a0 (Int.toNat a1.1) ((0 : Int), ((0 : Int), ()))) :: []) 0 ((0 : Int), ((0 : Int), ()))).2.1 (1 : Int) (256 : Int))) then (bif (!(@Sp29.inside (List.getD ((List.getD a0 (Int.toNat a1.1) ((0 : Int), ((0 : Int), ()))) :: []) 0 ((0 : Int), ((0 : Int), ()))).2.1 (1 : Int) (256 : Int))) then (some (true, ())) else none) else none) else none) else none)) (fun (y3 : (Bool × Unit)) => (bif y3.1 then (some (.inr (true, ((false, ()), ())))) else (some (.inl ((IntKind.wrap Go.IntKind.i64 (a1.1 + (1 : Int))), ())))))))) else none) else none) else (some (.inr (false, ((false, ()), ())))))
noncomputable def g30 (a0 : Int) (a1 : Int) (a2 : (@List (Int × (Int × Unit)))) : (Option (Bool × Unit)) :=
  (Option.bind (bif (!(!(@Sp29.inside a0 (0 : Int) (7 : Int)))) then (bif (!(@Sp29.vlen a1)) then (bif (!(!(decide (a1 = (0 : Int))))) then (bif (!(decide ((Int.ofNat a2.length) > (0 : Int)))) then (some ((decide ((Int.ofNat a2.length) > (24 : Int))), ())) else (some (true, ()))) else (some (true, ()))) else (some ((decide ((Int.ofNat a2.length) > (24 : Int))), ()))) else (some (true, ()))) (fun (y3 : (Bool × Unit)) => (bif y3.1 then (some (false, ())) else (Option.bind (Loop (@g30_s0 a2) ((0 : Int), ())) (fun (y4 : (Bool × ((Bool × Unit) × Unit))) => (bif y4.1 then (some y4.2.1) else (some (true, ()))))))))
theorem g30_eq (a0 : Int) (a1 : Int) (a2 : (@List (Int × (Int × Unit)))) : (evF (fun _ _ => Loop) Go.Abs.C29.E30 Go.Abs.C29.G30 Go.Proofs.Tryd.f30 Go.Abs.C29.plan30 Go.Abs.C29.c30 ((), ((a0, (a1, (a2, ()))), ()))).den = g30 a0 a1 a2 := by kernel_rfl

noncomputable def g4 : (Option (Bool × Unit)) :=
  (Option.bind (@Sp29.on (((@List (Int × (Int × ((Int × (Int × Unit)) × ((@List Int) × Unit))))) × (Int × Unit)) × Unit) (((@Sp29.isP ((0 : Int), ((8 : Int), ((((3 : Int), ((2 : Int), ())) :: []), ())))) && (@Sp29.isM ((0 : Int), ((((7 : Int), ((4 : Int), (((2 : Int), ([], ())), ((9 : Int), ())))) :: []), ())))) && (@Sp29.isD ((3 : Int), ((1 : Int), ((0 : Int), ((0 : Int), ((8 : Int), ((0 : Int), ((0 : Int), ((0 : Int), ((0 : Int), ((2 : Int), (((1 : Int) :: ((4 : Int) :: ((120 : Int) :: []))), ()))))))))))))) (((bif (@Sp29.eqK ((1 : Int), ((0 : Int), ((0 : Int), ((8 : Int), ((0 : Int), ((0 : Int), ((0 : Int), ((0 : Int), ((2 : Int), (((1 : Int) :: ((4 : Int) :: ((120 : Int) :: []))), ())))))))))) (@Sp29.pk (7 : Int))) then [] else (((7 : Int), ((3 : Int), (((1 : Int), ((4 : Int), ())), (((120 : Int) :: []), ())))) :: [])), ((0 : Int), ())), ())) (fun (y0 : (((@List (Int × (Int × ((Int × (Int × Unit)) × ((@List Int) × Unit))))) × (Int × Unit)) × Unit)) => (Option.bind (@Sp29.on (((@List (Int × (Int × ((Int × (Int × Unit)) × ((@List Int) × Unit))))) × (Int × Unit)) × Unit) (((@Sp29.isP ((0 : Int), ((8 : Int), ((((3 : Int), ((2 : Int), ())) :: []), ())))) && (@Sp29.isM ((0 : Int), ((((7 : Int), ((4 : Int), (((2 : Int), ([], ())), ((9 : Int), ())))) :: []), ())))) && (@Sp29.isD ((3 : Int), ((1 : Int), ((0 : Int), ((0 : Int), ((8 : Int), ((0 : Int), ((0 : Int), ((0 : Int), ((0 : Int), ((2 : Int), (((7 : Int) :: ((4 : Int) :: ((120 : Int) :: []))), ()))))))))))))) (((bif (@Sp29.eqK ((1 : Int), ((0 : Int), ((0 : Int), ((8 : Int), ((0 : Int), ((0 : Int), ((0 : Int), ((0 : Int), ((2 : Int), (((7 : Int) :: ((4 : Int) :: ((120 : Int) :: []))), ())))))))))) (@Sp29.pk (7 : Int))) then [] else (((7 : Int), ((3 : Int), (((1 : Int), ((4 : Int), ())), (((120 : Int) :: []), ())))) :: [])), ((0 : Int), ())), ())) (fun (y1 : (((@List (Int × (Int × ((Int × (Int × Unit)) × ((@List Int) × Unit))))) × (Int × Unit)) × Unit)) => (Option.bind (bif (decide (y0.1.2.1 = (0 : Int))) then (bif (decide (y1.1.2.1 = (0 : Int))) then (bif (decide ((Int.ofNat y0.1.1.length) = (1 : Int))) then (bif (true && (decide ((0 : Int) < (Int.ofNat y0.1.1.length)))) then (bif ((decide ((List.getD y0.1.1 0 ((0 : Int), ((0 : Int), (((0 : Int), ((0 : Int), ())), ([], ()))))).1 = (7 : Int))) && ((decide ((List.getD y0.1.1 0 ((0 : Int), ((0 : Int), (((0 : Int), ((0 : Int), ())), ([], ()))))).2.1 = (3 : Int))) && ((decide ((List.getD y0.1.1 0 ((0 : Int), ((0 : Int), (((0 : Int), ((0 : Int), ())), ([], ()))))).2.2.1.1 = (1 : Int))) && ((decide ((List.getD y0.1.1 0 ((0 : Int), ((0 : Int), (((0 : Int), ((0 : Int), ())), ([], ()))))).2.2.1.2.1 = (4 : Int))) && ((@List.beq Int (@instBEqOfDecidableEq Int Int.instDecidableEq) (List.getD y0.1.1 0 ((0 : Int), ((0 : Int), (((0 : Int), ((0 : Int), ())), ([], ()))))).2.2.2.1 ((120 : Int) :: [])) && true))))) then (some ((decide ((Int.ofNat y1.1.1.length) = (0 : Int))), ())) else (some (false, ()))) else none) else (some (false, ()))) else (some (false, ()))) else (some (false, ()))) (fun (y2 : (Bool × Unit)) => (some y2)))))))
theorem g4_eq : (evF (fun _ _ => Loop) Go.Abs.C29.E4 Go.Abs.C29.G4 Go.Proofs.Tryd.f4 Go.Abs.C29.plan4 Go.Abs.C29.c4 ((), ())).den = g4  := by kernel_rfl

noncomputable def g10 (a0 : Int) (a1 : Int) (a2 : (@List (Int × (Int × Unit)))) (a3 : Int) (a4 : (@List (Int × (Int × ((Int × ((@List Int) × Unit)) × (Int × Unit)))))) (a5 : Int) (a6 : Int) (a7 : Int) (a8 : Int) (a9 : Int) (a10 : Int) (a11 : Int) (a12 : Int) (a13 : Int) (a14 : Int) (a15 : (@List Int)) : (Option (((@List (Int × (Int × ((Int × (Int × Unit)) × ((@List Int) × Unit))))) × (Int × Unit)) × Unit)) :=
  (Option.bind (@Sp29.on (Int × Unit) (@Sp29.isM (a3, (a4, ()))) ((0 : Int), ())) (fun (y16 : (Int × Unit)) => (bif (!(decide (y16.1 = (0 : Int)))) then (some (([], y16), ())) else (Option.bind (@Sp29.on (Bool × Unit) ((@Sp29.isP (a0, (a1, (a2, ())))) && (@Sp29.isD (a5, (a6, (a7, (a8, (a9, (a10, (a11, (a12, (a13, (a14, (a15, ()))))))))))))) (true, ())) (fun (y17 : (Bool × Unit)) => (bif (!y17.1) then (some (([], ((1 : Int), ())), ())) else (Option.bind (@Sp29.on (((Int × (Int × Unit)) × ((@List Int) × (Int × Unit))) × Unit) ((decide (a15 = ((1 : Int) :: ((4 : Int) :: ((120 : Int) :: []))))) || (decide (a15 = ((7 : Int) :: ((4 : Int) :: ((120 : Int) :: [])))))) ((((List.getD a15 0 (0 : Int)), ((4 : Int), ())), (((120 : Int) :: []), ((0 : Int), ()))), ())) (fun (y18 : (((Int × (Int × Unit)) × ((@List Int) × (Int × Unit))) × Unit)) => (bif (!(decide (y18.1.2.2.1 = (0 : Int)))) then (some (([], y18.1.2.2), ())) else (Option.bind (@Sp29.on ((@List (Int × (Int × ((Int × (Int × Unit)) × ((@List Int) × Unit))))) × Unit) (((@Sp29.isM (a3, (a4, ()))) && (decide (y18.1.1.2.1 = (4 : Int)))) && (decide ((0 : Int) < y18.1.1.1))) ((bif (decide (y18.1.1.1 = (7 : Int))) then [] else (((7 : Int), (a5, ((y18.1.1.1, ((4 : Int), ())), (y18.1.2.1, ())))) :: [])), ())) (fun (y19 : ((@List (Int × (Int × ((Int × (Int × Unit)) × ((@List Int) × Unit))))) × Unit)) => (some ((y19.1, ((0 : Int), ())), ())))))))))))))
theorem g10_eq (a0 : Int) (a1 : Int) (a2 : (@List (Int × (Int × Unit)))) (a3 : Int) (a4 : (@List (Int × (Int × ((Int × ((@List Int) × Unit)) × (Int × Unit)))))) (a5 : Int) (a6 : Int) (a7 : Int) (a8 : Int) (a9 : Int) (a10 : Int) (a11 : Int) (a12 : Int) (a13 : Int) (a14 : Int) (a15 : (@List Int)) : (evF (fun _ _ => Loop) Go.Abs.C29.E10 Go.Abs.C29.G10 Go.Proofs.Tryd.f10 Go.Abs.C29.plan10 Go.Abs.C29.c10 ((), ((a0, (a1, (a2, ()))), ((a3, (a4, ())), ((a5, (a6, (a7, (a8, (a9, (a10, (a11, (a12, (a13, (a14, (a15, ()))))))))))), ()))))).den = g10 a0 a1 a2 a3 a4 a5 a6 a7 a8 a9 a10 a11 a12 a13 a14 a15 := by kernel_rfl

noncomputable def g16 (a0 : Int) (a1 : Int) (a2 : (@List (Int × (Int × Unit)))) (a3 : Int) (a4 : Int) (a5 : Int) (a6 : Int) (a7 : Int) (a8 : Int) (a9 : Int) (a10 : Int) (a11 : Int) (a12 : Int) (a13 : (@List Int)) : (Option (Bool × Unit)) :=
  (Option.bind (Option.bind (@Sp29.on (Bool × Unit) (@Sp29.isP (a0, (a1, (a2, ())))) (true, ())) (fun (y14 : (Bool × Unit)) => (bif (!(!y14.1)) then (Option.bind (@Sp29.on (Bool × Unit) (@Sp29.isK (a4, (a5, (a6, (a7, (a8, (a9, (a10, (a11, (a12, (a13, ()))))))))))) (true, ())) (fun (y15 : (Bool × Unit)) => (bif (!(!y15.1)) then (bif (!(!(decide (a4 = (1 : Int))))) then (bif (!(!(decide (a5 = a0)))) then (bif (!(!(decide (a7 = a1)))) then (Option.bind (@Sp29.on (Int × Unit) (decide (a12 = (2 : Int))) ((1 : Int), ())) (fun (y16 : (Int × Unit)) => (some ((!(decide (y16.1 = (1 : Int)))), ())))) else (some (true, ()))) else (some (true, ()))) else (some (true, ()))) else (some (true, ()))))) else (some (true, ()))))) (fun (y14 : (Bool × Unit)) => (bif y14.1 then (some (false, ())) else (Option.bind (@Sp29.on (Int × Unit) (decide (a12 = (2 : Int))) ((1 : Int), ())) (fun (y15 : (Int × Unit)) => (Option.bind (@Sp29.on ((Int × (Bool × Unit)) × Unit) (((decide (a6 = (0 : Int))) && (decide (y15.1 = (1 : Int)))) && (decide (a7 = (8 : Int)))) (((2 : Int), (true, ())), ())) (fun (y16 : ((Int × (Bool × Unit)) × Unit)) => (Option.bind (bif y16.1.2.1 then (Option.bind (@Sp29.on (Bool × Unit) ((@Sp29.isE a2) && (@Sp29.isX (a3, (y16.1.1, ())))) (true, ())) (fun (y17 : (Bool × Unit)) => (some y17))) else (some (false, ()))) (fun (y17 : (Bool × Unit)) => (some y17))))))))))
theorem g16_eq (a0 : Int) (a1 : Int) (a2 : (@List (Int × (Int × Unit)))) (a3 : Int) (a4 : Int) (a5 : Int) (a6 : Int) (a7 : Int) (a8 : Int) (a9 : Int) (a10 : Int) (a11 : Int) (a12 : Int) (a13 : (@List Int)) : (evF (fun _ _ => Loop) Go.Abs.C29.E16 Go.Abs.C29.G16 Go.Proofs.Tryd.f16 Go.Abs.C29.plan16 Go.Abs.C29.c16 ((), ((a0, (a1, (a2, ()))), ((a3, (a4, (a5, (a6, (a7, (a8, (a9, (a10, (a11, (a12, (a13, ()))))))))))), ())))).den = g16 a0 a1 a2 a3 a4 a5 a6 a7 a8 a9 a10 a11 a12 a13 := by kernel_rfl

noncomputable def g31 (a0 : Int) (a1 : Int) (a2 : Int) (a3 : Int) (a4 : Int) (a5 : Int) (a6 : Int) (a7 : Int) (a8 : Int) (a9 : (@List Int)) : (Option (Bool × Unit)) :=
  (Option.bind (bif (decide (a0 ≥ (1 : Int))) then (bif (decide (a0 ≤ (3 : Int))) then (bif (@Sp29.inside a1 (0 : Int) (7 : Int)) then (bif (@Sp29.inside a2 (0 : Int) (31 : Int)) then (Option.bind (@Sp29.on (Bool × Unit) ((decide (a8 = (2 : Int))) && (decide (a3 = (8 : Int)))) (true, ())) (fun (y10 : (Bool × Unit)) => (bif y10.1 then (bif (@Sp29.inside a4 (0 : Int) (63 : Int)) then (bif (@Sp29.inside a5 (0 : Int) (1023 : Int)) then (bif (@Sp29.inside a6 (0 : Int) (256 : Int)) then (bif (@Sp29.inside a7 (0 : Int) (7 : Int)) then (some ((decide ((Int.ofNat a9.length) ≤ (64 : Int))), ())) else (some (false, ()))) else (some (false, ()))) else (some (false, ()))) else (some (false, ()))) else (some (false, ()))))) else (some (false, ()))) else (some (false, ()))) else (some (false, ()))) else (some (false, ()))) (fun (y10 : (Bool × Unit)) => (some y10)))
theorem g31_eq (a0 : Int) (a1 : Int) (a2 : Int) (a3 : Int) (a4 : Int) (a5 : Int) (a6 : Int) (a7 : Int) (a8 : Int) (a9 : (@List Int)) : (evF (fun _ _ => Loop) Go.Abs.C29.E31 Go.Abs.C29.G31 Go.Proofs.Tryd.f31 Go.Abs.C29.plan31 Go.Abs.C29.c31 ((), ((a0, (a1, (a2, (a3, (a4, (a5, (a6, (a7, (a8, (a9, ())))))))))), ()))).den = g31 a0 a1 a2 a3 a4 a5 a6 a7 a8 a9 := by kernel_rfl

noncomputable def g63_s0 (a0 : (@List (Int × (Int × Unit)))) (a1 : Int) (a2 : Int) (a3 : (Int × Unit)) : (Option (Sum (Int × Unit) (Bool × ((Int × Unit) × Unit)))) :=
  (bif (decide (a3.1 < (Int.ofNat a0.length))) then (bif ((decide ((0 : Int) ≤ a3.1)) && (decide (a3.1 < (Int.ofNat a0.length)))) then (bif (decide ((List.getD a0 (Int.toNat a3.1) ((0 : Int), ((0 : Int), ()))).1 = a1)) then (some (.inr (true, (a3, ())))) else (some (.inl ((IntKind.wrap Go.IntKind.i64 (a3.1 + (1 : Int))), ())))) else none) else (some (.inr (false, (((0 : Int), ()), ())))))
noncomputable def g63 (a0 : (@List (Int × (Int × Unit)))) (a1 : Int) (a2 : Int) : (Option (Int × Unit)) :=
  (Option.bind (Loop (@g63_s0 a0 a1 a2) ((0 : Int), ())) (fun (y3 : (Bool × ((Int × Unit) × Unit))) => (bif y3.1 then (some y3.2.1) else (some ((-1 : Int), ())))))
theorem g63_eq (a0 : (@List (Int × (Int × Unit)))) (a1 : Int) (a2 : Int) : (evF (fun _ _ => Loop) Go.Abs.C29.E63 Go.Abs.C29.G63 Go.Proofs.Tryd.f63 Go.Abs.C29.plan63 Go.Abs.C29.c63 ((), (a0, ((a1, (a2, ())), ())))).den = g63 a0 a1 a2 := by kernel_rfl

noncomputable def g20 (a0 : (@List Int)) (a1 : Int) : (Option (Int × ((@List Int) × (Int × Unit)))) :=
  (bif (decide (a1 ≥ (Int.ofNat a0.length))) then (some ((0 : Int), (a0, (a1, ())))) else (bif ((decide ((0 : Int) ≤ (IntKind.wrap Go.IntKind.i64 ((IntKind.wrap Go.IntKind.i64 (a1 + (1 : Int))) - (1 : Int))))) && (decide ((IntKind.wrap Go.IntKind.i64 ((IntKind.wrap Go.IntKind.i64 (a1 + (1 : Int))) - (1 : Int))) < (Int.ofNat a0.length)))) then (some ((List.getD a0 (Int.toNat (IntKind.wrap Go.IntKind.i64 ((IntKind.wrap Go.IntKind.i64 (a1 + (1 : Int))) - (1 : Int)))) (0 : Int)), (a0, ((IntKind.wrap Go.IntKind.i64 (a1 + (1 : Int))), ())))) else none))
theorem g20_eq (a0 : (@List Int)) (a1 : Int) : (evF (fun _ _ => Loop) Go.Abs.C29.E20 Go.Abs.C29.G20 Go.Proofs.Tryd.f20 Go.Abs.C29.plan20 Go.Abs.C29.c20 ((a0, (a1, ())), ())).den = g20 a0 a1 := by kernel_rfl

noncomputable def g57 (a0 : Int) (a1 : (@List Int)) (a2 : Int) : (Option (Bool × Unit)) :=
  (Option.bind (Option.bind (@Sp29.on (Int × Unit) (@Sp29.isF (a0, (a1, ()))) ((0 : Int), ())) (fun (y3 : (Int × Unit)) => (bif (decide (y3.1 = (0 : Int))) then (bif (decide (a2 > (0 : Int))) then (Option.bind (@Sp29.on (Bool × Unit) (@Sp29.isF (a0, (a1, ()))) (true, ())) (fun (y4 : (Bool × Unit)) => (some y4))) else (some (false, ()))) else (some (false, ()))))) (fun (y3 : (Bool × Unit)) => (some y3)))
theorem g57_eq (a0 : Int) (a1 : (@List Int)) (a2 : Int) : (evF (fun _ _ => Loop) Go.Abs.C29.E57 Go.Abs.C29.G57 Go.Proofs.Tryd.f57 Go.Abs.C29.plan57 Go.Abs.C29.c57 ((), ((a0, (a1, ())), (a2, ())))).den = g57 a0 a1 a2 := by kernel_rfl

noncomputable def g19 (a0 : Int) (a1 : Int) : (Option (Int × Unit)) :=
  (bif (decide (a1 < (1 : Int))) then (some ((0 : Int), ())) else (bif (!(decide (a1 = (0 : Int)))) then (Option.bind (bif (decide ((@Int.tmod a0 a1) < (0 : Int))) then (some ((IntKind.wrap Go.IntKind.i64 ((@Int.tmod a0 a1) + a1)), ())) else (some ((@Int.tmod a0 a1), ()))) (fun (y2 : (Int × Unit)) => (some y2))) else none))
theorem g19_eq (a0 : Int) (a1 : Int) : (evF (fun _ _ => Loop) Go.Abs.C29.E19 Go.Abs.C29.G19 Go.Proofs.Tryd.f19 Go.Abs.C29.plan19 Go.Abs.C29.c19 ((), (a0, (a1, ())))).den = g19 a0 a1 := by kernel_rfl

noncomputable def g11 (a0 : (@List Int)) (a1 : Int) (a2 : Int) : (Option (Int × ((@List Int) × (Int × Unit)))) :=
  (Option.bind (@Sp29.on (Int × ((@List Int) × (Int × Unit))) (@Sp29.wf (a0, (a1, ()))) (@Sp29.raw (a0, (a1, ())))) (fun (y3 : (Int × ((@List Int) × (Int × Unit)))) => (some ((@Sp29.cut y3.1 a2), y3.2))))
theorem g11_eq (a0 : (@List Int)) (a1 : Int) (a2 : Int) : (evF (fun _ _ => Loop) Go.Abs.C29.E11 Go.Abs.C29.G11 Go.Proofs.Tryd.f11 Go.Abs.C29.plan11 Go.Abs.C29.c11 ((a0, (a1, ())), (a2, ()))).den = g11 a0 a1 a2 := by kernel_rfl

noncomputable def g52 (a0 : (@List (Int × (Int × Unit)))) (a1 : Int) (a2 : Int) : (Option (Bool × Unit)) :=
  (Option.bind (@Sp29.on (Int × Unit) (@Sp29.none_ (Int × (Int × Unit)) a0) ((-1 : Int), ())) (fun (y3 : (Int × Unit)) => (some ((decide (y3.1 ≥ (0 : Int))), ()))))
theorem g52_eq (a0 : (@List (Int × (Int × Unit)))) (a1 : Int) (a2 : Int) : (evF (fun _ _ => Loop) Go.Abs.C29.E52 Go.Abs.C29.G52 Go.Proofs.Tryd.f52 Go.Abs.C29.plan52 Go.Abs.C29.c52 ((), (a0, ((a1, (a2, ())), ())))).den = g52 a0 a1 a2 := by kernel_rfl

noncomputable def g50 (a0 : Int) (a1 : Int) (a2 : Int) : (Option (Bool × Unit)) :=
  (Option.bind (bif (decide (a0 ≥ a1)) then (some ((decide (a0 ≤ a2)), ())) else (some (false, ()))) (fun (y3 : (Bool × Unit)) => (some y3)))
theorem g50_eq (a0 : Int) (a1 : Int) (a2 : Int) : (evF (fun _ _ => Loop) Go.Abs.C29.E50 Go.Abs.C29.G50 Go.Proofs.Tryd.f50 Go.Abs.C29.plan50 Go.Abs.C29.c50 ((), (a0, (a1, (a2, ()))))).den = g50 a0 a1 a2 := by kernel_rfl

noncomputable def g53 (a0 : Int) (a1 : Int) (a2 : Int) (a3 : Int) : (Option (Bool × Unit)) :=
  (some ((decide (a0 = a2)), ()))
theorem g53_eq (a0 : Int) (a1 : Int) (a2 : Int) (a3 : Int) : (evF (fun _ _ => Loop) Go.Abs.C29.E53 Go.Abs.C29.G53 Go.Proofs.Tryd.f53 Go.Abs.C29.plan53 Go.Abs.C29.c53 ((), ((a0, (a1, ())), ((a2, (a3, ())), ())))).den = g53 a0 a1 a2 a3 := by kernel_rfl

noncomputable def g48 (a0 : Int) : (Option (Bool × Unit)) :=
  (some ((!(decide (a0 = a0))), ()))
theorem g48_eq (a0 : Int) : (evF (fun _ _ => Loop) Go.Abs.C29.E48 Go.Abs.C29.G48 Go.Proofs.Tryd.f48 Go.Abs.C29.plan48 Go.Abs.C29.c48 ((), (a0, ()))).den = g48 a0 := by kernel_rfl
end Go.Abs.C29

namespace Go.Abs.C29
open Go Go.Abs
set_option maxRecDepth 20000
set_option linter.unusedVariables false
noncomputable def g15_s0 (a0 : Int) (a1 : (@List (Int × (Int × ((Int × ((@List Int) × Unit)) × (Int × Unit)))))) (a2 : (Int × Unit)) : (Option (Sum (Int × Unit) (Bool × ((Int × Unit) × Unit)))) :=
  (bif (decide (a2.1 < (Int.ofNat a1.length))) then (bif ((decide ((0 : Int) ≤ a2.1)) && (decide (a2.1 < (Int.ofNat a1.length)))) then (Option.bind (bif (!(!(@Sp29.inside (List.getD a1 (Int.toNat a2.1) ((0 : Int), ((0 : Int), (((0 : Int), ([], ())), ((0 : Int), ()))))).1 (1 : Int) (99 : Int)))) then (bif (!(!(@Sp29.inside (List.getD a1 (Int.toNat a2.1) ((0 : Int), ((0 : Int), (((0 : Int), ([], ())), ((0 : Int), ()))))).2.1 (1 : Int) (99 : Int)))) then (some ((!(@Sp29.inside (List.getD a1 (Int.toNat a2.1) ((0 : Int), ((0 : Int), (((0 : Int), ([], ())), ((0 : Int), ()))))).2.2.2.1 a0 (IntKind.wrap Go.IntKind.i64 (a0 + (1000 : Int))))), ())) else (some (true, ()))) else (some (true, ()))) (fun (y3 : (Bool × Unit)) => (bif y3.1 then (some (.inr (true, (((2 : Int), ()), ())))) else (some (.inl ((IntKind.wrap Go.IntKind.i64 (a2.1 + (1 : Int))), ())))))) else none) else (some (.inr (false, (((0 : Int), ()), ())))))
noncomputable def g15_s1 (a0 : (@List (Int × (Int × ((Int × ((@List Int) × Unit)) × (Int × Unit)))))) (a1 : (Int × Unit)) : (Option (Sum (Int × Unit) (Bool × ((Int × Unit) × Unit)))) :=
  (bif (decide (a1.1 < (Int.ofNat a0.length))) then (bif ((decide ((0 : Int) ≤ a1.1)) && (decide (a1.1 < (Int.ofNat a0.length)))) then (Option.bind (@Sp29.on (Int × Unit) (@Sp29.isF (List.getD a0 (Int.toNat a1.1) ((0 : Int), ((0 : Int), (((0 : Int), ([], ())), ((0 : Int), ()))))).2.2.1) ((0 : Int), ())) (fun (y2 : (Int × Unit)) => (bif (!(decide (y2.1 = (0 : Int)))) then (some (.inr (true, (y2, ())))) else (some (.inl ((IntKind.wrap Go.IntKind.i64 (a1.1 + (1 : Int))), ())))))) else none) else (some (.inr (false, (((0 : Int), ()), ())))))
noncomputable def g15_s2 (a0 : (@List (Int × (Int × ((Int × ((@List Int) × Unit)) × (Int × Unit)))))) (a1 : (Int × Unit)) : (Option (Sum (Int × Unit) (Bool × ((Int × Unit) × Unit)))) :=
  (bif (decide (a1.1 < (Int.ofNat a0.length))) then (bif ((decide ((0 : Int) ≤ a1.1)) && (decide (a1.1 < (Int.ofNat a0.length)))) then (Option.bind (@Sp29.on (Bool × Unit) (@Sp29.isF (List.getD a0 (Int.toNat a1.1) ((0 : Int), ((0 : Int), (((0 : Int), ([], ())), ((0 : Int), ()))))).2.2.1) (false, ())) (fun (y2 : (Bool × Unit)) => (bif y2.1 then (some (.inr (true, (((1 : Int), ()), ())))) else (some (.inl ((IntKind.wrap Go.IntKind.i64 (a1.1 + (1 : Int))), ())))))) else none) else (some (.inr (false, (((0 : Int), ()), ())))))
noncomputable def g15_s3 (a0 : (@List (Int × (Int × ((Int × ((@List Int) × Unit)) × (Int × Unit)))))) (a1 : Unit) : (Option (Sum Unit Unit)) :=
  (bif (decide ((1 : Int) < (Int.ofNat a0.length))) then (bif (true && (decide ((1 : Int) < (Int.ofNat a0.length)))) then (bif (true && (decide ((0 : Int) < (Int.ofNat a0.length)))) then none else none) else none) else (some (.inr ())))
noncomputable def g15 (a0 : Int) (a1 : (@List (Int × (Int × ((Int × ((@List Int) × Unit)) × (Int × Unit)))))) : (Option (Int × Unit)) :=
  (bif (!(@Sp29.inside a0 (0 : Int) (1000000 : Int))) then (some ((2 : Int), ())) else (bif (decide ((Int.ofNat a1.length) > (64 : Int))) then (some ((3 : Int), ())) else (Option.bind (Loop (@g15_s0 a0 a1) ((0 : Int), ())) (fun (y2 : (Bool × ((Int × Unit) × Unit))) => (bif y2.1 then (some y2.2.1) else (Option.bind (Loop (@g15_s1 a1) ((0 : Int), ())) (fun (y3 : (Bool × ((Int × Unit) × Unit))) => (bif y3.1 then (some y3.2.1) else (Option.bind (Loop (@g15_s2 a1) ((0 : Int), ())) (fun (y4 : (Bool × ((Int × Unit) × Unit))) => (bif y4.1 then (some y4.2.1) else (Option.bind (Loop (@g15_s3 a1) ()) (fun (y5 : Unit) => (some ((0 : Int), ())))))))))))))))
theorem g15_eq (a0 : Int) (a1 : (@List (Int × (Int × ((Int × ((@List Int) × Unit)) × (Int × Unit)))))) : (evF (fun _ _ => Loop) Go.Abs.C29.E15 Go.Abs.C29.G15 Go.Proofs.Tryd.f15 Go.Abs.C29.plan15 Go.Abs.C29.c15 ((), ((a0, (a1, ())), ()))).den = g15 a0 a1 := by kernel_rfl

noncomputable def g9_s0 (a0 : (@List (Int × (Int × ((Int × (Int × Unit)) × ((@List Int) × Unit)))))) (a1 : (Int × ((@List (Int × (Int × ((Int × (Int × Unit)) × ((@List Int) × Unit))))) × Unit))) : (Option (Sum (Int × ((@List (Int × (Int × ((Int × (Int × Unit)) × ((@List Int) × Unit))))) × Unit)) ((@List (Int × (Int × ((Int × (Int × Unit)) × ((@List Int) × Unit))))) × Unit))) :=
  (bif (decide (a1.1 < (Int.ofNat (@Go.Abs.C29.sortR a0).length))) then (bif ((decide ((0 : Int) ≤ a1.1)) && (decide (a1.1 < (Int.ofNat (@Go.Abs.C29.sortR a0).length)))) then (bif ((decide ((0 : Int) ≤ (IntKind.wrap Go.IntKind.i64 (a1.1 - (1 : Int))))) && (decide ((IntKind.wrap Go.IntKind.i64 (a1.1 - (1 : Int))) < (Int.ofNat (@Go.Abs.C29.sortR a0).length)))) then (Option.bind (bif ((decide ((List.getD (@Go.Abs.C29.sortR a0) (Int.toNat a1.1) ((0 : Int), ((0 : Int), (((0 : Int), ((0 : Int), ())), ([], ()))))).1 = (List.getD (@Go.Abs.C29.sortR a0) (Int.toNat (IntKind.wrap Go.IntKind.i64 (a1.1 - (1 : Int)))) ((0 : Int), ((0 : Int), (((0 : Int), ((0 : Int), ())), ([], ()))))).1)) && ((decide ((List.getD (@Go.Abs.C29.sortR a0) (Int.toNat a1.1) ((0 : Int), ((0 : Int), (((0 : Int), ((0 : Int), ())), ([], ()))))).2.1 = (List.getD (@Go.Abs.C29.sortR a0) (Int.toNat (IntKind.wrap Go.IntKind.i64 (a1.1 - (1 : Int)))) ((0 : Int), ((0 : Int), (((0 : Int), ((0 : Int), ())), ([], ()))))).2.1)) && ((decide ((List.getD (@Go.Abs.C29.sortR a0) (Int.toNat a1.1) ((0 : Int), ((0 : Int), (((0 : Int), ((0 : Int), ())), ([], ()))))).2.2.1.1 = (List.getD (@Go.Abs.C29.sortR a0) (Int.toNat (IntKind.wrap Go.IntKind.i64 (a1.1 - (1 : Int)))) ((0 : Int), ((0 : Int), (((0 : Int), ((0 : Int), ())), ([], ()))))).2.2.1.1)) && ((decide ((List.getD (@Go.Abs.C29.sortR a0) (Int.toNat a1.1) ((0 : Int), ((0 : Int), (((0 : Int), ((0 : Int), ())), ([], ()))))).2.2.1.2.1 = (List.getD (@Go.Abs.C29.sortR a0) (Int.toNat (IntKind.wrap Go.IntKind.i64 (a1.1 - (1 : Int)))) ((0 : Int), ((0 : Int), (((0 : Int), ((0 : Int), ())), ([], ()))))).2.2.1.2.1)) && ((@List.beq Int (@instBEqOfDecidableEq Int Int.instDecidableEq) (List.getD (@Go.Abs.C29.sortR a0) (Int.toNat a1.1) ((0 : Int), ((0 : Int), (((0 : Int), ((0 : Int), ())), ([], ()))))).2.2.2.1 (List.getD (@Go.Abs.C29.sortR a0) (Int.toNat (IntKind.wrap Go.IntKind.i64 (a1.1 - (1 : Int)))) ((0 : Int), ((0 : Int), (((0 : Int), ((0 : Int), ())), ([], ()))))).2.2.2.1) && true))))) then (bif ((decide ((0 : Int) ≤ a1.1)) && (decide (a1.1 < (Int.ofNat (@Go.Abs.C29.sortR a0).length)))) then (bif (@Nat.ble ((a1.2.1.length + 1) * 48) 140737488355328) then (some ((a1.2.1 ++ ((List.getD (@Go.Abs.C29.sortR a0) (Int.toNat a1.1) ((0 : Int), ((0 : Int), (((0 : Int), ((0 : Int), ())), ([], ()))))) :: [])), ())) else none) else none) else (some a1.2)) (fun (y2 : ((@List (Int × (Int × ((Int × (Int × Unit)) × ((@List Int) × Unit))))) × Unit)) => (some (.inl ((IntKind.wrap Go.IntKind.i64 (a1.1 + (1 : Int))), y2))))) else none) else none) else (some (.inr a1.2)))
noncomputable def g9 (a0 : (@List (Int × (Int × ((Int × (Int × Unit)) × ((@List Int) × Unit)))))) : (Option ((@List (Int × (Int × ((Int × (Int × Unit)) × ((@List Int) × Unit))))) × Unit)) :=
  (Option.bind (Loop (@g9_s0 a0) ((1 : Int), ([], ()))) (fun (y1 : ((@List (Int × (Int × ((Int × (Int × Unit)) × ((@List Int) × Unit))))) × Unit)) => (some y1)))
theorem g9_eq (a0 : (@List (Int × (Int × ((Int × (Int × Unit)) × ((@List Int) × Unit)))))) : (evF (fun _ _ => Loop) Go.Abs.C29.E9 Go.Abs.C29.G9 Go.Proofs.Tryd.f9 Go.Abs.C29.plan9 Go.Abs.C29.c9 ((), (a0, ()))).den = g9 a0 := by kernel_rfl

noncomputable def g34 (a0 : Int) : (Option (Int × Unit)) :=
  (bif (decide (a0 = (0 : Int))) then (some ((64 : Int), ())) else (bif ((decide ((0 : Int) ≤ (@Int.fdiv (IntKind.wrap Go.IntKind.u64 ((IntKind.wrap Go.IntKind.u64 (Int.ofNat (@BitVec.toNat 64 (@BitVec.and 64 (@BitVec.ofInt 64 a0) (@BitVec.ofInt 64 (IntKind.wrap Go.IntKind.u64 ((0 : Int) - a0))))))) * (285870213051353865 : Int))) (288230376151711744 : Int)))) && (decide ((@Int.fdiv (IntKind.wrap Go.IntKind.u64 ((IntKind.wrap Go.IntKind.u64 (Int.ofNat (@BitVec.toNat 64 (@BitVec.and 64 (@BitVec.ofInt 64 a0) (@BitVec.ofInt 64 (IntKind.wrap Go.IntKind.u64 ((0 : Int) - a0))))))) * (285870213051353865 : Int))) (288230376151711744 : Int)) < (64 : Int)))) then (bif (@Nat.blt (0 + ((Int.toNat (@Int.fdiv (IntKind.wrap Go.IntKind.u64 ((IntKind.wrap Go.IntKind.u64 (Int.ofNat (@BitVec.toNat 64 (@BitVec.and 64 (@BitVec.ofInt 64 a0) (@BitVec.ofInt 64 (IntKind.wrap Go.IntKind.u64 ((0 : Int) - a0))))))) * (285870213051353865 : Int))) (288230376151711744 : Int))) * 1)) 64) then (some ((IntKind.wrap Go.IntKind.i64 (List.getD ((0 : Int) :: ((1 : Int) :: ((56 : Int) :: ((2 : Int) :: ((57 : Int) :: ((49 : Int) :: ((28 : Int) :: ((3 : Int) :: ((61 : Int) :: ((58 : Int) :: ((42 : Int) :: ((50 : Int) :: ((38 : Int) :: ((29 : Int) :: ((17 : Int) :: ((4 : Int) :: ((62 : Int) :: ((47 : Int) :: ((59 : Int) :: ((36 : Int) :: ((45 : Int) :: ((43 : Int) :: ((51 : Int) :: ((22 : Int) :: ((53 : Int) :: ((39 : Int) :: ((33 : Int) :: ((30 : Int) :: ((24 : Int) :: ((18 : Int) :: ((12 : Int) :: ((5 : Int) :: ((63 : Int) :: ((55 : Int) :: ((48 : Int) :: ((27 : Int) :: ((60 : Int) :: ((41 : Int) :: ((37 : Int) :: ((16 : Int) :: ((46 : Int) :: ((35 : Int) :: ((44 : Int) :: ((21 : Int) :: ((52 : Int) :: ((32 : Int) :: ((23 : Int) :: ((11 : Int) :: ((54 : Int) :: ((26 : Int) :: ((40 : Int) :: ((15 : Int) :: ((34 : Int) :: ((20 : Int) :: ((31 : Int) :: ((10 : Int) :: ((25 : Int) :: ((14 : Int) :: ((19 : Int) :: ((9 : Int) :: ((13 : Int) :: ((8 : Int) :: ((7 : Int) :: ((6 : Int) :: [])))))))))))))))))))))))))))))))))))))))))))))))))))))))))))))))) (0 + ((Int.toNat (@Int.fdiv (IntKind.wrap Go.IntKind.u64 ((IntKind.wrap Go.IntKind.u64 (Int.ofNat (@BitVec.toNat 64 (@BitVec.and 64 (@BitVec.ofInt 64 a0) (@BitVec.ofInt 64 (IntKind.wrap Go.IntKind.u64 ((0 : Int) - a0))))))) * (285870213051353865 : Int))) (288230376151711744 : Int))) * 1)) (0 : Int))), ())) else none) else none))
theorem g34_eq (a0 : Int) : (evF (fun _ _ => Loop) Go.Abs.C29.E34 Go.Abs.C29.G34 Go.Proofs.Tryd.f34 Go.Abs.C29.plan34 Go.Abs.C29.c34 ((), (a0, ()))).den = g34 a0 := by kernel_rfl

noncomputable def g37_s0 (a0 : (@List (Int × (Int × ((Int × ((@List Int) × Unit)) × (Int × Unit)))))) (a1 : Int) (a2 : Int) (a3 : ((@List Int) × (Int × Unit))) : (Option (Sum ((@List Int) × (Int × Unit)) ((@List Int) × Unit))) :=
  (bif (decide (a3.2.1 < (Int.ofNat a0.length))) then (bif ((decide ((0 : Int) ≤ a3.2.1)) && (decide (a3.2.1 < (Int.ofNat a0.length)))) then (Option.bind (bif (decide ((List.getD a0 (Int.toNat a3.2.1) ((0 : Int), ((0 : Int), (((0 : Int), ([], ())), ((0 : Int), ()))))).2.1 = a2)) then (bif (!(decide ((List.getD a0 (Int.toNat a3.2.1) ((0 : Int), ((0 : Int), (((0 : Int), ([], ())), ((0 : Int), ()))))).1 = a1))) then (Option.bind (@Sp29.on (Bool × Unit) ((@Sp29.isF (List.getD a0 (Int.toNat a3.2.1) ((0 : Int), ((0 : Int), (((0 : Int), ([], ())), ((0 : Int), ()))))).2.2.1) && (decide ((0 : Int) < a1))) (true, ())) (fun (y4 : (Bool × Unit)) => (some y4))) else (some (false, ()))) else (some (false, ()))) (fun (y4 : (Bool × Unit)) => (Option.bind (bif y4.1 then (bif (@Nat.ble ((a3.1.length + 1) * 8) 140737488355328) then (some ((a3.1 ++ ((List.getD a0 (Int.toNat a3.2.1) ((0 : Int), ((0 : Int), (((0 : Int), ([], ())), ((0 : Int), ()))))).1 :: [])), ())) else none) else (some (a3.1, ()))) (fun (y5 : ((@List Int) × Unit)) => (some (.inl (y5.1, ((IntKind.wrap Go.IntKind.i64 (a3.2.1 + (1 : Int))), ())))))))) else none) else (some (.inr (a3.1, ()))))
noncomputable def g37 (a0 : Int) (a1 : (@List (Int × (Int × ((Int × ((@List Int) × Unit)) × (Int × Unit)))))) (a2 : Int) (a3 : Int) : (Option ((@List Int) × Unit)) :=
  (Option.bind (@Sp29.on (Int × Unit) (@Sp29.isM (a0, (a1, ()))) ((0 : Int), ())) (fun (y4 : (Int × Unit)) => (bif (!(decide (y4.1 = (0 : Int)))) then (some ([], ())) else (Option.bind (Loop (@g37_s0 a1 a2 a3) ([], ((0 : Int), ()))) (fun (y5 : ((@List Int) × Unit)) => (some y5))))))
theorem g37_eq (a0 : Int) (a1 : (@List (Int × (Int × ((Int × ((@List Int) × Unit)) × (Int × Unit)))))) (a2 : Int) (a3 : Int) : (evF (fun _ _ => Loop) Go.Abs.C29.E37 Go.Abs.C29.G37 Go.Proofs.Tryd.f37 Go.Abs.C29.plan37 Go.Abs.C29.c37 ((), ((a0, (a1, ())), ((a2, (a3, ())), ())))).den = g37 a0 a1 a2 a3 := by kernel_rfl

noncomputable def g18_s0 (a0 : Int) (a1 : Int) (a2 : Int) (a3 : (@List Int)) (a4 : ((@List Int) × Unit)) (a5 : (Int × ((@List (Int × (Int × ((Int × (Int × Unit)) × ((@List Int) × Unit))))) × Unit))) : (Option (Sum (Int × ((@List (Int × (Int × ((Int × (Int × Unit)) × ((@List Int) × Unit))))) × Unit)) ((@List (Int × (Int × ((Int × (Int × Unit)) × ((@List Int) × Unit))))) × Unit))) :=
  (bif (decide (a5.1 < (Int.ofNat a4.1.length))) then (bif ((decide ((0 : Int) ≤ a5.1)) && (decide (a5.1 < (Int.ofNat a4.1.length)))) then (bif (@Nat.ble ((a5.2.1.length + 1) * 48) 140737488355328) then (some (.inl ((IntKind.wrap Go.IntKind.i64 (a5.1 + (1 : Int))), ((a5.2.1 ++ (((List.getD a4.1 (Int.toNat a5.1) (0 : Int)), (a0, ((a1, (a2, ())), (a3, ())))) :: [])), ())))) else none) else none) else (some (.inr a5.2)))
noncomputable def g18 (a0 : Int) (a1 : (@List (Int × (Int × ((Int × ((@List Int) × Unit)) × (Int × Unit)))))) (a2 : Int) (a3 : Int) (a4 : Int) (a5 : (@List Int)) : (Option ((@List (Int × (Int × ((Int × (Int × Unit)) × ((@List Int) × Unit))))) × Unit)) :=
  (Option.bind (@Sp29.on ((@List Int) × Unit) (((@Sp29.isM (a0, (a1, ()))) && (decide (a4 = (4 : Int)))) && (decide ((0 : Int) < a3))) ((bif (decide (a3 = (7 : Int))) then [] else ((7 : Int) :: [])), ())) (fun (y6 : ((@List Int) × Unit)) => (Option.bind (Loop (@g18_s0 a2 a3 a4 a5 y6) ((0 : Int), ([], ()))) (fun (y7 : ((@List (Int × (Int × ((Int × (Int × Unit)) × ((@List Int) × Unit))))) × Unit)) => (some y7)))))
theorem g18_eq (a0 : Int) (a1 : (@List (Int × (Int × ((Int × ((@List Int) × Unit)) × (Int × Unit)))))) (a2 : Int) (a3 : Int) (a4 : Int) (a5 : (@List Int)) : (evF (fun _ _ => Loop) Go.Abs.C29.E18 Go.Abs.C29.G18 Go.Proofs.Tryd.f18 Go.Abs.C29.plan18 Go.Abs.C29.c18 ((), ((a0, (a1, ())), (a2, ((a3, (a4, ())), (a5, ())))))).den = g18 a0 a1 a2 a3 a4 a5 := by kernel_rfl

noncomputable def g56_s0 (a0 : (@List (Int × (Int × Unit)))) (a1 : Int) (a2 : Int) (a3 : (Int × Unit)) : (Option (Sum (Int × Unit) (Bool × ((Int × Unit) × Unit)))) :=
  (bif (decide (a3.1 < (Int.ofNat a0.length))) then (bif ((decide ((0 : Int) ≤ a3.1)) && (decide (a3.1 < (Int.ofNat a0.length)))) then (bif ((decide (a1 = (List.getD a0 (Int.toNat a3.1) ((0 : Int), ((0 : Int), ()))).1)) && ((decide (a2 = (List.getD a0 (Int.toNat a3.1) ((0 : Int), ((0 : Int), ()))).2.1)) && true)) then (some (.inr (true, (a3, ())))) else (some (.inl ((IntKind.wrap Go.IntKind.i64 (a3.1 + (1 : Int))), ())))) else none) else (some (.inr (false, (((0 : Int), ()), ())))))
noncomputable def g56 (a0 : (@List (Int × (Int × Unit)))) (a1 : Int) (a2 : Int) : (Option (Int × Unit)) :=
  (Option.bind (Loop (@g56_s0 a0 a1 a2) ((0 : Int), ())) (fun (y3 : (Bool × ((Int × Unit) × Unit))) => (bif y3.1 then (some y3.2.1) else (some ((-1 : Int), ())))))
theorem g56_eq (a0 : (@List (Int × (Int × Unit)))) (a1 : Int) (a2 : Int) : (evF (fun _ _ => Loop) Go.Abs.C29.E56 Go.Abs.C29.G56 Go.Proofs.Tryd.f56 Go.Abs.C29.plan56 Go.Abs.C29.c56 ((), (a0, ((a1, (a2, ())), ())))).den = g56 a0 a1 a2 := by kernel_rfl

noncomputable def g23_s0 (a0 : (@List Int)) (a1 : (Int × Unit)) : (Option (Sum (Int × Unit) (Bool × ((Int × Unit) × Unit)))) :=
  (bif (decide (a1.1 < (Int.ofNat a0.length))) then (bif ((decide ((0 : Int) ≤ a1.1)) && (decide (a1.1 < (Int.ofNat a0.length)))) then (bif (!(decide ((List.getD a0 (Int.toNat a1.1) (0 : Int)) = (0 : Int)))) then (some (.inr (true, (((List.getD a0 (Int.toNat a1.1) (0 : Int)), ()), ())))) else (some (.inl ((IntKind.wrap Go.IntKind.i64 (a1.1 + (1 : Int))), ())))) else none) else (some (.inr (false, (((0 : Int), ()), ())))))
noncomputable def g23 (a0 : (@List Int)) : (Option (Int × Unit)) :=
  (Option.bind (Loop (@g23_s0 a0) ((0 : Int), ())) (fun (y1 : (Bool × ((Int × Unit) × Unit))) => (bif y1.1 then (some y1.2.1) else (some ((0 : Int), ())))))
theorem g23_eq (a0 : (@List Int)) : (evF (fun _ _ => Loop) Go.Abs.C29.E23 Go.Abs.C29.G23 Go.Proofs.Tryd.f23 Go.Abs.C29.plan23 Go.Abs.C29.c23 ((), (a0, ()))).den = g23 a0 := by kernel_rfl

noncomputable def g5 (a0 : (@List Int)) : (Option (((@List Int) × (Int × Unit)) × Unit)) :=
  (bif ((true && (decide ((0 : Int) ≤ (bif (decide ((2000 : Int) < (Int.ofNat a0.length))) then (2000 : Int) else (Int.ofNat a0.length))))) && (decide ((bif (decide ((2000 : Int) < (Int.ofNat a0.length))) then (2000 : Int) else (Int.ofNat a0.length)) ≤ (Int.ofNat a0.length)))) then (some (((List.drop 0 (List.take (Int.toNat (bif (decide ((2000 : Int) < (Int.ofNat a0.length))) then (2000 : Int) else (Int.ofNat a0.length))) a0)), ((0 : Int), ())), ())) else none)
theorem g5_eq (a0 : (@List Int)) : (evF (fun _ _ => Loop) Go.Abs.C29.E5 Go.Abs.C29.G5 Go.Proofs.Tryd.f5 Go.Abs.C29.plan5 Go.Abs.C29.c5 ((), (a0, ()))).den = g5 a0 := by kernel_rfl

noncomputable def g55 (a0 : Int) (a1 : Int) : (Option (Bool × Unit)) :=
  (Option.bind (bif (@Sp29.vlen a1) then (Option.bind (@Sp29.on (Int × Unit) (decide (a1 = (8 : Int))) ((255 : Int), ())) (fun (y2 : (Int × Unit)) => (some ((decide ((IntKind.wrap Go.IntKind.u64 (Int.ofNat (@BitVec.toNat 64 (@BitVec.and 64 (@BitVec.ofInt 64 a0) (@BitVec.not 64 (@BitVec.ofInt 64 y2.1)))))) = (0 : Int))), ())))) else (some (false, ()))) (fun (y2 : (Bool × Unit)) => (some y2)))
theorem g55_eq (a0 : Int) (a1 : Int) : (evF (fun _ _ => Loop) Go.Abs.C29.E55 Go.Abs.C29.G55 Go.Proofs.Tryd.f55 Go.Abs.C29.plan55 Go.Abs.C29.c55 ((), (a0, (a1, ())))).den = g55 a0 a1 := by kernel_rfl

noncomputable def g64 (a0 : Int) : (Option (Int × Unit)) :=
  (bif (!(@Sp29.vlen a0)) then (some ((0 : Int), ())) else (bif (decide ((0 : Int) ≤ (IntKind.wrap Go.IntKind.i64 ((64 : Int) - a0)))) then (some ((@Int.fdiv (18446744073709551615 : Int) (@Int.pow (2 : Int) (@Min.min Nat instMinNat (Int.toNat (IntKind.wrap Go.IntKind.i64 ((64 : Int) - a0))) 64))), ())) else none))
theorem g64_eq (a0 : Int) : (evF (fun _ _ => Loop) Go.Abs.C29.E64 Go.Abs.C29.G64 Go.Proofs.Tryd.f64 Go.Abs.C29.plan64 Go.Abs.C29.c64 ((), (a0, ()))).den = g64 a0 := by kernel_rfl

noncomputable def g35 (a0 : (@List (Int × (Int × Unit)))) (a1 : Int) (a2 : Int) : (Option (Bool × Unit)) :=
  (Option.bind (@Sp29.on (Int × Unit) ((@Sp29.isE a0) && (@Sp29.isX (a1, (a2, ())))) ((0 : Int), ())) (fun (y3 : (Int × Unit)) => (some ((decide (y3.1 ≥ (0 : Int))), ()))))
theorem g35_eq (a0 : (@List (Int × (Int × Unit)))) (a1 : Int) (a2 : Int) : (evF (fun _ _ => Loop) Go.Abs.C29.E35 Go.Abs.C29.G35 Go.Proofs.Tryd.f35 Go.Abs.C29.plan35 Go.Abs.C29.c35 ((), (a0, ((a1, (a2, ())), ())))).den = g35 a0 a1 a2 := by kernel_rfl

noncomputable def g65 (a0 : Int) (a1 : (@List Int)) (a2 : Int) : (Option (Bool × Unit)) :=
  (Option.bind (@Sp29.on (Bool × Unit) (@Sp29.none_ Int a1) (false, ())) (fun (y3 : (Bool × Unit)) => (some ((decide (y3.1 = (decide (a0 = (1 : Int))))), ()))))
theorem g65_eq (a0 : Int) (a1 : (@List Int)) (a2 : Int) : (evF (fun _ _ => Loop) Go.Abs.C29.E65 Go.Abs.C29.G65 Go.Proofs.Tryd.f65 Go.Abs.C29.plan65 Go.Abs.C29.c65 ((), ((a0, (a1, ())), (a2, ())))).den = g65 a0 a1 a2 := by kernel_rfl

noncomputable def g7 (a0 : (@List (Int × (Int × ((Int × (Int × Unit)) × ((@List Int) × Unit)))))) : (Option ((@List (Int × (Int × ((Int × (Int × Unit)) × ((@List Int) × Unit))))) × Unit)) :=
  (some ((@Go.Abs.C29.sortR a0), ()))
theorem g7_eq (a0 : (@List (Int × (Int × ((Int × (Int × Unit)) × ((@List Int) × Unit)))))) : (evF (fun _ _ => Loop) Go.Abs.C29.E7 Go.Abs.C29.G7 Go.Proofs.Tryd.f7 Go.Abs.C29.plan7 Go.Abs.C29.c7 ((), (a0, ()))).den = g7 a0 := by kernel_rfl

noncomputable def g24 (a0 : Int) (a1 : Int) : (Option (Int × Unit)) :=
  (bif (decide (a0 < a1)) then (some ((-1 : Int), ())) else (bif (decide (a0 > a1)) then (some ((1 : Int), ())) else (some ((0 : Int), ()))))
theorem g24_eq (a0 : Int) (a1 : Int) : (evF (fun _ _ => Loop) Go.Abs.C29.E24 Go.Abs.C29.G24 Go.Proofs.Tryd.f24 Go.Abs.C29.plan24 Go.Abs.C29.c24 ((), (a0, (a1, ())))).den = g24 a0 a1 := by kernel_rfl
end Go.Abs.C29

namespace Sp29
open Go Go.Abs
theorem on_some {α : Type} {b : Bool} {x y : α} (h : on b x = some y) : b = true ∧ x = y := by
  unfold on at h
  cases b with
  | false => cases h
  | true => exact ⟨rfl, Option.some.inj h⟩
theorem on_true {α : Type} {b : Bool} {x : α} (h : b = true) : on b x = some x := by rw [h]; rfl
theorem wf_iff {t : Tp} : wf t = true ↔ 0 ≤ t.2.1 ∧ t.2.1 ≤ t.1.length ∧ t.1.length ≤ 2000 := by
  simp [wf, and_assoc]
theorem raw_wf {t : Tp} (h : wf t = true) : wf (raw t).2 = true := by
  obtain ⟨l, a, ⟨⟩⟩ := t
  obtain ⟨h1, h2, h3⟩ := wf_iff.1 h
  simp only at h1 h2 h3
  unfold raw
  by_cases h4 : a < l.length
  · simp only [h4, decide_true, cond_true]
    exact wf_iff.2 ⟨by simp only; omega, by simp only; omega, h3⟩
  · simp only [h4, decide_false, cond_false]
    exact h
theorem next_wf {t : Tp} {n : Int} (h : wf t = true) : wf (next t n).2 = true := raw_wf h
theorem cut_nonneg {x n : Int} : 0 ≤ cut x n := by
  unfold cut
  by_cases h : n < 1
  · simp [h]
  · simp only [h, decide_false, cond_false]
    exact Int.emod_nonneg x (by omega)
theorem cut_lt {x n : Int} (h : 1 ≤ n) : cut x n < n := by
  unfold cut
  have h' : ¬ n < 1 := by omega
  simp only [h', decide_false, cond_false]
  exact Int.emod_lt_of_pos x (by omega)
theorem next_range {t : Tp} {n : Int} (h : 1 ≤ n) : 0 ≤ (next t n).1 ∧ (next t n).1 < n := ⟨cut_nonneg, cut_lt h⟩
theorem tape_wf (l : List Int) : wf (tape l) = true := wf_iff.2 ⟨by simp [tape], by simp [tape], by simp [tape]; omega⟩
theorem order_wf {t : Tp} (h : wf t = true) : ∀ k, wf (orderN t k).2 = true ∧ (orderN t k).1.length = k ∧ (orderN t k).1.Perm ((List.range k).map fun (i : Nat) => (i : Int))
  | 0 => ⟨h, rfl, List.Perm.nil⟩
  | k + 1 => by
    obtain ⟨h1, h2, h3⟩ := order_wf h k
    have hb := next_range (t := (orderN t k).2) (n := (k : Int) + 1) (by omega)
    rw [orderN]
    generalize orderN t k = s at h1 h2 h3 hb ⊢
    have w := next_wf (n := (k : Int) + 1) h1
    generalize next s.2 ((k : Int) + 1) = a at w hb ⊢
    refine ⟨w, ?_, ?_⟩
    · simp only [List.length_append, List.length_cons, List.length_take, List.length_drop]
      omega
    · have p1 : (s.1.take a.1.toNat ++ (k : Int) :: s.1.drop a.1.toNat).Perm ((k : Int) :: s.1) := by
        have := @List.perm_middle Int (k : Int) (s.1.take a.1.toNat) (s.1.drop a.1.toNat)
        rwa [List.take_append_drop] at this
      refine p1.trans ?_
      rw [List.range_succ, List.map_append]
      refine (List.Perm.cons _ h3).trans ?_
      exact (List.perm_append_comm (l₁ := [(k : Int)])).trans (List.Perm.refl _)
end Sp29

namespace Go.Abs.C29
open Go Go.Abs Sp29
theorem lt_irr : ∀ s : List Int, ltBytes s s = false
  | [] => rfl
  | a :: s => by simp [ltBytes, lt_irr s]
theorem lt_trans : ∀ {s t u : List Int}, ltBytes s t = true → ltBytes t u = true → ltBytes s u = true
  | s, t, [], _, h2 => by cases t <;> simp [ltBytes] at h2
  | [], t, c :: u, _, _ => rfl
  | a :: s, [], c :: u, h1, _ => by simp [ltBytes] at h1
  | a :: s, b :: t, c :: u, h1, h2 => by
    simp only [ltBytes, Bool.or_eq_true, decide_eq_true_eq, Bool.and_eq_true, beq_iff_eq] at h1 h2 ⊢
    rcases h1 with h1 | ⟨rfl, h1⟩
    · rcases h2 with h2 | ⟨rfl, h2⟩
      · exact .inl (by omega)
      · exact .inl h1
    · rcases h2 with h2 | ⟨rfl, h2⟩
      · exact .inl h2
      · exact .inr ⟨rfl, lt_trans h1 h2⟩
theorem lt_tri : ∀ {s t : List Int}, ltBytes s t = false → ltBytes t s = false → s = t
  | [], [], _, _ => rfl
  | [], _ :: _, h1, _ => by simp [ltBytes] at h1
  | _ :: _, [], _, h2 => by simp [ltBytes] at h2
  | a :: s, b :: t, h1, h2 => by
    simp only [ltBytes, Bool.or_eq_false_iff, decide_eq_false_iff_not, Bool.and_eq_false_iff, beq_eq_false_iff_ne] at h1 h2
    have e : a = b := by omega
    subst e
    have h3 : ltBytes s t = false := h1.2.resolve_left fun h => h rfl
    have h4 : ltBytes t s = false := h2.2.resolve_left fun h => h rfl
    rw [lt_tri h3 h4]
def lx (a b : Int) (p : Prop) : Prop := a < b ∨ (a = b ∧ p)
theorem nz_lx (a b : Int) (r : List Int) : firstNZ (cmpI a b :: r) < 0 ↔ lx a b (firstNZ r < 0) := by
  unfold lx cmpI
  by_cases h1 : a < b
  · rw [dT h1]
    exact ⟨fun _ => .inl h1, fun _ => (show (-1 : Int) < 0 by decide)⟩
  · rw [dF h1]
    by_cases h2 : b < a
    · rw [dT h2]
      refine ⟨fun h => absurd (show (1 : Int) < 0 from h) (by decide), fun h => ?_⟩
      rcases h with h | ⟨h, -⟩ <;> omega
    · rw [dF h2]
      have e : a = b := by omega
      refine ⟨fun h => .inr ⟨e, h⟩, fun h => ?_⟩
      rcases h with h | ⟨-, h⟩
      · omega
      · exact h
theorem nz_last (s t : List Int) : firstNZ [cmpS s t] < 0 ↔ ltBytes s t = true := by
  unfold cmpS
  cases h : ltBytes s t with
  | true => exact ⟨fun _ => rfl, fun _ => (show (-1 : Int) < 0 by decide)⟩
  | false =>
    refine ⟨fun h => ?_, fun h => by cases h⟩
    cases hb : s == t <;> rw [hb] at h <;> exact absurd h (by decide)
def L (a b : Rf) : Prop := lx a.1 b.1 (lx a.2.1 b.2.1 (lx a.2.2.1 b.2.2.1 (lx a.2.2.2.1 b.2.2.2.1 (ltBytes a.2.2.2.2.1 b.2.2.2.2.1 = true))))
theorem cmp_L (a b : Rf) : cmpF a b < 0 ↔ L a b := by
  unfold cmpF L
  rw [nz_lx, nz_lx, nz_lx, nz_lx, nz_last]
theorem L_irr (a : Rf) : ¬ L a a := by
  unfold L lx
  have := lt_irr a.2.2.2.2.1
  rw [this]
  intro h
  rcases h with h | ⟨-, h | ⟨-, h | ⟨-, h | ⟨-, h⟩⟩⟩⟩
  · omega
  · omega
  · omega
  · omega
  · cases h
theorem lx_trans {a b c : Int} {p q r : Prop} (hp : p → q → r) (h1 : lx a b p) (h2 : lx b c q) : lx a c r := by
  unfold lx at *
  rcases h1 with h1 | ⟨rfl, h1⟩
  · rcases h2 with h2 | ⟨rfl, h2⟩
    · exact .inl (by omega)
    · exact .inl h1
  · rcases h2 with h2 | ⟨rfl, h2⟩
    · exact .inl h2
    · exact .inr ⟨rfl, hp h1 h2⟩
theorem L_trans {a b c : Rf} : L a b → L b c → L a c :=
  lx_trans (lx_trans (lx_trans (lx_trans lt_trans)))
theorem lx_tri {a b : Int} {p q : Prop} (h1 : ¬ lx a b p) (h2 : ¬ lx b a q) : a = b ∧ ¬ p ∧ ¬ q := by
  unfold lx at *
  have e : a = b := by omega
  subst e
  exact ⟨rfl, fun h => h1 (.inr ⟨rfl, h⟩), fun h => h2 (.inr ⟨rfl, h⟩)⟩
theorem L_tri {a b : Rf} (h1 : ¬ L a b) (h2 : ¬ L b a) : a = b := by
  obtain ⟨a1, a2, a3, a4, a5, ⟨⟩⟩ := a
  obtain ⟨b1, b2, b3, b4, b5, ⟨⟩⟩ := b
  obtain ⟨e1, h1, h2⟩ := lx_tri h1 h2
  obtain ⟨e2, h1, h2⟩ := lx_tri h1 h2
  obtain ⟨e3, h1, h2⟩ := lx_tri h1 h2
  obtain ⟨e4, h1, h2⟩ := lx_tri h1 h2
  have e5 := lt_tri (Bool.not_eq_true _ |>.mp h1) (Bool.not_eq_true _ |>.mp h2)
  simp only at e1 e2 e3 e4 e5
  subst e1 e2 e3 e4 e5
  rfl
theorem L_ntrans {a b c : Rf} (h1 : ¬ L a b) (h2 : ¬ L b c) : ¬ L a c := by
  intro h
  by_cases h3 : L b a
  · exact h2 (L_trans h3 h)
  · rw [L_tri h1 h3] at h
    exact h2 h
theorem ltR_L (x y : Rc) : ltR x y = true ↔ L (Sp29.flat (nrm x)) (Sp29.flat (nrm y)) := by
  unfold ltR cmpR
  rw [decide_eq_true_eq]
  exact cmp_L _ _
theorem ltR_F (x y : Rc) : ltR x y = false ↔ ¬ L (Sp29.flat (nrm x)) (Sp29.flat (nrm y)) := by
  rw [← ltR_L]
  cases ltR x y <;> simp
theorem swoR : Go.Sort.SWO ltR :=
  ⟨fun x => (ltR_F x x).2 (L_irr _), fun x y z h1 h2 => (ltR_L x z).2 (L_trans ((ltR_L x y).1 h1) ((ltR_L y z).1 h2)),
    fun x y z h1 h2 => (ltR_F x z).2 (L_ntrans ((ltR_F x y).1 h1) ((ltR_F y z).1 h2))⟩
def Fine (x : Rc) : Prop := ∀ c ∈ x.2.2.2.1, 0 ≤ c ∧ c < 256
theorem nrm_fine {x : Rc} (h : Fine x) : nrm x = x := by
  obtain ⟨a, b, c, d, ⟨⟩⟩ := x
  unfold nrm
  simp only
  rw [sby_bs h]
theorem ltR_tri {x y : Rc} (hx : Fine x) (hy : Fine y) (h1 : ltR x y = false) (h2 : ltR y x = false) : x = y := by
  have e := L_tri ((ltR_F x y).1 h1) ((ltR_F y x).1 h2)
  rw [nrm_fine hx, nrm_fine hy] at e
  obtain ⟨a, b, ⟨c, c', ⟨⟩⟩, d, ⟨⟩⟩ := x
  obtain ⟨a', b', ⟨e', f', ⟨⟩⟩, d', ⟨⟩⟩ := y
  cases e
  rfl
theorem sortR_perm (l : List Sp29.Rc) : (sortR l).Perm l := by
  obtain ⟨⟨k1, -, k2⟩, -⟩ := Go.Sort.pdq_sorts ltR swoR l.toArray 0 l.length (Go.Lib.bitLen l.length) true true (Nat.zero_le _) (by simp) (.inl rfl)
  have hd : sortR l = (Go.Sort.pdq ltR l.toArray 0 l.length (Go.Lib.bitLen l.length) true true).toList := rfl
  generalize Go.Sort.pdq ltR l.toArray 0 l.length (Go.Lib.bitLen l.length) true true = d at k1 k2 hd
  have hsz : d.size = l.length := by simpa using k1
  have e1 : (d.extract 0 l.length).toList = d.toList := by rw [← hsz]; simp
  have e2 : (l.toArray.extract 0 l.length).toList = l := by simp
  rw [e1, e2] at k2
  rw [hd]
  exact k2
theorem sortR_sorted (l : List Rc) (i j : Nat) (hij : i < j) (hj : j < (sortR l).length) : ltR ((sortR l).getD j zR) ((sortR l).getD i zR) = false := by
  obtain ⟨⟨k1, k2, k3⟩, k4⟩ := Go.Sort.pdq_sorts ltR swoR l.toArray 0 l.length (Go.Lib.bitLen l.length) true true (Nat.zero_le _) (by simp) (.inl rfl)
  have hd : sortR l = (Go.Sort.pdq ltR l.toArray 0 l.length (Go.Lib.bitLen l.length) true true).toList := rfl
  rw [hd] at hj ⊢
  have hsz : (Go.Sort.pdq ltR l.toArray 0 l.length (Go.Lib.bitLen l.length) true true).size = l.length := by simpa using k1
  generalize Go.Sort.pdq ltR l.toArray 0 l.length (Go.Lib.bitLen l.length) true true = d at k4 hj hsz ⊢
  have hj' : j < d.size := by simpa using hj
  have e : ∀ k, k < d.size → d.toList.getD k zR = d[k]! := by
    intro k hk
    rw [getElem!_pos d k hk, getD_ix (by simpa using hk)]
    simp
  rw [e j hj', e i (by omega)]
  exact k4 i j (by omega) hij (by omega)
end Go.Abs.C29

namespace Go.Abs.C29
open Go Go.Proofs
set_option maxRecDepth 100000 in
set_option maxHeartbeats 2000000 in
theorem f12_nil {w : World} {n c : Nat} {Q : Ending → World → Prop} (hQ : Q (.returned (.slice none 0 0)) w) :
    Calls Tryd.prog 12 #[.slice none n c] w Q := by
  have hu : Tryd.prog.underlying 23 = some (.slice 31) := by kernel_rfl
  go_enter Tryd.func12, Tryd.ntmps12
  go_wp2
  rw [Lib.run_eql_slice_nil _ _ _ _ _ _ _ _ hu]
  simp only [Result.andThen]
  rw [Oper.upon_value]
  simp only [Option.isNone]
  go_wp2
  exact hQ
set_option maxRecDepth 100000 in
set_option maxHeartbeats 2000000 in
theorem f12_empty {w : World} {p : Addr} {c : Nat} {Q : Ending → World → Prop} (hQ : Q (.returned (.slice (some ⟨w.heap.size, 0, none⟩) 0 0)) (w.alloc (.cells #[] 31))) :
    Calls Tryd.prog 12 #[.slice (some p) 0 c] w Q := by
  have hu : Tryd.prog.underlying 23 = some (.slice 31) := by kernel_rfl
  have hl : (loadCellsFrom p 0 0 #[]).run Tryd.prog (w.alloc (.cells #[] 31)) = .ok #[] (w.alloc (.cells #[] 31)) := by simp [loadCellsFrom]
  go_enter Tryd.func12, Tryd.ntmps12
  go_wp2
  rw [Lib.run_eql_slice_nil _ _ _ _ _ _ _ _ hu]
  simp only [Result.andThen]
  rw [Oper.upon_value]
  simp only [Option.isNone]
  go_wp2
  exact hQ
set_option maxRecDepth 100000 in
set_option maxHeartbeats 2000000 in
theorem f12_cells {w : World} {p : Addr} {n c : Nat} {cs : Array Value} {Q : Ending → World → Prop} (hn : 0 < n) (hn2 : n ≤ 2932031007402)
   (hl : (loadCellsFrom p 0 (n * 5) #[]).run Tryd.prog (w.alloc (.cells #[] 31)).drew = .ok cs (w.alloc (.cells #[] 31)).drew)
   (hQ : ∀ k : Nat, n ≤ k → Q (.returned (.slice (some ⟨w.heap.size + 1, 0, none⟩) n k)) ((w.alloc (.cells #[] 31)).alloc (.cells (cs ++ Builtin.zeroCells #[.int .i64 0, .int .i64 0, .int .i64 0, .int .i64 0, .string "".toUTF8] (k - n)) 31)).drew) :
    Calls Tryd.prog 12 #[.slice (some p) n c] w Q := by
  have hu : Tryd.prog.underlying 23 = some (.slice 31) := by kernel_rfl
  have hbt : Tryd.t31.bytes = 48 := rfl
  go_enter Tryd.func12, Tryd.ntmps12
  go_wp2
  rw [Lib.run_eql_slice_nil _ _ _ _ _ _ _ _ hu]
  simp only [Result.andThen]
  rw [Oper.upon_value]
  simp only [Option.isNone]
  go_wp2
  all_goals (try (exfalso; simp only [Builtin.nextslicecap] at *; (repeat' split at *) <;> omega))
  all_goals (simp only [Question.cut]; omega)
end Go.Abs.C29

namespace Go.Abs.C29
open Go Go.Proofs Go.Sort Go.RowKit
set_option maxRecDepth 100000 in
set_option maxHeartbeats 2000000 in
theorem f48_calls (x : Int) (w : World) : Calls Tryd.prog 48 #[.int .i64 x] w fun e w' => e = .returned (.bool false) ∧ w' = w := by
  go_enter Tryd.func48, Tryd.ntmps48
  go_wp2
  go_ret
  first | exact ⟨rfl, rfl⟩ | simp
set_option maxRecDepth 100000 in
set_option maxHeartbeats 2000000 in
theorem f49_calls (x : ByteArray) (w : World) : Calls Tryd.prog 49 #[.string x] w fun e w' => e = .returned (.bool false) ∧ w' = w := by
  go_enter Tryd.func49, Tryd.ntmps49
  go_wp2
  go_ret
  first | exact ⟨rfl, rfl⟩ | simp
set_option maxRecDepth 100000 in
set_option maxHeartbeats 2000000 in
theorem f24_calls (x y : Int) (w : World) : Calls Tryd.prog 24 #[.int .i64 x, .int .i64 y] w fun e w' => e = .returned (.int .i64 (Sp29.cmpI x y)) ∧ w' = w := by
  have h48 := fun z W => f48_calls z W
  go_enter Tryd.func24, Tryd.ntmps24
  go_wp2_with (go_at_call 48; refine (h48 _ _).mono ?_; rintro e w' ⟨rfl, rfl⟩)
  all_goals go_ret
  all_goals (unfold Sp29.cmpI; try simp [*])
  all_goals (rw [dF (show ¬ x < y by omega)]; first | rfl | (rw [dF (show ¬ y < x by omega)]; rfl))
theorem str_gtr (s t : ByteArray) (w : World) : (binOp .gtr 9 (.string s) (.string t)).run Tryd.prog w = .ok (.bool (!(ltBytes (sby s) (sby t) || sby s == sby t))) w := by
  have e1 : (s.toList == t.toList) = (sby s == sby t) := sby_inj
  have e2 : Op.bytesLess s.toList t.toList = ltBytes (sby s) (sby t) := by rw [ltBytes_ok, ByteArray.toList_eq, ByteArray.toList_eq]; rfl
  simp only [binOp, Op.stringOp, e1, e2]
  rfl
set_option maxRecDepth 100000 in
set_option maxHeartbeats 2000000 in
theorem f25_calls (x y : ByteArray) (w : World) : Calls Tryd.prog 25 #[.string x, .string y] w fun e w' => e = .returned (.int .i64 (Sp29.cmpS (sby x) (sby y))) ∧ w' = w := by
  have h49 := fun z W => f49_calls z W
  go_enter Tryd.func25, Tryd.ntmps25
  go_wp2_with (go_at_call 49; refine (h49 _ _).mono ?_; rintro e w' ⟨rfl, rfl⟩)
  · rename_i h
    rw [show Op.bytesLess x.toList y.toList = ltBytes (sby x) (sby y) by rw [ltBytes_ok, ByteArray.toList_eq, ByteArray.toList_eq]; rfl] at h
    go_ret
    unfold Sp29.cmpS
    rw [h]
    exact ⟨rfl, rfl⟩
  · have h : Op.bytesLess x.toList y.toList = false := by assumption
    rw [show Op.bytesLess x.toList y.toList = ltBytes (sby x) (sby y) by rw [ltBytes_ok, ByteArray.toList_eq, ByteArray.toList_eq]; rfl] at h
    rw [str_gtr]
    simp only [Result.andThen]
    rw [Oper.upon_value]
    cases hb : (sby x == sby y) with
    | true =>
      rw [h]
      simp only [Bool.or_true, Bool.not_true]
      go_wp2
      go_ret
      unfold Sp29.cmpS
      rw [h, hb]
      exact ⟨rfl, rfl⟩
    | false =>
      rw [h]
      simp only [Bool.or_self, Bool.not_false]
      go_wp2
      go_ret
      unfold Sp29.cmpS
      rw [h, hb]
      exact ⟨rfl, rfl⟩
theorem nz_drop1 (l : List Int) (i : Nat) (h : i < l.length) : Sp29.firstNZ (l.drop i) = bif decide (l.getD i 0 = 0) then Sp29.firstNZ (l.drop (i + 1)) else l.getD i 0 := by
  rw [List.drop_eq_getElem_cons h]
  have : l.getD i 0 = l[i] := by rw [List.getD_eq_getElem?_getD, List.getElem?_eq_getElem h]; rfl
  rw [this]
  rfl
set_option maxRecDepth 100000 in
set_option maxHeartbeats 2000000 in
theorem f23_calls (b : Nat) (l : List Int) (w : World) (hl : l.length < 1000) (hc : ∀ j : Nat, j < l.length → w.cell? ⟨b, j, none⟩ = some (.int .i64 (l.getD j 0))) :
    Calls Tryd.prog 23 #[.slice (some ⟨b, 0, none⟩) l.length l.length] w fun e w' => e = .returned (.int .i64 (Sp29.firstNZ l)) ∧ w' = w := by
  obtain ⟨n, hn⟩ : ∃ n : Nat, n = l.length := ⟨_, rfl⟩
  rw [← hn] at hl hc ⊢
  have H := Go.Lib.hid hc
  clear hc
  have N := Go.Lib.hid hn
  clear hn
  go_enter Tryd.func23, Tryd.ntmps23
  go_wp2
  go_loop [8] (fun i => ∃ k : Nat, k ≤ n ∧ i = .int .i64 k ∧ Sp29.firstNZ (l.drop k) = Sp29.firstNZ l) (fun i => n - (RowKit.intOf i).toNat)
  case atStart => exact ⟨0, Nat.zero_le _, rfl, by rw [List.drop_zero]⟩
  case round =>
    obtain ⟨k, hk, rfl, hf⟩ := hrel
    have F := Go.Lib.hid hf
    clear hf
    by_cases h : k < n
    · have hck := H.out k h
      obtain ⟨v, hv⟩ : ∃ v, v = l.getD k 0 := ⟨_, rfl⟩
      rw [← hv] at hck
      have V := Go.Lib.hid hv
      clear hv
      have h1 : (0 : Int) ≤ (k : Int) := by omega
      have h2 : (k : Int) < (n : Int) := by omega
      go_wp2
      · have hz : (v != 0) = true := by assumption
        go_ret
        have e := V.out
        have hz : v ≠ 0 := by simpa using hz
        rw [← F.out, nz_drop1 l k (by rw [← N.out]; exact h), ← e, dF hz]
        exact ⟨rfl, rfl⟩
      · have hz : (v != 0) = false := by assumption
        have hz : v = 0 := by simpa using hz
        have e := V.out
        go_round
        case rel => exact ⟨k + 1, by omega, by go_num, by rw [← F.out, nz_drop1 l k (by rw [← N.out]; exact h), ← e, dT hz]; rfl⟩
        case measure => simp [RowKit.intOf]; omega
    · have e : k = n := by omega
      subst e
      go_wp2
      go_ret
      rw [← F.out, N.out, List.drop_length]
      exact ⟨rfl, rfl⟩
def encR (x : Sp29.Rc) : List Value := [.int .i64 x.1, .int .i64 x.2.1, .int .i64 x.2.2.1.1, .int .i64 x.2.2.1.2.1, .string (bs x.2.2.2.1)]
end Go.Abs.C29

namespace Go.Abs.C29
open Go Go.Proofs Go.Sort Go.RowKit
theorem cell3 {W : World} {a b : Obj} {c : Array Value} {e : Nat} {j : Nat} : World.cell? ((((W.alloc a).alloc b).alloc (.cells c e)).drew) ⟨W.heap.size + 1 + 1, j, none⟩ = c[j]? := by
  have h : ((W.alloc a).alloc b).heap.size = W.heap.size + 1 + 1 := by
    show ((W.heap.push _).push _).size = _
    rw [Array.size_push, Array.size_push]
  rw [← h]
  show World.cell? (((W.alloc a).alloc b).alloc (.cells c e)) _ = _
  exact cell_new c e _ j
set_option maxRecDepth 100000 in
set_option maxHeartbeats 12800000 in
theorem f14_calls (x y : Sp29.Rc) (W : World) : Calls Tryd.prog 14 #[.agg (encR x).toArray, .agg (encR y).toArray] W fun e w' => e = .returned (.int .i64 (Sp29.cmpR (nrm x) (nrm y))) ∧ ∃ q os', w' = grow (W.drewN q) os' := by
  obtain ⟨x0, x1, ⟨x2, x3, ⟨⟩⟩, x4, ⟨⟩⟩ := x
  obtain ⟨y0, y1, ⟨y2, y3, ⟨⟩⟩, y4, ⟨⟩⟩ := y
  show Calls Tryd.prog 14 #[.agg #[.int .i64 x0, .int .i64 x1, .int .i64 x2, .int .i64 x3, .string (bs x4)], .agg #[.int .i64 y0, .int .i64 y1, .int .i64 y2, .int .i64 y3, .string (bs y4)]] W _
  have hfin : Sp29.cmpR (nrm (x0, x1, (x2, x3, ()), x4, ())) (nrm (y0, y1, (y2, y3, ()), y4, ())) = Sp29.firstNZ [Sp29.cmpI x0 y0, Sp29.cmpI x1 y1, Sp29.cmpI x2 y2, Sp29.cmpI x3 y3, Sp29.cmpS (sby (bs x4)) (sby (bs y4))] := rfl
  rw [hfin]
  clear hfin
  generalize bs x4 = sx
  generalize bs y4 = sy
  have h23 : ∀ (b : Nat) (w : World), w.cell? ⟨b, 0, none⟩ = some (.int .i64 (Sp29.cmpI x0 y0)) → w.cell? ⟨b, 1, none⟩ = some (.int .i64 (Sp29.cmpI x1 y1)) → w.cell? ⟨b, 2, none⟩ = some (.int .i64 (Sp29.cmpI x2 y2)) → w.cell? ⟨b, 3, none⟩ = some (.int .i64 (Sp29.cmpI x3 y3)) → w.cell? ⟨b, 4, none⟩ = some (.int .i64 (Sp29.cmpS (sby sx) (sby sy))) →
      Calls Tryd.prog 23 #[.slice (some ⟨b, 0, none⟩) 5 5] w fun e w' => e = .returned (.int .i64 (Sp29.firstNZ [Sp29.cmpI x0 y0, Sp29.cmpI x1 y1, Sp29.cmpI x2 y2, Sp29.cmpI x3 y3, Sp29.cmpS (sby sx) (sby sy)])) ∧ w' = w := by
    intro b w k0 k1 k2 k3 k4
    refine f23_calls b [Sp29.cmpI x0 y0, Sp29.cmpI x1 y1, Sp29.cmpI x2 y2, Sp29.cmpI x3 y3, Sp29.cmpS (sby sx) (sby sy)] w (show (5 : Nat) < 1000 by decide) fun j hj => ?_
    have hj : j < 5 := hj
    rcases (by omega : j = 0 ∨ j = 1 ∨ j = 2 ∨ j = 3 ∨ j = 4) with rfl | rfl | rfl | rfl | rfl <;> assumption
  go_enter Tryd.func14, Tryd.ntmps14
  go_wp2
  go_region_held3 (fun w' => w'.cell? ⟨W.heap.size, 0, none⟩ = some (.int .i64 x0) ∧ w'.cell? ⟨W.heap.size, 1, none⟩ = some (.int .i64 x1) ∧ w'.cell? ⟨W.heap.size, 2, none⟩ = some (.int .i64 x2) ∧ w'.cell? ⟨W.heap.size, 3, none⟩ = some (.int .i64 x3) ∧ w'.cell? ⟨W.heap.size, 4, none⟩ = some (.string sx) ∧
      w'.cell? ⟨W.heap.size + 1, 0, none⟩ = some (.int .i64 y0) ∧ w'.cell? ⟨W.heap.size + 1, 1, none⟩ = some (.int .i64 y1) ∧ w'.cell? ⟨W.heap.size + 1, 2, none⟩ = some (.int .i64 y2) ∧ w'.cell? ⟨W.heap.size + 1, 3, none⟩ = some (.int .i64 y3) ∧ w'.cell? ⟨W.heap.size + 1, 4, none⟩ = some (.string sy)) (go_keep)
    (first | (go_at_call 24; refine (f24_calls _ _ _).mono ?_; rintro e w' ⟨rfl, rfl⟩) | (go_at_call 25; refine (f25_calls _ _ _).mono ?_; rintro e w' ⟨rfl, rfl⟩) | (go_at_call 23; refine (h23 _ _ (by exact cell3) (by exact cell3) (by exact cell3) (by exact cell3) (by exact cell3)).mono ?_; rintro e w' ⟨rfl, rfl⟩))
  all_goals go_wp2
  all_goals go_ret
  all_goals exact ⟨rfl, 1, _, by
    show World.drew _ = _
    rw [alloc_eq_grow, alloc_eq_grow, alloc_eq_grow, grow_grow, grow_grow]
    rfl⟩
end Go.Abs.C29
