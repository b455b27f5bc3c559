/- Chapter 10 (sets): proved is, of more functions, that the evaluator comes to the printed term, and that the functions on the tape and the checks keep their contracts; no conditions but those that each theorem states. -/
import Derived.Test.YtihhljodjndbeaaDoorRunA
set_option linter.unusedVariables false
set_option linter.unusedSimpArgs false
namespace Go.Abs.C1D
open Go Go.Abs
set_option maxRecDepth 20000
set_option linter.unusedVariables false
noncomputable def g7_s0 (a0 : (Int × ((@List Int) × (Int × Unit)))) (a1 : (((@List (Int × (Bool × Unit))) × ((@List (Int × (Int × (Int × (Int × (Int × Unit)))))) × Unit)) × (Int × Unit))) : (Option (Sum (((@List (Int × (Bool × Unit))) × ((@List (Int × (Int × (Int × (Int × (Int × Unit)))))) × Unit)) × (Int × Unit)) (((@List (Int × (Bool × Unit))) × ((@List (Int × (Int × (Int × (Int × (Int × Unit)))))) × Unit)) × Unit))) :=
  (bif (decide (a1.2.1 ≤ a0.1)) then (bif (@Nat.ble ((a1.1.1.length + 1) * 16) 140737488355328) then (some (.inl (((a1.1.1 ++ ((a1.2.1, (true, ())) :: [])), a1.1.2), ((IntKind.wrap Go.IntKind.i64 (a1.2.1 + (1 : Int))), ())))) else none) else (some (.inr (a1.1, ()))))
noncomputable def g7_s1 (a0 : (Int × ((@List Int) × (Int × Unit)))) (a1 : (Int × (((@List Int) × (Int × Unit)) × (((@List (Int × (Bool × Unit))) × ((@List (Int × (Int × (Int × (Int × (Int × Unit)))))) × Unit)) × Unit)))) (a2 : (Int × ((@List Int) × (Int × Unit)))) (a3 : (Bool × ((@List Int) × (Int × Unit)))) (a4 : (Int × (((@List Int) × (Int × Unit)) × (((@List (Int × (Bool × Unit))) × ((@List (Int × (Int × (Int × (Int × (Int × Unit)))))) × Unit)) × Unit)))) : (Option (Sum (Int × (((@List Int) × (Int × Unit)) × (((@List (Int × (Bool × Unit))) × ((@List (Int × (Int × (Int × (Int × (Int × Unit)))))) × Unit)) × Unit))) (((@List Int) × (Int × Unit)) × (((@List (Int × (Bool × Unit))) × ((@List (Int × (Int × (Int × (Int × (Int × Unit)))))) × Unit)) × Unit)))) :=
  (bif (decide (a4.1 < a1.1)) then (Option.bind (bif (decide (a4.1 = a2.1)) then (bif (!(!a3.1)) then (Option.bind (@Sp1D.on (Bool × ((@List Int) × (Int × Unit))) ((@Sp1D.wf a4.2.1) && (@Sp1D.small (3 : Int))) (@Sp1D.one a4.2.1 (3 : Int))) (fun (y5 : (Bool × ((@List Int) × (Int × Unit)))) => (some (y5.2, (y5.1, ()))))) else (some (a4.2.1, (true, ())))) else (Option.bind (@Sp1D.on (Bool × ((@List Int) × (Int × Unit))) ((@Sp1D.wf a4.2.1) && (@Sp1D.small (3 : Int))) (@Sp1D.one a4.2.1 (3 : Int))) (fun (y5 : (Bool × ((@List Int) × (Int × Unit)))) => (some (y5.2, (y5.1, ())))))) (fun (y5 : (((@List Int) × (Int × Unit)) × (Bool × Unit))) => (Option.bind (bif y5.2.1 then (Option.bind (@Sp1D.on (Int × ((@List Int) × (Int × Unit))) (((@Sp1D.wf y5.1) && (@Sp1D.small (1 : Int))) && (@Sp1D.small a0.1)) (@Sp1D.range y5.1 (1 : Int) a0.1)) (fun (y6 : (Int × ((@List Int) × (Int × Unit)))) => (Option.bind (@Sp1D.on (Int × ((@List Int) × (Int × Unit))) (((@Sp1D.wf y6.2) && (@Sp1D.small (1 : Int))) && (@Sp1D.small a0.1)) (@Sp1D.range y6.2 (1 : Int) a0.1)) (fun (y7 : (Int × ((@List Int) × (Int × Unit)))) => (Option.bind (@Sp1D.on (Int × ((@List Int) × (Int × Unit))) (@Sp1D.wf y7.2) (@Sp1D.next y7.2 (4 : Int))) (fun (y8 : (Int × ((@List Int) × (Int × Unit)))) => (bif (@Nat.ble ((a4.2.2.1.2.1.length + 1) * 40) 140737488355328) then (some (y8.2, ((a4.2.2.1.1, ((a4.2.2.1.2.1 ++ ((a4.1, (a1.1, (y6.1, (y7.1, (y8.1, ()))))) :: [])), ())), ()))) else none))))))) else (some (y5.1, a4.2.2))) (fun (y6 : (((@List Int) × (Int × Unit)) × (((@List (Int × (Bool × Unit))) × ((@List (Int × (Int × (Int × (Int × (Int × Unit)))))) × Unit)) × Unit))) => (some (.inl ((IntKind.wrap Go.IntKind.i64 (a4.1 + (1 : Int))), y6))))))) else (some (.inr a4.2)))
noncomputable def g7_s2 (a0 : (Int × ((@List Int) × (Int × Unit)))) (a1 : (Int × ((@List Int) × (Int × Unit)))) (a2 : (Int × (((@List Int) × (Int × Unit)) × (((@List (Int × (Bool × Unit))) × ((@List (Int × (Int × (Int × (Int × (Int × Unit)))))) × Unit)) × Unit)))) : (Option (Sum (Int × (((@List Int) × (Int × Unit)) × (((@List (Int × (Bool × Unit))) × ((@List (Int × (Int × (Int × (Int × (Int × Unit)))))) × Unit)) × Unit))) (((@List Int) × (Int × Unit)) × (((@List (Int × (Bool × Unit))) × ((@List (Int × (Int × (Int × (Int × (Int × Unit)))))) × Unit)) × Unit)))) :=
  (bif (decide (a2.1 ≤ a0.1)) then (Option.bind (@Sp1D.on (Int × ((@List Int) × (Int × Unit))) (((@Sp1D.wf a2.2.1) && (@Sp1D.small (1 : Int))) && (@Sp1D.small (IntKind.wrap Go.IntKind.i64 (a2.1 - (1 : Int))))) (@Sp1D.range a2.2.1 (1 : Int) (IntKind.wrap Go.IntKind.i64 (a2.1 - (1 : Int))))) (fun (y3 : (Int × ((@List Int) × (Int × Unit)))) => (Option.bind (@Sp1D.on (Bool × ((@List Int) × (Int × Unit))) ((@Sp1D.wf y3.2) && (@Sp1D.small (9 : Int))) (@Sp1D.one y3.2 (9 : Int))) (fun (y4 : (Bool × ((@List Int) × (Int × Unit)))) => (Option.bind (Loop (@g7_s1 a1 a2 y3 y4) ((1 : Int), (y4.2, a2.2.2))) (fun (y5 : (((@List Int) × (Int × Unit)) × (((@List (Int × (Bool × Unit))) × ((@List (Int × (Int × (Int × (Int × (Int × Unit)))))) × Unit)) × Unit))) => (some (.inl ((IntKind.wrap Go.IntKind.i64 (a2.1 + (1 : Int))), y5))))))))) else (some (.inr a2.2)))
noncomputable def g7_s3 (a0 : (((@List (Int × (Bool × Unit))) × ((@List (Int × (Int × (Int × (Int × (Int × Unit)))))) × Unit)) × (Int × Unit))) : (Option (Sum (((@List (Int × (Bool × Unit))) × ((@List (Int × (Int × (Int × (Int × (Int × Unit)))))) × Unit)) × (Int × Unit)) (((@List (Int × (Bool × Unit))) × ((@List (Int × (Int × (Int × (Int × (Int × Unit)))))) × Unit)) × Unit))) :=
  (bif (decide (a0.2.1 < (75 : Int))) then (bif (@Nat.ble ((a0.1.1.length + 1) * 16) 140737488355328) then (some (.inl (((a0.1.1 ++ ((a0.2.1, (false, ())) :: [])), a0.1.2), ((IntKind.wrap Go.IntKind.i64 (a0.2.1 + (1 : Int))), ())))) else none) else (some (.inr (a0.1, ()))))
noncomputable def g7 (a0 : (@List Int)) (a1 : Int) (a2 : Int) (a3 : Int) : (Option (((@List (Int × (Bool × Unit))) × ((@List (Int × (Int × (Int × (Int × (Int × Unit)))))) × Unit)) × ((@List Int) × (Int × Unit)))) :=
  (Option.bind (@Sp1D.on (Int × ((@List Int) × (Int × Unit))) (((@Sp1D.wf (a0, (a1, ()))) && (@Sp1D.small (1 : Int))) && (@Sp1D.small a2)) (@Sp1D.range (a0, (a1, ())) (1 : Int) a2)) (fun (y4 : (Int × ((@List Int) × (Int × Unit)))) => (Option.bind (Loop (@g7_s0 y4) (([], ([], ())), ((1 : Int), ()))) (fun (y5 : (((@List (Int × (Bool × Unit))) × ((@List (Int × (Int × (Int × (Int × (Int × Unit)))))) × Unit)) × Unit)) => (Option.bind (@Sp1D.on (Int × ((@List Int) × (Int × Unit))) (((@Sp1D.wf y4.2) && (decide (0 < 4))) && (decide (4 ≤ 1000))) (@Sp1D.pick y4.2 ((1 : Int) :: ((2 : Int) :: ((2 : Int) :: ((5 : Int) :: [])))))) (fun (y6 : (Int × ((@List Int) × (Int × Unit)))) => (Option.bind (Loop (@g7_s2 y4 y6) ((2 : Int), (y6.2, y5))) (fun (y7 : (((@List Int) × (Int × Unit)) × (((@List (Int × (Bool × Unit))) × ((@List (Int × (Int × (Int × (Int × (Int × Unit)))))) × Unit)) × Unit))) => (Option.bind (@Sp1D.on ((@List (Int × (Int × (Int × (Int × (Int × Unit)))))) × Unit) (decide (y7.2.1.2.1.length ≤ 10000)) ((@Sp1D.ord y7.2.1.2.1), ())) (fun (y8 : ((@List (Int × (Int × (Int × (Int × (Int × Unit)))))) × Unit)) => (Option.bind (bif (decide (a3 > (0 : Int))) then (Option.bind (@Sp1D.on (Bool × ((@List Int) × (Int × Unit))) ((@Sp1D.wf y7.1) && (@Sp1D.small a3)) (@Sp1D.one y7.1 a3)) (fun (y9 : (Bool × ((@List Int) × (Int × Unit)))) => (some (y9.2, (y9.1, ()))))) else (some (y7.1, (false, ())))) (fun (y9 : (((@List Int) × (Int × Unit)) × (Bool × Unit))) => (Option.bind (bif y9.2.1 then (Option.bind (@Sp1D.on (Int × ((@List Int) × (Int × Unit))) (@Sp1D.wf y9.1) (@Sp1D.next y9.1 (7 : Int))) (fun (y10 : (Int × ((@List Int) × (Int × Unit)))) => (Option.bind (bif (decide (y10.1 = (0 : Int))) then (Option.bind (@Sp1D.on (Int × ((@List Int) × (Int × Unit))) (((@Sp1D.wf y10.2) && (decide (0 < 5))) && (decide (5 ≤ 1000))) (@Sp1D.pick y10.2 ((0 : Int) :: ((1 : Int) :: ((99 : Int) :: ((100 : Int) :: ((-1 : Int) :: []))))))) (fun (y11 : (Int × ((@List Int) × (Int × Unit)))) => (bif (@Nat.ble ((y7.2.1.1.length + 1) * 16) 140737488355328) then (some (((y7.2.1.1 ++ ((y11.1, (false, ())) :: [])), y8), (y11.2, ()))) else none))) else (Option.bind (bif (decide (y10.1 = (1 : Int))) then (Option.bind (@Sp1D.on (Int × ((@List Int) × (Int × Unit))) (@Sp1D.wf y10.2) (@Sp1D.next y10.2 (4 : Int))) (fun (y11 : (Int × ((@List Int) × (Int × Unit)))) => (Option.bind (@Sp1D.on (Int × ((@List Int) × (Int × Unit))) (@Sp1D.wf y11.2) (@Sp1D.next y11.2 (4 : Int))) (fun (y12 : (Int × ((@List Int) × (Int × Unit)))) => (bif (@Nat.ble ((y8.1.length + 1) * 40) 140737488355328) then (some (y12.2, ((y7.2.1.1, ((y8.1 ++ ((y11.1, (y12.1, ((1 : Int), ((1 : Int), ((0 : Int), ()))))) :: [])), ())), ()))) else none))))) else (Option.bind (bif (decide (y10.1 = (2 : Int))) then (Option.bind (bif (decide ((Int.ofNat y8.1.length) > (0 : Int))) then (Option.bind (@Sp1D.on (Int × ((@List Int) × (Int × Unit))) (@Sp1D.wf y10.2) (@Sp1D.next y10.2 (Int.ofNat y8.1.length))) (fun (y11 : (Int × ((@List Int) × (Int × Unit)))) => (Option.bind (@Sp1D.on (Int × ((@List Int) × (Int × Unit))) (@Sp1D.wf y11.2) (@Sp1D.wild y11.2)) (fun (y12 : (Int × ((@List Int) × (Int × Unit)))) => (bif ((decide ((0 : Int) ≤ y11.1)) && (decide (y11.1 < (Int.ofNat y8.1.length)))) then (bif (@Nat.blt (Int.toNat y11.1) y8.1.length) then (some ((y7.2.1.1, ((List.set y8.1 (Int.toNat y11.1) ((List.getD y8.1 (Int.toNat y11.1) ((0 : Int), ((0 : Int), ((0 : Int), ((0 : Int), ((0 : Int), ())))))).1, ((List.getD y8.1 (Int.toNat y11.1) ((0 : Int), ((0 : Int), ((0 : Int), ((0 : Int), ((0 : Int), ())))))).2.1, (y12.1, (List.getD y8.1 (Int.toNat y11.1) ((0 : Int), ((0 : Int), ((0 : Int), ((0 : Int), ((0 : Int), ())))))).2.2.2)))), ())), (y12.2, ()))) else none) else none))))) else (some ((y7.2.1.1, y8), (y10.2, ())))) (fun (y11 : (((@List (Int × (Bool × Unit))) × ((@List (Int × (Int × (Int × (Int × (Int × Unit)))))) × Unit)) × (((@List Int) × (Int × Unit)) × Unit))) => (some y11))) else (Option.bind (bif (decide (y10.1 = (3 : Int))) then (Option.bind (bif (decide ((Int.ofNat y8.1.length) > (0 : Int))) then (Option.bind (@Sp1D.on (Int × ((@List Int) × (Int × Unit))) (@Sp1D.wf y10.2) (@Sp1D.next y10.2 (Int.ofNat y8.1.length))) (fun (y11 : (Int × ((@List Int) × (Int × Unit)))) => (Option.bind (@Sp1D.on (Int × ((@List Int) × (Int × Unit))) (@Sp1D.wf y11.2) (@Sp1D.wild y11.2)) (fun (y12 : (Int × ((@List Int) × (Int × Unit)))) => (bif ((decide ((0 : Int) ≤ y11.1)) && (decide (y11.1 < (Int.ofNat y8.1.length)))) then (bif (@Nat.blt (Int.toNat y11.1) y8.1.length) then (some ((y7.2.1.1, ((List.set y8.1 (Int.toNat y11.1) ((List.getD y8.1 (Int.toNat y11.1) ((0 : Int), ((0 : Int), ((0 : Int), ((0 : Int), ((0 : Int), ())))))).1, ((List.getD y8.1 (Int.toNat y11.1) ((0 : Int), ((0 : Int), ((0 : Int), ((0 : Int), ((0 : Int), ())))))).2.1, ((List.getD y8.1 (Int.toNat y11.1) ((0 : Int), ((0 : Int), ((0 : Int), ((0 : Int), ((0 : Int), ())))))).2.2.1, (y12.1, (List.getD y8.1 (Int.toNat y11.1) ((0 : Int), ((0 : Int), ((0 : Int), ((0 : Int), ((0 : Int), ())))))).2.2.2.2))))), ())), (y12.2, ()))) else none) else none))))) else (some ((y7.2.1.1, y8), (y10.2, ())))) (fun (y11 : (((@List (Int × (Bool × Unit))) × ((@List (Int × (Int × (Int × (Int × (Int × Unit)))))) × Unit)) × (((@List Int) × (Int × Unit)) × Unit))) => (some (y11.2.1, (y11.1, ()))))) else (Option.bind (bif (decide (y10.1 = (4 : Int))) then (Option.bind (bif (decide ((Int.ofNat y8.1.length) > (0 : Int))) then (Option.bind (@Sp1D.on (Int × ((@List Int) × (Int × Unit))) (@Sp1D.wf y10.2) (@Sp1D.next y10.2 (Int.ofNat y8.1.length))) (fun (y11 : (Int × ((@List Int) × (Int × Unit)))) => (Option.bind (@Sp1D.on (Int × ((@List Int) × (Int × Unit))) (@Sp1D.wf y11.2) (@Sp1D.wild y11.2)) (fun (y12 : (Int × ((@List Int) × (Int × Unit)))) => (bif ((decide ((0 : Int) ≤ y11.1)) && (decide (y11.1 < (Int.ofNat y8.1.length)))) then (bif (@Nat.blt (Int.toNat y11.1) y8.1.length) then (some ((y7.2.1.1, ((List.set y8.1 (Int.toNat y11.1) ((List.getD y8.1 (Int.toNat y11.1) ((0 : Int), ((0 : Int), ((0 : Int), ((0 : Int), ((0 : Int), ())))))).1, ((List.getD y8.1 (Int.toNat y11.1) ((0 : Int), ((0 : Int), ((0 : Int), ((0 : Int), ((0 : Int), ())))))).2.1, ((List.getD y8.1 (Int.toNat y11.1) ((0 : Int), ((0 : Int), ((0 : Int), ((0 : Int), ((0 : Int), ())))))).2.2.1, ((List.getD y8.1 (Int.toNat y11.1) ((0 : Int), ((0 : Int), ((0 : Int), ((0 : Int), ((0 : Int), ())))))).2.2.2.1, (y12.1, ())))))), ())), (y12.2, ()))) else none) else none))))) else (some ((y7.2.1.1, y8), (y10.2, ())))) (fun (y11 : (((@List (Int × (Bool × Unit))) × ((@List (Int × (Int × (Int × (Int × (Int × Unit)))))) × Unit)) × (((@List Int) × (Int × Unit)) × Unit))) => (some y11))) else (Option.bind (bif (decide (y10.1 = (5 : Int))) then (Option.bind (bif (decide ((Int.ofNat y8.1.length) > (0 : Int))) then (Option.bind (@Sp1D.on (Int × ((@List Int) × (Int × Unit))) (@Sp1D.wf y10.2) (@Sp1D.next y10.2 (Int.ofNat y8.1.length))) (fun (y11 : (Int × ((@List Int) × (Int × Unit)))) => (bif ((decide ((0 : Int) ≤ y11.1)) && (decide (y11.1 < (Int.ofNat y8.1.length)))) then (bif (@Nat.blt (Int.toNat y11.1) y8.1.length) then (bif (@Nat.ble ((y8.1.length + 1) * 40) 140737488355328) then (some (y11.2, ((y7.2.1.1, ((y8.1 ++ ((List.getD y8.1 (Int.toNat y11.1) ((0 : Int), ((0 : Int), ((0 : Int), ((0 : Int), ((0 : Int), ())))))) :: [])), ())), ()))) else none) else none) else none))) else (some (y10.2, ((y7.2.1.1, y8), ())))) (fun (y11 : (((@List Int) × (Int × Unit)) × (((@List (Int × (Bool × Unit))) × ((@List (Int × (Int × (Int × (Int × (Int × Unit)))))) × Unit)) × Unit))) => (some y11))) else (Option.bind (Loop g7_s3 ((y7.2.1.1, y8), ((50 : Int), ()))) (fun (y11 : (((@List (Int × (Bool × Unit))) × ((@List (Int × (Int × (Int × (Int × (Int × Unit)))))) × Unit)) × Unit)) => (some (y10.2, y11))))) (fun (y11 : (((@List Int) × (Int × Unit)) × (((@List (Int × (Bool × Unit))) × ((@List (Int × (Int × (Int × (Int × (Int × Unit)))))) × Unit)) × Unit))) => (some (y11.2.1, (y11.1, ())))))) (fun (y11 : (((@List (Int × (Bool × Unit))) × ((@List (Int × (Int × (Int × (Int × (Int × Unit)))))) × Unit)) × (((@List Int) × (Int × Unit)) × Unit))) => (some (y11.2.1, (y11.1, ())))))) (fun (y11 : (((@List Int) × (Int × Unit)) × (((@List (Int × (Bool × Unit))) × ((@List (Int × (Int × (Int × (Int × (Int × Unit)))))) × Unit)) × Unit))) => (some (y11.2.1, (y11.1, ())))))) (fun (y11 : (((@List (Int × (Bool × Unit))) × ((@List (Int × (Int × (Int × (Int × (Int × Unit)))))) × Unit)) × (((@List Int) × (Int × Unit)) × Unit))) => (some (y11.2.1, (y11.1, ())))))) (fun (y11 : (((@List Int) × (Int × Unit)) × (((@List (Int × (Bool × Unit))) × ((@List (Int × (Int × (Int × (Int × (Int × Unit)))))) × Unit)) × Unit))) => (some (y11.2.1, (y11.1, ())))))) (fun (y11 : (((@List (Int × (Bool × Unit))) × ((@List (Int × (Int × (Int × (Int × (Int × Unit)))))) × Unit)) × (((@List Int) × (Int × Unit)) × Unit))) => (some y11))))) else (some ((y7.2.1.1, y8), (y9.1, ())))) (fun (y10 : (((@List (Int × (Bool × Unit))) × ((@List (Int × (Int × (Int × (Int × (Int × Unit)))))) × Unit)) × (((@List Int) × (Int × Unit)) × Unit))) => (some (y10.1, y10.2.1))))))))))))))))
theorem g7_eq (a0 : (@List Int)) (a1 : Int) (a2 : Int) (a3 : Int) : (evF (fun _ _ => Loop) Go.Abs.C1D.E7 Go.Abs.C1D.G7 Go.Proofs.Tryd.f7 Go.Abs.C1D.plan7 Go.Abs.C1D.c7 ((a0, (a1, ())), (a2, (a3, ())))).den = g7 a0 a1 a2 a3 := by kernel_rfl

noncomputable def g26_s0 (a0 : (@List (Int × (Int × Unit)))) (a1 : (Int × Unit)) : (Option (Sum (Int × Unit) (Bool × ((Bool × Unit) × Unit)))) :=
  (bif (decide (a1.1 < (Int.ofNat a0.length))) then (bif ((decide ((0 : Int) ≤ a1.1)) && (decide (a1.1 < (Int.ofNat a0.length)))) then (bif ((true && (decide ((0 : Int) ≤ a1.1))) && (decide (a1.1 ≤ (Int.ofNat a0.length)))) then (Option.bind (bif (!(!(@Sp1D.inside (List.getD ((List.getD a0 (Int.toNat a1.1) ((0 : Int), ((0 : Int), ()))) :: []) 0 ((0 : Int), ((0 : Int), ()))).2.1 (1 : Int) (256 : Int)))) then (bif (!(!(@Sp1D.inside (List.getD ((List.getD a0 (Int.toNat a1.1) ((0 : Int), ((0 : Int), ()))) :: []) 0 ((0 : Int), ((0 : Int), ()))).2.1 (1 : Int) (256 : Int)))) then (bif (!(!(@Sp1D.inside (List.getD ((List.getD a0 (Int.toNat a1.1) ((0 : Int), ((0 : Int), ()))) :: []) 0 ((0 : Int), ((0 : Int), ()))).2.1 (1 : Int) (256 : Int)))) then (bif (!(!(@Sp1D.inside (List.getD ((List.getD a0 (Int.toNat a1.1) ((0 : Int), ((0 : Int), ()))) :: []) 0 ((0 : Int), ((0 : Int), ()))).2.1 (1 : Int) (256 : Int)))) then (bif (!(!(@Sp1D.inside (List.getD ((List.getD a0 (Int.toNat a1.1) ((0 : Int), ((0 : Int), ()))) :: []) 0 ((0 : Int), ((0 : Int), ()))).2.1 (1 : Int) (256 : Int)))) then (bif (!(!(@Sp1D.inside (List.getD ((List.getD a0 (Int.toNat a1.1) ((0 : Int), ((0 : Int), ()))) :: []) 0 ((0 : Int), ((0 : Int), ()))).1 (1 : Int) (99 : Int)))) then (bif (!(!(@Sp1D.inside (List.getD ((List.getD a0 (Int.toNat a1.1) ((0 : Int), ((0 : Int), ()))) :: []) 0 ((0 : Int), ((0 : Int), ()))).1 (1 : Int) (99 : Int)))) then (bif (!(@List.any (Int × (Int × Unit)) (List.drop 0 (List.take (Int.toNat a1.1) a0)) (fun (y2 : (Int × (Int × Unit))) => (decide (y2.1 = (List.getD a0 (Int.toNat a1.1) ((0 : Int), ((0 : Int), ()))).1))))) then (bif (!(@List.any (Int × (Int × Unit)) (List.drop 0 (List.take (Int.toNat a1.1) a0)) (fun (y2 : (Int × (Int × Unit))) => (decide (y2.1 = (List.getD a0 (Int.toNat a1.1) ((0 : Int), ((0 : Int), ()))).1))))) then (bif (!(@List.any (Int × (Int × Unit)) (List.drop 0 (List.take (Int.toNat a1.1) a0)) (fun (y2 : (Int × (Int × Unit))) => (decide (y2.1 = (List.getD a0 (Int.toNat a1.1) ((0 : Int), ((0 : Int), ()))).1))))) then (bif (decide (a1.1 > (0 : Int))) then (bif (decide (a1.1 > (0 : Int))) then (bif (decide (a1.1 > (0 : Int))) then (bif (decide (a1.1 > (0 : Int))) then (bif (decide (a1.1 > (0 : Int))) then (bif ((decide ((0 : Int) ≤ (IntKind.wrap Go.IntKind.i64 (a1.1 - (1 : Int))))) && (decide ((IntKind.wrap Go.IntKind.i64 (a1.1 - (1 : Int))) < (Int.ofNat a0.length)))) then (bif (decide (a1.1 > (0 : Int))) then (bif (decide (a1.1 > (0 : Int))) then (bif (decide (a1.1 > (0 : Int))) then (bif (decide (a1.1 > (0 : Int))) then (bif (decide (a1.1 > (0 : Int))) then (bif (!(@List.any (Int × (Int × Unit)) (List.drop 0 (List.take (Int.toNat a1.1) a0)) (fun (y2 : (Int × (Int × Unit))) => (decide (y2.1 = (List.getD a0 (Int.toNat a1.1) ((0 : Int), ((0 : Int), ()))).1))))) then (bif (decide (a1.1 > (0 : Int))) then (bif (!(@List.any (Int × (Int × Unit)) (List.drop 0 (List.take (Int.toNat a1.1) a0)) (fun (y2 : (Int × (Int × Unit))) => (decide (y2.1 = (List.getD a0 (Int.toNat a1.1) ((0 : Int), ((0 : Int), ()))).1))))) then (some ((decide ((List.getD a0 (Int.toNat (IntKind.wrap Go.IntKind.i64 (a1.1 - (1 : Int)))) ((0 : Int), ((0 : Int), ()))).2.1 ≥ (List.getD ((List.getD a0 (Int.toNat a1.1) ((0 : Int), ((0 : Int), ()))) :: []) 0 ((0 : Int), ((0 : Int), ()))).2.1)), ())) else none) else none) else none) else none) else none) else none) else none) else none) else none) else none) else none) else none) else none) else (bif (!(decide (a1.1 > (0 : Int)))) then (bif (!(decide (a1.1 > (0 : Int)))) then (bif (!(decide (a1.1 > (0 : Int)))) then (bif (!(decide (a1.1 > (0 : Int)))) then (bif (!(decide (a1.1 > (0 : Int)))) then (bif (!(decide (a1.1 > (0 : Int)))) then (bif (!(decide (a1.1 > (0 : Int)))) then (bif (!(decide (a1.1 > (0 : Int)))) then (bif (!(decide (a1.1 > (0 : Int)))) then (bif (!(@List.any (Int × (Int × Unit)) (List.drop 0 (List.take (Int.toNat a1.1) a0)) (fun (y2 : (Int × (Int × Unit))) => (decide (y2.1 = (List.getD a0 (Int.toNat a1.1) ((0 : Int), ((0 : Int), ()))).1))))) then (bif (!(decide (a1.1 > (0 : Int)))) then (bif (!(@List.any (Int × (Int × Unit)) (List.drop 0 (List.take (Int.toNat a1.1) a0)) (fun (y2 : (Int × (Int × Unit))) => (decide (y2.1 = (List.getD a0 (Int.toNat a1.1) ((0 : Int), ((0 : Int), ()))).1))))) then (some (false, ())) else none) else none) else none) else none) else none) else none) else none) else none) else none) else none) else none) else none)) else none) else none) else (bif (@List.any (Int × (Int × Unit)) (List.drop 0 (List.take (Int.toNat a1.1) a0)) (fun (y2 : (Int × (Int × Unit))) => (decide (y2.1 = (List.getD a0 (Int.toNat a1.1) ((0 : Int), ((0 : Int), ()))).1)))) then (bif (@List.any (Int × (Int × Unit)) (List.drop 0 (List.take (Int.toNat a1.1) a0)) (fun (y2 : (Int × (Int × Unit))) => (decide (y2.1 = (List.getD a0 (Int.toNat a1.1) ((0 : Int), ((0 : Int), ()))).1)))) then (bif (@List.any (Int × (Int × Unit)) (List.drop 0 (List.take (Int.toNat a1.1) a0)) (fun (y2 : (Int × (Int × Unit))) => (decide (y2.1 = (List.getD a0 (Int.toNat a1.1) ((0 : Int), ((0 : Int), ()))).1)))) then (bif (@List.any (Int × (Int × Unit)) (List.drop 0 (List.take (Int.toNat a1.1) a0)) (fun (y2 : (Int × (Int × Unit))) => (decide (y2.1 = (List.getD a0 (Int.toNat a1.1) ((0 : Int), ((0 : Int), ()))).1)))) then (some (true, ())) else none) else none) else none) else none)) else none) else (bif (!(@Sp1D.inside (List.getD ((List.getD a0 (Int.toNat a1.1) ((0 : Int), ((0 : Int), ()))) :: []) 0 ((0 : Int), ((0 : Int), ()))).1 (1 : Int) (99 : Int))) then (some (true, ())) else none)) else none) else none) else none) else none) else (bif (!(@Sp1D.inside (List.getD ((List.getD a0 (Int.toNat a1.1) ((0 : Int), ((0 : Int), ()))) :: []) 0 ((0 : Int), ((0 : Int), ()))).2.1 (1 : Int) (256 : Int))) then (bif (!(@Sp1D.inside (List.getD ((List.getD a0 (Int.toNat a1.1) ((0 : Int), ((0 : Int), ()))) :: []) 0 ((0 : Int), ((0 : Int), ()))).2.1 (1 : Int) (256 : Int))) then (bif (!(@Sp1D.inside (List.getD ((List.getD a0 (Int.toNat a1.1) ((0 : Int), ((0 : Int), ()))) :: []) 0 ((0 : Int), ((0 : Int), ()))).2.1 (1 : Int) (256 : Int))) then (bif (!(@Sp1D.inside (List.getD ((List.getD a0 (Int.toNat a1.1) ((0 : Int), ((0 : Int), ()))) :: []) 0 ((0 : Int), ((0 : Int), ()))).2.1 (1 : Int) (256 : Int))) then (some (true, ())) else none) else none) else none) else none)) (fun (y2 : (Bool × Unit)) => (bif y2.1 then (some (.inr (true, ((false, ()), ())))) else (some (.inl ((IntKind.wrap Go.IntKind.i64 (a1.1 + (1 : Int))), ())))))) else none) else none) else (some (.inr (false, ((false, ()), ())))))
noncomputable def g26 (a0 : Int) (a1 : Int) (a2 : (@List (Int × (Int × Unit)))) : (Option (Bool × Unit)) :=
  (Option.bind (bif (!(!(@Sp1D.inside a0 (0 : Int) (7 : Int)))) then (bif (!(@Sp1D.vlen a1)) then (bif (!(!(decide (a1 = (0 : Int))))) then (bif (!(decide ((Int.ofNat a2.length) > (0 : Int)))) then (some ((decide ((Int.ofNat a2.length) > (24 : Int))), ())) else (some (true, ()))) else (some (true, ()))) else (some ((decide ((Int.ofNat a2.length) > (24 : Int))), ()))) else (some (true, ()))) (fun (y3 : (Bool × Unit)) => (bif y3.1 then (some (false, ())) else (Option.bind (Loop (@g26_s0 a2) ((0 : Int), ())) (fun (y4 : (Bool × ((Bool × Unit) × Unit))) => (bif y4.1 then (some y4.2.1) else (some (true, ()))))))))
theorem g26_eq (a0 : Int) (a1 : Int) (a2 : (@List (Int × (Int × Unit)))) : (evF (fun _ _ => Loop) Go.Abs.C1D.E26 Go.Abs.C1D.G26 Go.Proofs.Tryd.f26 Go.Abs.C1D.plan26 Go.Abs.C1D.c26 ((), ((a0, (a1, (a2, ()))), ()))).den = g26 a0 a1 a2 := by kernel_rfl

noncomputable def g31_s0 (a0 : (@List (Int × (Int × Unit)))) (a1 : (Int × ((@List Int) × Unit))) : (Option (Sum (Int × ((@List Int) × Unit)) (Bool × ((Bool × Unit) × ((@List Int) × Unit))))) :=
  (bif (decide (a1.1 < (Int.ofNat a0.length))) then (bif ((decide ((0 : Int) ≤ a1.1)) && (decide (a1.1 < (Int.ofNat a0.length)))) then (Option.bind (bif (!(!(@Sp1D.inside (List.getD a0 (Int.toNat a1.1) ((0 : Int), ((0 : Int), ()))).2.1 (1 : Int) (256 : Int)))) then (bif (!(!(@Sp1D.inside (List.getD a0 (Int.toNat a1.1) ((0 : Int), ((0 : Int), ()))).2.1 (1 : Int) (256 : Int)))) then (bif (!(!(@Sp1D.inside (List.getD a0 (Int.toNat a1.1) ((0 : Int), ((0 : Int), ()))).2.1 (1 : Int) (256 : Int)))) then (bif (!(!(@Sp1D.inside (List.getD a0 (Int.toNat a1.1) ((0 : Int), ((0 : Int), ()))).2.1 (1 : Int) (256 : Int)))) then (bif (!(!(@Sp1D.inside (List.getD a0 (Int.toNat a1.1) ((0 : Int), ((0 : Int), ()))).2.1 (1 : Int) (256 : Int)))) then (bif (!(!(@Sp1D.inside (List.getD a0 (Int.toNat a1.1) ((0 : Int), ((0 : Int), ()))).1 (1 : Int) (99 : Int)))) then (bif (!(!(@Sp1D.inside (List.getD a0 (Int.toNat a1.1) ((0 : Int), ((0 : Int), ()))).1 (1 : Int) (99 : Int)))) then (bif (!(!(@Sp1D.inside (List.getD a0 (Int.toNat a1.1) ((0 : Int), ((0 : Int), ()))).1 (1 : Int) (99 : Int)))) then (bif (decide (a1.1 > (0 : Int))) then (bif (decide (a1.1 > (0 : Int))) then (bif (decide (a1.1 > (0 : Int))) then (bif (decide (a1.1 > (0 : Int))) then (bif (decide (a1.1 > (0 : Int))) then (bif ((decide ((0 : Int) ≤ (IntKind.wrap Go.IntKind.i64 (a1.1 - (1 : Int))))) && (decide ((IntKind.wrap Go.IntKind.i64 (a1.1 - (1 : Int))) < (Int.ofNat a0.length)))) then (bif (decide (a1.1 > (0 : Int))) then (bif (decide (a1.1 > (0 : Int))) then (bif (decide (a1.1 > (0 : Int))) then (bif (decide (a1.1 > (0 : Int))) then (bif (decide (a1.1 > (0 : Int))) then (bif (!(!(@Sp1D.inside (List.getD a0 (Int.toNat a1.1) ((0 : Int), ((0 : Int), ()))).1 (1 : Int) (99 : Int)))) then (bif (decide (a1.1 > (0 : Int))) then (bif (!(!(@Sp1D.inside (List.getD a0 (Int.toNat a1.1) ((0 : Int), ((0 : Int), ()))).1 (1 : Int) (99 : Int)))) then (some ((decide ((List.getD a0 (Int.toNat (IntKind.wrap Go.IntKind.i64 (a1.1 - (1 : Int)))) ((0 : Int), ((0 : Int), ()))).2.1 ≥ (List.getD a0 (Int.toNat a1.1) ((0 : Int), ((0 : Int), ()))).2.1)), ())) else none) else none) else none) else none) else none) else none) else none) else none) else none) else none) else none) else none) else none) else (bif (!(decide (a1.1 > (0 : Int)))) then (bif (!(decide (a1.1 > (0 : Int)))) then (bif (!(decide (a1.1 > (0 : Int)))) then (bif (!(decide (a1.1 > (0 : Int)))) then (bif (!(decide (a1.1 > (0 : Int)))) then (bif (!(decide (a1.1 > (0 : Int)))) then (bif (!(decide (a1.1 > (0 : Int)))) then (bif (!(decide (a1.1 > (0 : Int)))) then (bif (!(decide (a1.1 > (0 : Int)))) then (bif (!(!(@Sp1D.inside (List.getD a0 (Int.toNat a1.1) ((0 : Int), ((0 : Int), ()))).1 (1 : Int) (99 : Int)))) then (bif (!(decide (a1.1 > (0 : Int)))) then (bif (!(!(@Sp1D.inside (List.getD a0 (Int.toNat a1.1) ((0 : Int), ((0 : Int), ()))).1 (1 : Int) (99 : Int)))) then (some (false, ())) else none) else none) else none) else none) else none) else none) else none) else none) else none) else none) else none) else none)) else none) else none) else (bif (!(@Sp1D.inside (List.getD a0 (Int.toNat a1.1) ((0 : Int), ((0 : Int), ()))).1 (1 : Int) (99 : Int))) then (bif (!(@Sp1D.inside (List.getD a0 (Int.toNat a1.1) ((0 : Int), ((0 : Int), ()))).1 (1 : Int) (99 : Int))) then (bif (!(@Sp1D.inside (List.getD a0 (Int.toNat a1.1) ((0 : Int), ((0 : Int), ()))).1 (1 : Int) (99 : Int))) then (bif (!(@Sp1D.inside (List.getD a0 (Int.toNat a1.1) ((0 : Int), ((0 : Int), ()))).1 (1 : Int) (99 : Int))) then (some (true, ())) else none) else none) else none) else none)) else none) else none) else none) else none) else (bif (!(@Sp1D.inside (List.getD a0 (Int.toNat a1.1) ((0 : Int), ((0 : Int), ()))).2.1 (1 : Int) (256 : Int))) then (bif (!(@Sp1D.inside (List.getD a0 (Int.toNat a1.1) ((0 : Int), ((0 : Int), ()))).2.1 (1 : Int) (256 : Int))) then (bif (!(@Sp1D.inside (List.getD a0 (Int.toNat a1.1) ((0 : Int), ((0 : Int), ()))).2.1 (1 : Int) (256 : Int))) then (bif (!(@Sp1D.inside (List.getD a0 (Int.toNat a1.1) ((0 : Int), ((0 : Int), ()))).2.1 (1 : Int) (256 : Int))) then (some (true, ())) else none) else none) else none) else none)) (fun (y2 : (Bool × Unit)) => (bif y2.1 then (some (.inr (true, ((false, ()), ([], ()))))) else (bif (@Nat.ble ((a1.2.1.length + 1) * 8) 140737488355328) then (some (.inl ((IntKind.wrap Go.IntKind.i64 (a1.1 + (1 : Int))), ((a1.2.1 ++ ((List.getD a0 (Int.toNat a1.1) ((0 : Int), ((0 : Int), ()))).1 :: [])), ())))) else none)))) else none) else (some (.inr (false, ((false, ()), a1.2)))))
noncomputable def g31 (a0 : Int) (a1 : Int) (a2 : (@List (Int × (Int × Unit)))) : (Option (Bool × Unit)) :=
  (Option.bind (bif (!(!(@Sp1D.inside a0 (0 : Int) (7 : Int)))) then (bif (!(@Sp1D.vlen a1)) then (bif (!(!(decide (a1 = (0 : Int))))) then (bif (!(decide ((Int.ofNat a2.length) > (0 : Int)))) then (some ((decide ((Int.ofNat a2.length) > (24 : Int))), ())) else (some (true, ()))) else (some (true, ()))) else (some ((decide ((Int.ofNat a2.length) > (24 : Int))), ()))) else (some (true, ()))) (fun (y3 : (Bool × Unit)) => (bif y3.1 then (some (false, ())) else (Option.bind (Loop (@g31_s0 a2) ((0 : Int), ([], ()))) (fun (y4 : (Bool × ((Bool × Unit) × ((@List Int) × Unit)))) => (bif y4.1 then (some y4.2.1) else (some ((!(@Sp1D.repeats y4.2.2.1)), ()))))))))
theorem g31_eq (a0 : Int) (a1 : Int) (a2 : (@List (Int × (Int × Unit)))) : (evF (fun _ _ => Loop) Go.Abs.C1D.E31 Go.Abs.C1D.G31 Go.Proofs.Tryd.f31 Go.Abs.C1D.plan31 Go.Abs.C1D.c31 ((), ((a0, (a1, (a2, ()))), ()))).den = g31 a0 a1 a2 := by kernel_rfl

noncomputable def g62 (a0 : Int) : (Option (Int × Unit)) :=
  (bif (decide (a0 = (0 : Int))) then (some ((64 : Int), ())) else (bif ((decide ((0 : Int) ≤ (@Int.fdiv (IntKind.wrap Go.IntKind.u64 ((IntKind.wrap Go.IntKind.u64 (Int.ofNat (@BitVec.toNat 64 (@BitVec.and 64 (@BitVec.ofInt 64 a0) (@BitVec.ofInt 64 (IntKind.wrap Go.IntKind.u64 ((0 : Int) - a0))))))) * (285870213051353865 : Int))) (288230376151711744 : Int)))) && (decide ((@Int.fdiv (IntKind.wrap Go.IntKind.u64 ((IntKind.wrap Go.IntKind.u64 (Int.ofNat (@BitVec.toNat 64 (@BitVec.and 64 (@BitVec.ofInt 64 a0) (@BitVec.ofInt 64 (IntKind.wrap Go.IntKind.u64 ((0 : Int) - a0))))))) * (285870213051353865 : Int))) (288230376151711744 : Int)) < (64 : Int)))) then (bif (@Nat.blt (0 + ((Int.toNat (@Int.fdiv (IntKind.wrap Go.IntKind.u64 ((IntKind.wrap Go.IntKind.u64 (Int.ofNat (@BitVec.toNat 64 (@BitVec.and 64 (@BitVec.ofInt 64 a0) (@BitVec.ofInt 64 (IntKind.wrap Go.IntKind.u64 ((0 : Int) - a0))))))) * (285870213051353865 : Int))) (288230376151711744 : Int))) * 1)) 64) then (some ((IntKind.wrap Go.IntKind.i64 (List.getD ((0 : Int) :: ((1 : Int) :: ((56 : Int) :: ((2 : Int) :: ((57 : Int) :: ((49 : Int) :: ((28 : Int) :: ((3 : Int) :: ((61 : Int) :: ((58 : Int) :: ((42 : Int) :: ((50 : Int) :: ((38 : Int) :: ((29 : Int) :: ((17 : Int) :: ((4 : Int) :: ((62 : Int) :: ((47 : Int) :: ((59 : Int) :: ((36 : Int) :: ((45 : Int) :: ((43 : Int) :: ((51 : Int) :: ((22 : Int) :: ((53 : Int) :: ((39 : Int) :: ((33 : Int) :: ((30 : Int) :: ((24 : Int) :: ((18 : Int) :: ((12 : Int) :: ((5 : Int) :: ((63 : Int) :: ((55 : Int) :: ((48 : Int) :: ((27 : Int) :: ((60 : Int) :: ((41 : Int) :: ((37 : Int) :: ((16 : Int) :: ((46 : Int) :: ((35 : Int) :: ((44 : Int) :: ((21 : Int) :: ((52 : Int) :: ((32 : Int) :: ((23 : Int) :: ((11 : Int) :: ((54 : Int) :: ((26 : Int) :: ((40 : Int) :: ((15 : Int) :: ((34 : Int) :: ((20 : Int) :: ((31 : Int) :: ((10 : Int) :: ((25 : Int) :: ((14 : Int) :: ((19 : Int) :: ((9 : Int) :: ((13 : Int) :: ((8 : Int) :: ((7 : Int) :: ((6 : Int) :: [])))))))))))))))))))))))))))))))))))))))))))))))))))))))))))))))) (0 + ((Int.toNat (@Int.fdiv (IntKind.wrap Go.IntKind.u64 ((IntKind.wrap Go.IntKind.u64 (Int.ofNat (@BitVec.toNat 64 (@BitVec.and 64 (@BitVec.ofInt 64 a0) (@BitVec.ofInt 64 (IntKind.wrap Go.IntKind.u64 ((0 : Int) - a0))))))) * (285870213051353865 : Int))) (288230376151711744 : Int))) * 1)) (0 : Int))), ())) else none) else none))
theorem g62_eq (a0 : Int) : (evF (fun _ _ => Loop) Go.Abs.C1D.E62 Go.Abs.C1D.G62 Go.Proofs.Tryd.f62 Go.Abs.C1D.plan62 Go.Abs.C1D.c62 ((), (a0, ()))).den = g62 a0 := by kernel_rfl

noncomputable def g13 (a0 : (@List Int)) (a1 : Int) (a2 : Int) : (Option (Int × ((@List Int) × (Int × Unit)))) :=
  (Option.bind (@Sp1D.on (Int × ((@List Int) × (Int × Unit))) (@Sp1D.wf (a0, (a1, ()))) (@Sp1D.raw (a0, (a1, ())))) (fun (y3 : (Int × ((@List Int) × (Int × Unit)))) => (Option.bind (@Sp1D.on (Int × ((@List Int) × (Int × Unit))) (@Sp1D.wf y3.2) (@Sp1D.raw y3.2)) (fun (y4 : (Int × ((@List Int) × (Int × Unit)))) => (Option.bind (@Sp1D.on (Int × ((@List Int) × (Int × Unit))) (@Sp1D.wf y4.2) (@Sp1D.next y4.2 (6 : Int))) (fun (y5 : (Int × ((@List Int) × (Int × Unit)))) => (Option.bind (bif (decide (y5.1 = (0 : Int))) then (some ((0 : Int), (y5.2, ()))) else (Option.bind (bif (decide (y5.1 = (1 : Int))) then (Option.bind (@Sp1D.on (Int × ((@List Int) × (Int × Unit))) (@Sp1D.wf y5.2) (@Sp1D.next y5.2 a2)) (fun (y6 : (Int × ((@List Int) × (Int × Unit)))) => (some (y6.2, ((@Sp1D.Bt.bit1 y6.1), ()))))) else (Option.bind (bif (decide (y5.1 = (2 : Int))) then (some ((18446744073709551615 : Int), ())) else (some ((IntKind.wrap Go.IntKind.u64 (Int.ofNat (@BitVec.toNat 64 (@BitVec.xor 64 (@BitVec.ofInt 64 (IntKind.wrap Go.IntKind.u64 ((IntKind.wrap Go.IntKind.u64 y3.1) * (11400714819323198485 : Int)))) (@BitVec.ofInt 64 (IntKind.wrap Go.IntKind.u64 y4.1)))))), ()))) (fun (y6 : (Int × Unit)) => (some (y5.2, y6))))) (fun (y6 : (((@List Int) × (Int × Unit)) × (Int × Unit))) => (some (y6.2.1, (y6.1, ())))))) (fun (y6 : (Int × (((@List Int) × (Int × Unit)) × Unit))) => (some ((IntKind.wrap Go.IntKind.u64 (Int.ofNat (@BitVec.toNat 64 (@BitVec.and 64 (@BitVec.ofInt 64 y6.1) (@BitVec.ofInt 64 (@Sp1D.Bt.full a2)))))), y6.2.1))))))))))
theorem g13_eq (a0 : (@List Int)) (a1 : Int) (a2 : Int) : (evF (fun _ _ => Loop) Go.Abs.C1D.E13 Go.Abs.C1D.G13 Go.Proofs.Tryd.f13 Go.Abs.C1D.plan13 Go.Abs.C1D.c13 ((a0, (a1, ())), (a2, ()))).den = g13 a0 a1 a2 := by kernel_rfl

noncomputable def g50_s0 (a0 : (@List Int)) (a1 : (Int × Unit)) (a2 : (Int × Unit)) : (Option (Sum (Int × Unit) (Bool × ((Bool × Unit) × Unit)))) :=
  (bif (decide (a2.1 < a1.1)) then (bif ((decide ((0 : Int) ≤ a1.1)) && (decide (a1.1 < (Int.ofNat a0.length)))) then (bif ((decide ((0 : Int) ≤ a2.1)) && (decide (a2.1 < (Int.ofNat a0.length)))) then (bif (decide ((List.getD a0 (Int.toNat a1.1) (0 : Int)) = (List.getD a0 (Int.toNat a2.1) (0 : Int)))) then (some (.inr (true, ((true, ()), ())))) else (some (.inl ((IntKind.wrap Go.IntKind.i64 (a2.1 + (1 : Int))), ())))) else none) else none) else (some (.inr (false, ((false, ()), ())))))
noncomputable def g50_s1 (a0 : (@List Int)) (a1 : (Int × Unit)) : (Option (Sum (Int × Unit) (Bool × ((Bool × Unit) × Unit)))) :=
  (bif (decide (a1.1 < (Int.ofNat a0.length))) then (Option.bind (Loop (@g50_s0 a0 a1) ((0 : Int), ())) (fun (y2 : (Bool × ((Bool × Unit) × Unit))) => (bif y2.1 then (some (.inr (true, y2.2))) else (some (.inl ((IntKind.wrap Go.IntKind.i64 (a1.1 + (1 : Int))), ())))))) else (some (.inr (false, ((false, ()), ())))))
noncomputable def g50 (a0 : (@List Int)) : (Option (Bool × Unit)) :=
  (Option.bind (Loop (@g50_s1 a0) ((0 : Int), ())) (fun (y1 : (Bool × ((Bool × Unit) × Unit))) => (bif y1.1 then (some y1.2.1) else (some (false, ())))))
theorem g50_eq (a0 : (@List Int)) : (evF (fun _ _ => Loop) Go.Abs.C1D.E50 Go.Abs.C1D.G50 Go.Proofs.Tryd.f50 Go.Abs.C1D.plan50 Go.Abs.C1D.c50 ((), (a0, ()))).den = g50 a0 := by kernel_rfl

noncomputable def g61_s0 (a0 : (@List (Int × (Int × Unit)))) (a1 : Int) (a2 : Int) (a3 : (Int × Unit)) : (Option (Sum (Int × Unit) (Bool × ((Int × Unit) × Unit)))) :=
  (bif (decide (a3.1 < (Int.ofNat a0.length))) then (bif ((decide ((0 : Int) ≤ a3.1)) && (decide (a3.1 < (Int.ofNat a0.length)))) then (bif (decide ((List.getD a0 (Int.toNat a3.1) ((0 : Int), ((0 : Int), ()))).1 = a1)) then (some (.inr (true, (a3, ())))) else (some (.inl ((IntKind.wrap Go.IntKind.i64 (a3.1 + (1 : Int))), ())))) else none) else (some (.inr (false, (((0 : Int), ()), ())))))
noncomputable def g61 (a0 : (@List (Int × (Int × Unit)))) (a1 : Int) (a2 : Int) : (Option (Int × Unit)) :=
  (Option.bind (Loop (@g61_s0 a0 a1 a2) ((0 : Int), ())) (fun (y3 : (Bool × ((Int × Unit) × Unit))) => (bif y3.1 then (some y3.2.1) else (some ((-1 : Int), ())))))
theorem g61_eq (a0 : (@List (Int × (Int × Unit)))) (a1 : Int) (a2 : Int) : (evF (fun _ _ => Loop) Go.Abs.C1D.E61 Go.Abs.C1D.G61 Go.Proofs.Tryd.f61 Go.Abs.C1D.plan61 Go.Abs.C1D.c61 ((), (a0, ((a1, (a2, ())), ())))).den = g61 a0 a1 a2 := by kernel_rfl

noncomputable def g38 (a0 : Int) (a1 : Int) (a2 : Int) : (Option ((Int × (Bool × Unit)) × Unit)) :=
  (Option.bind (bif (!(!(@Sp1D.vlen a2))) then (bif (!(!(@Sp1D.inside a1 (0 : Int) (IntKind.wrap Go.IntKind.i64 (a2 - (1 : Int)))))) then (some ((!(@Sp1D.inside a0 (0 : Int) (31 : Int))), ())) else (some (true, ()))) else (some (true, ()))) (fun (y3 : (Bool × Unit)) => (bif y3.1 then (some (((0 : Int), (false, ())), ())) else (bif (decide ((IntKind.wrap Go.IntKind.i64 ((IntKind.wrap Go.IntKind.i64 ((IntKind.wrap Go.IntKind.i64 (a0 * a2)) + a1)) + (1 : Int))) > (256 : Int))) then (some (((0 : Int), (false, ())), ())) else (some (((IntKind.wrap Go.IntKind.i64 ((IntKind.wrap Go.IntKind.i64 ((IntKind.wrap Go.IntKind.i64 (a0 * a2)) + a1)) + (1 : Int))), (true, ())), ()))))))
theorem g38_eq (a0 : Int) (a1 : Int) (a2 : Int) : (evF (fun _ _ => Loop) Go.Abs.C1D.E38 Go.Abs.C1D.G38 Go.Proofs.Tryd.f38 Go.Abs.C1D.plan38 Go.Abs.C1D.c38 ((), (a0, (a1, (a2, ()))))).den = g38 a0 a1 a2 := by kernel_rfl

noncomputable def g37_s0 (a0 : Int) (a1 : (Int × ((@List Int) × Unit))) : (Option (Sum (Int × ((@List Int) × Unit)) ((@List Int) × Unit))) :=
  (bif (decide (a1.1 < (64 : Int))) then (Option.bind (bif (@Sp1D.Bt.has a0 a1.1) then (bif (@Nat.ble ((a1.2.1.length + 1) * 8) 140737488355328) then (some ((a1.2.1 ++ (a1.1 :: [])), ())) else none) else (some a1.2)) (fun (y2 : ((@List Int) × Unit)) => (some (.inl ((IntKind.wrap Go.IntKind.i64 (a1.1 + (1 : Int))), y2))))) else (some (.inr a1.2)))
noncomputable def g37 (a0 : Int) : (Option ((@List Int) × Unit)) :=
  (Option.bind (Loop (@g37_s0 a0) ((0 : Int), ([], ()))) (fun (y1 : ((@List Int) × Unit)) => (some y1)))
theorem g37_eq (a0 : Int) : (evF (fun _ _ => Loop) Go.Abs.C1D.E37 Go.Abs.C1D.G37 Go.Proofs.Tryd.f37 Go.Abs.C1D.plan37 Go.Abs.C1D.c37 ((), (a0, ()))).den = g37 a0 := by kernel_rfl

noncomputable def g34_s0 (a0 : Int) (a1 : (Int × (Int × Unit))) : (Option (Sum (Int × (Int × Unit)) (Int × Unit))) :=
  (bif (decide (a1.1 < a0)) then (some (.inl ((IntKind.wrap Go.IntKind.i64 (a1.1 + (1 : Int))), ((IntKind.wrap Go.IntKind.u64 (Int.ofNat (@BitVec.toNat 64 (@BitVec.or 64 (@BitVec.ofInt 64 a1.2.1) (@BitVec.ofInt 64 (@Sp1D.Bt.bit1 a1.1)))))), ())))) else (some (.inr a1.2)))
noncomputable def g34 (a0 : Int) : (Option (Int × Unit)) :=
  (bif (!(@Sp1D.vlen a0)) then (some ((0 : Int), ())) else (Option.bind (Loop (@g34_s0 a0) ((0 : Int), ((0 : Int), ()))) (fun (y1 : (Int × Unit)) => (some y1))))
theorem g34_eq (a0 : Int) : (evF (fun _ _ => Loop) Go.Abs.C1D.E34 Go.Abs.C1D.G34 Go.Proofs.Tryd.f34 Go.Abs.C1D.plan34 Go.Abs.C1D.c34 ((), (a0, ()))).den = g34 a0 := by kernel_rfl

noncomputable def g14 (a0 : Int) : (Option (Int × Unit)) :=
  (Option.bind (bif (!(decide (a0 < (0 : Int)))) then (some ((decide (a0 > (63 : Int))), ())) else (some (true, ()))) (fun (y1 : (Bool × Unit)) => (bif y1.1 then (some ((0 : Int), ())) else (bif (decide ((0 : Int) ≤ (IntKind.wrap Go.IntKind.u64 a0))) then (some ((IntKind.wrap Go.IntKind.u64 ((1 : Int) * (@Int.pow (2 : Int) (@Min.min Nat instMinNat (Int.toNat (IntKind.wrap Go.IntKind.u64 a0)) 64)))), ())) else none))))
theorem g14_eq (a0 : Int) : (evF (fun _ _ => Loop) Go.Abs.C1D.E14 Go.Abs.C1D.G14 Go.Proofs.Tryd.f14 Go.Abs.C1D.plan14 Go.Abs.C1D.c14 ((), (a0, ()))).den = g14 a0 := by kernel_rfl

noncomputable def g5 (a0 : (@List Int)) : (Option (((@List Int) × (Int × Unit)) × Unit)) :=
  (Option.bind (bif (decide ((Int.ofNat a0.length) > (600 : Int))) then (bif (true && (decide ((600 : Int) ≤ (Int.ofNat a0.length)))) then (some ((List.drop 0 (List.take 600 a0)), ())) else none) else (some (a0, ()))) (fun (y1 : ((@List Int) × Unit)) => (some ((y1.1, ((0 : Int), ())), ()))))
theorem g5_eq (a0 : (@List Int)) : (evF (fun _ _ => Loop) Go.Abs.C1D.E5 Go.Abs.C1D.G5 Go.Proofs.Tryd.f5 Go.Abs.C1D.plan5 Go.Abs.C1D.c5 ((), (a0, ()))).den = g5 a0 := by kernel_rfl

noncomputable def g27 (a0 : (@List Int)) (a1 : Int) (a2 : Int) (a3 : (@List (Int × (Int × Unit)))) : (Option (Bool × Unit)) :=
  (some ((decide ((@Sp1D.idx Int (fun (y4 : Int) => (!(@Sp1D.hasE (a1, (a2, (a3, ()))) y4))) a0) ≥ (0 : Int))), ()))
theorem g27_eq (a0 : (@List Int)) (a1 : Int) (a2 : Int) (a3 : (@List (Int × (Int × Unit)))) : (evF (fun _ _ => Loop) Go.Abs.C1D.E27 Go.Abs.C1D.G27 Go.Proofs.Tryd.f27 Go.Abs.C1D.plan27 Go.Abs.C1D.c27 ((), (a0, ((a1, (a2, (a3, ()))), ())))).den = g27 a0 a1 a2 a3 := by kernel_rfl

noncomputable def g51 (a0 : Int) : (Option (Int × Unit)) :=
  (bif (decide (a0 = (0 : Int))) then (some ((-1 : Int), ())) else (Option.bind (@Sp1D.on (Int × Unit) (!(decide (a0 = (0 : Int)))) ((@Sp1D.Bt.nth a0 (0 : Int)), ())) (fun (y1 : (Int × Unit)) => (some y1))))
theorem g51_eq (a0 : Int) : (evF (fun _ _ => Loop) Go.Abs.C1D.E51 Go.Abs.C1D.G51 Go.Proofs.Tryd.f51 Go.Abs.C1D.plan51 Go.Abs.C1D.c51 ((), (a0, ()))).den = g51 a0 := by kernel_rfl

noncomputable def g64 (a0 : (@List (Int × ((Int × (Int × (Int × Unit))) × Unit)))) : (Option (Bool × Unit)) :=
  (some ((decide ((@Sp1D.idx Sp1D.Ow Sp1D.badO a0) ≥ (0 : Int))), ()))
theorem g64_eq (a0 : (@List (Int × ((Int × (Int × (Int × Unit))) × Unit)))) : (evF (fun _ _ => Loop) Go.Abs.C1D.E64 Go.Abs.C1D.G64 Go.Proofs.Tryd.f64 Go.Abs.C1D.plan64 Go.Abs.C1D.c64 ((), (a0, ((), ())))).den = g64 a0 := by kernel_rfl

noncomputable def g47 (a0 : Int) (a1 : Int) (a2 : Int) : (Option (Bool × Unit)) :=
  (some ((decide (a1 = a2)), ()))
theorem g47_eq (a0 : Int) (a1 : Int) (a2 : Int) : (evF (fun _ _ => Loop) Go.Abs.C1D.E47 Go.Abs.C1D.G47 Go.Proofs.Tryd.f47 Go.Abs.C1D.plan47 Go.Abs.C1D.c47 ((), ((a0, (a1, ())), ((a2, ()), ())))).den = g47 a0 a1 a2 := by kernel_rfl
end Go.Abs.C1D

namespace Go.Abs.C1D
open Go Go.Abs
set_option maxRecDepth 20000
set_option linter.unusedVariables false
noncomputable def g4_s0 (a0 : ((Int × (Int × ((@List (Int × (Int × Unit))) × Unit))) × ((@List Int) × (Int × Unit)))) (a1 : (Int × ((@List Int) × (((@List Int) × (Int × Unit)) × Unit)))) : (Option (Sum (Int × ((@List Int) × (((@List Int) × (Int × Unit)) × Unit))) ((@List Int) × Unit))) :=
  (bif (decide (a1.1 < (Int.ofNat a0.1.2.2.1.length))) then (Option.bind (@Sp1D.on (Int × ((@List Int) × (Int × Unit))) (@Sp1D.wf a1.2.2.1) (@Sp1D.next a1.2.2.1 (3 : Int))) (fun (y2 : (Int × ((@List Int) × (Int × Unit)))) => (Option.bind (bif (decide (y2.1 > (0 : Int))) then (bif ((decide ((0 : Int) ≤ a1.1)) && (decide (a1.1 < (Int.ofNat a0.1.2.2.1.length)))) then (bif (@Nat.ble ((a1.2.1.length + 1) * 8) 140737488355328) then (some ((a1.2.1 ++ ((List.getD a0.1.2.2.1 (Int.toNat a1.1) ((0 : Int), ((0 : Int), ()))).2.1 :: [])), ())) else none) else none) else (some (a1.2.1, ()))) (fun (y3 : ((@List Int) × Unit)) => (some (.inl ((IntKind.wrap Go.IntKind.i64 (a1.1 + (1 : Int))), (y3.1, (y2.2, ()))))))))) else (some (.inr (a1.2.1, ()))))
noncomputable def g4_s1 (a0 : ((Int × (Int × ((@List (Int × (Int × Unit))) × Unit))) × ((@List Int) × (Int × Unit)))) (a1 : ((@List Int) × Unit)) (a2 : (Int × ((@List Int) × Unit))) : (Option (Sum (Int × ((@List Int) × Unit)) (Bool × ((Bool × Unit) × ((@List Int) × Unit))))) :=
  (bif (decide (a2.1 < (Int.ofNat (@Sp1D.sets a0.1 a1.1).1.length))) then (bif ((decide ((0 : Int) ≤ a2.1)) && (decide (a2.1 < (Int.ofNat (@Sp1D.sets a0.1 a1.1).1.length)))) then (Option.bind (bif (!(!(decide ((@Sp1D.names a0.1 (List.getD (@Sp1D.sets a0.1 a1.1).1 (Int.toNat a2.1) ((0 : Int), ((0 : Int), ())))).2.1 = (0 : Int))))) then (bif (!(!(decide ((@Sp1D.names a0.1 (List.getD (@Sp1D.sets a0.1 a1.1).1 (Int.toNat a2.1) ((0 : Int), ((0 : Int), ())))).2.1 = (0 : Int))))) then (bif (!(!(decide ((@Sp1D.names a0.1 (List.getD (@Sp1D.sets a0.1 a1.1).1 (Int.toNat a2.1) ((0 : Int), ((0 : Int), ())))).2.1 = (0 : Int))))) then (bif (!(!(decide ((@Sp1D.names a0.1 (List.getD (@Sp1D.sets a0.1 a1.1).1 (Int.toNat a2.1) ((0 : Int), ((0 : Int), ())))).2.1 = (0 : Int))))) then (bif (!(decide ((Int.ofNat (@Sp1D.names a0.1 (List.getD (@Sp1D.sets a0.1 a1.1).1 (Int.toNat a2.1) ((0 : Int), ((0 : Int), ())))).1.length) = (0 : Int)))) then (bif (!(decide ((Int.ofNat (@Sp1D.names a0.1 (List.getD (@Sp1D.sets a0.1 a1.1).1 (Int.toNat a2.1) ((0 : Int), ((0 : Int), ())))).1.length) = (0 : Int)))) then (bif (!(decide ((Int.ofNat (@Sp1D.names a0.1 (List.getD (@Sp1D.sets a0.1 a1.1).1 (Int.toNat a2.1) ((0 : Int), ((0 : Int), ())))).1.length) = (0 : Int)))) then (bif (decide (a2.1 > (0 : Int))) then (bif (decide (a2.1 > (0 : Int))) then (bif (decide (a2.1 > (0 : Int))) then (bif (decide (a2.1 > (0 : Int))) then (bif ((decide ((0 : Int) ≤ (IntKind.wrap Go.IntKind.i64 (a2.1 - (1 : Int))))) && (decide ((IntKind.wrap Go.IntKind.i64 (a2.1 - (1 : Int))) < (Int.ofNat (@Sp1D.sets a0.1 a1.1).1.length)))) then (bif (decide (a2.1 > (0 : Int))) then (bif (decide (a2.1 > (0 : Int))) then (bif (decide (a2.1 > (0 : Int))) then (bif (decide (a2.1 > (0 : Int))) then (bif (decide (a2.1 > (0 : Int))) then (bif ((decide ((0 : Int) ≤ a2.1)) && (decide (a2.1 < (Int.ofNat (@Sp1D.sets a0.1 a1.1).1.length)))) then (bif (decide (a2.1 > (0 : Int))) then (bif (decide (a2.1 > (0 : Int))) then (bif (decide (a2.1 > (0 : Int))) then (bif (!(decide ((Int.ofNat (@Sp1D.names a0.1 (List.getD (@Sp1D.sets a0.1 a1.1).1 (Int.toNat a2.1) ((0 : Int), ((0 : Int), ())))).1.length) = (0 : Int)))) then (bif (decide (a2.1 > (0 : Int))) then (bif (!(decide ((Int.ofNat (@Sp1D.names a0.1 (List.getD (@Sp1D.sets a0.1 a1.1).1 (Int.toNat a2.1) ((0 : Int), ((0 : Int), ())))).1.length) = (0 : Int)))) then (some ((decide ((List.getD (@Sp1D.sets a0.1 a1.1).1 (Int.toNat (IntKind.wrap Go.IntKind.i64 (a2.1 - (1 : Int)))) ((0 : Int), ((0 : Int), ()))).1 ≥ (List.getD (@Sp1D.sets a0.1 a1.1).1 (Int.toNat a2.1) ((0 : Int), ((0 : Int), ()))).1)), ())) else none) else none) else none) else none) else none) else none) else none) else none) else none) else none) else none) else none) else none) else none) else none) else none) else (bif (!(decide (a2.1 > (0 : Int)))) then (bif (!(decide (a2.1 > (0 : Int)))) then (bif (!(decide (a2.1 > (0 : Int)))) then (bif (!(decide (a2.1 > (0 : Int)))) then (bif (!(decide (a2.1 > (0 : Int)))) then (bif (!(decide (a2.1 > (0 : Int)))) then (bif (!(decide (a2.1 > (0 : Int)))) then (bif (!(decide (a2.1 > (0 : Int)))) then (bif (!(decide (a2.1 > (0 : Int)))) then (bif (!(decide (a2.1 > (0 : Int)))) then (bif (!(decide (a2.1 > (0 : Int)))) then (bif (!(decide ((Int.ofNat (@Sp1D.names a0.1 (List.getD (@Sp1D.sets a0.1 a1.1).1 (Int.toNat a2.1) ((0 : Int), ((0 : Int), ())))).1.length) = (0 : Int)))) then (bif (!(decide (a2.1 > (0 : Int)))) then (bif (!(decide ((Int.ofNat (@Sp1D.names a0.1 (List.getD (@Sp1D.sets a0.1 a1.1).1 (Int.toNat a2.1) ((0 : Int), ((0 : Int), ())))).1.length) = (0 : Int)))) then (some (false, ())) else none) else none) else none) else none) else none) else none) else none) else none) else none) else none) else none) else none) else none) else none)) else none) else none) else (bif (decide ((Int.ofNat (@Sp1D.names a0.1 (List.getD (@Sp1D.sets a0.1 a1.1).1 (Int.toNat a2.1) ((0 : Int), ((0 : Int), ())))).1.length) = (0 : Int))) then (bif (decide ((Int.ofNat (@Sp1D.names a0.1 (List.getD (@Sp1D.sets a0.1 a1.1).1 (Int.toNat a2.1) ((0 : Int), ((0 : Int), ())))).1.length) = (0 : Int))) then (bif (decide ((Int.ofNat (@Sp1D.names a0.1 (List.getD (@Sp1D.sets a0.1 a1.1).1 (Int.toNat a2.1) ((0 : Int), ((0 : Int), ())))).1.length) = (0 : Int))) then (bif (decide ((Int.ofNat (@Sp1D.names a0.1 (List.getD (@Sp1D.sets a0.1 a1.1).1 (Int.toNat a2.1) ((0 : Int), ((0 : Int), ())))).1.length) = (0 : Int))) then (some (true, ())) else none) else none) else none) else none)) else none) else none) else none) else (bif (!(decide ((@Sp1D.names a0.1 (List.getD (@Sp1D.sets a0.1 a1.1).1 (Int.toNat a2.1) ((0 : Int), ((0 : Int), ())))).2.1 = (0 : Int)))) then (bif (!(decide ((@Sp1D.names a0.1 (List.getD (@Sp1D.sets a0.1 a1.1).1 (Int.toNat a2.1) ((0 : Int), ((0 : Int), ())))).2.1 = (0 : Int)))) then (bif (!(decide ((@Sp1D.names a0.1 (List.getD (@Sp1D.sets a0.1 a1.1).1 (Int.toNat a2.1) ((0 : Int), ((0 : Int), ())))).2.1 = (0 : Int)))) then (some (true, ())) else none) else none) else none)) (fun (y3 : (Bool × Unit)) => (bif y3.1 then (some (.inr (true, ((false, ()), ([], ()))))) else (bif (@Nat.ble ((a2.2.1.length + (@Sp1D.names a0.1 (List.getD (@Sp1D.sets a0.1 a1.1).1 (Int.toNat a2.1) ((0 : Int), ((0 : Int), ())))).1.length) * 8) 140737488355328) then (some (.inl ((IntKind.wrap Go.IntKind.i64 (a2.1 + (1 : Int))), ((a2.2.1 ++ (@Sp1D.names a0.1 (List.getD (@Sp1D.sets a0.1 a1.1).1 (Int.toNat a2.1) ((0 : Int), ((0 : Int), ())))).1), ())))) else none)))) else none) else (some (.inr (false, ((false, ()), a2.2)))))
noncomputable def g4 (a0 : (@List Int)) : (Option (Bool × Unit)) :=
  (Option.bind (@Sp1D.on (((@List (Int × (Bool × Unit))) × ((@List (Int × (Int × (Int × (Int × (Int × Unit)))))) × Unit)) × ((@List Int) × (Int × Unit))) (((@Sp1D.wf (@Sp1D.tape a0)) && (@Sp1D.inside (8 : Int) (1 : Int) (50 : Int))) && (@Sp1D.small (0 : Int))) (@Sp1D.topo (@Sp1D.tape a0) (8 : Int) (0 : Int))) (fun (y1 : (((@List (Int × (Bool × Unit))) × ((@List (Int × (Int × (Int × (Int × (Int × Unit)))))) × Unit)) × ((@List Int) × (Int × Unit)))) => (Option.bind (@Sp1D.on ((Int × (Int × ((@List (Int × (Int × Unit))) × Unit))) × ((@List Int) × (Int × Unit))) (((@Sp1D.wf y1.2) && (@Sp1D.small (0 : Int))) && (decide (y1.1.1.length ≤ 1000))) (@Sp1D.planT y1.2 y1.1 (0 : Int))) (fun (y2 : ((Int × (Int × ((@List (Int × (Int × Unit))) × Unit))) × ((@List Int) × (Int × Unit)))) => (Option.bind (Loop (@g4_s0 y2) ((0 : Int), ([], (y2.2, ())))) (fun (y3 : ((@List Int) × Unit)) => (Option.bind (Loop (@g4_s1 y2 y3) ((0 : Int), ([], ()))) (fun (y4 : (Bool × ((Bool × Unit) × ((@List Int) × Unit)))) => (bif y4.1 then (some y4.2.1) else (Option.bind (bif (decide ((@Sp1D.sets y2.1 y3.1).2.1 = (0 : Int))) then (bif (@Sp1D.sameI y4.2.2.1 y3.1) then (some (true, ())) else (some (false, ()))) else (some (false, ()))) (fun (y5 : (Bool × Unit)) => (some y5))))))))))))
theorem g4_eq (a0 : (@List Int)) : (evF (fun _ _ => Loop) Go.Abs.C1D.E4 Go.Abs.C1D.G4 Go.Proofs.Tryd.f4 Go.Abs.C1D.plan4 Go.Abs.C1D.c4 ((), (a0, ()))).den = g4 a0 := by kernel_rfl

noncomputable def g3_s0 (a0 : ((Int × (Int × ((@List (Int × (Int × Unit))) × Unit))) × ((@List Int) × (Int × Unit)))) (a1 : (Int × ((@List Int) × (((@List Int) × (Int × Unit)) × Unit)))) : (Option (Sum (Int × ((@List Int) × (((@List Int) × (Int × Unit)) × Unit))) ((@List Int) × (((@List Int) × (Int × Unit)) × Unit)))) :=
  (bif (decide (a1.1 < (Int.ofNat a0.1.2.2.1.length))) then (Option.bind (@Sp1D.on (Int × ((@List Int) × (Int × Unit))) (@Sp1D.wf a1.2.2.1) (@Sp1D.next a1.2.2.1 (2 : Int))) (fun (y2 : (Int × ((@List Int) × (Int × Unit)))) => (Option.bind (bif (decide (y2.1 = (0 : Int))) then (bif ((decide ((0 : Int) ≤ a1.1)) && (decide (a1.1 < (Int.ofNat a0.1.2.2.1.length)))) then (bif (@Nat.ble ((a1.2.1.length + 1) * 8) 140737488355328) then (some ((a1.2.1 ++ ((List.getD a0.1.2.2.1 (Int.toNat a1.1) ((0 : Int), ((0 : Int), ()))).2.1 :: [])), ())) else none) else none) else (some (a1.2.1, ()))) (fun (y3 : ((@List Int) × Unit)) => (some (.inl ((IntKind.wrap Go.IntKind.i64 (a1.1 + (1 : Int))), (y3.1, (y2.2, ()))))))))) else (some (.inr a1.2)))
noncomputable def g3_s1 (a0 : ((Int × (Int × ((@List (Int × (Int × Unit))) × Unit))) × ((@List Int) × (Int × Unit)))) (a1 : (Int × ((@List (@List Int)) × Unit))) (a2 : (Int × Unit)) : (Option (Sum (Int × Unit) (Bool × ((Bool × Unit) × Unit)))) :=
  (bif (decide (a2.1 < (Int.ofNat (@Sp1D.sets a0.1 (List.getD a1.2.1 (Int.toNat a1.1) [])).1.length))) then (bif ((decide ((0 : Int) ≤ a2.1)) && (decide (a2.1 < (Int.ofNat (@Sp1D.sets a0.1 (List.getD a1.2.1 (Int.toNat a1.1) [])).1.length)))) then (bif ((decide ((0 : Int) ≤ a2.1)) && (decide (a2.1 < (Int.ofNat (@Sp1D.sets a0.1 (List.getD a1.2.1 (Int.toNat a1.1) [])).1.length)))) then (bif (!((decide ((List.getD (@Sp1D.sets a0.1 (List.getD a1.2.1 (Int.toNat a1.1) [])).1 (Int.toNat a2.1) ((0 : Int), ((0 : Int), ()))).1 = (List.getD (@Sp1D.sets a0.1 (List.getD a1.2.1 (Int.toNat a1.1) [])).1 (Int.toNat a2.1) ((0 : Int), ((0 : Int), ()))).1)) && ((decide ((List.getD (@Sp1D.sets a0.1 (List.getD a1.2.1 (Int.toNat a1.1) [])).1 (Int.toNat a2.1) ((0 : Int), ((0 : Int), ()))).2.1 = (List.getD (@Sp1D.sets a0.1 (List.getD a1.2.1 (Int.toNat a1.1) [])).1 (Int.toNat a2.1) ((0 : Int), ((0 : Int), ()))).2.1)) && true))) then (some (.inr (true, ((false, ()), ())))) else (some (.inl ((IntKind.wrap Go.IntKind.i64 (a2.1 + (1 : Int))), ())))) else none) else none) else (some (.inr (false, ((false, ()), ())))))
noncomputable def g3_s2 (a0 : (@List Int)) (a1 : ((Int × (Int × ((@List (Int × (Int × Unit))) × Unit))) × ((@List Int) × (Int × Unit)))) (a2 : (Int × ((@List (@List Int)) × Unit))) : (Option (Sum (Int × ((@List (@List Int)) × Unit)) (Bool × ((Bool × Unit) × Unit)))) :=
  (Option.bind (bif (decide (a2.1 < (2 : Int))) then (some ((decide ((Int.ofNat a0.length) ≤ (300 : Int))), ())) else (some (false, ()))) (fun (y3 : (Bool × Unit)) => (bif y3.1 then (bif ((decide ((0 : Int) ≤ a2.1)) && (decide (a2.1 < (Int.ofNat a2.2.1.length)))) then (bif (@Nat.blt (Int.toNat a2.1) a2.2.1.length) then (bif ((decide ((0 : Int) ≤ a2.1)) && (decide (a2.1 < (Int.ofNat a2.2.1.length)))) then (bif (@Nat.blt (Int.toNat a2.1) a2.2.1.length) then (Option.bind (bif (!(!(decide ((Int.ofNat (@Sp1D.sets a1.1 (List.getD a2.2.1 (Int.toNat a2.1) [])).1.length) = (Int.ofNat (@Sp1D.sets a1.1 (List.getD a2.2.1 (Int.toNat a2.1) [])).1.length))))) then (some ((!(decide ((@Sp1D.sets a1.1 (List.getD a2.2.1 (Int.toNat a2.1) [])).2.1 = (@Sp1D.sets a1.1 (List.getD a2.2.1 (Int.toNat a2.1) [])).2.1))), ())) else (some (true, ()))) (fun (y4 : (Bool × Unit)) => (bif y4.1 then (some (.inr (true, ((false, ()), ())))) else (Option.bind (Loop (@g3_s1 a1 a2) ((0 : Int), ())) (fun (y5 : (Bool × ((Bool × Unit) × Unit))) => (bif y5.1 then (some (.inr (true, y5.2))) else (some (.inl ((IntKind.wrap Go.IntKind.i64 (a2.1 + (1 : Int))), a2.2))))))))) else none) else none) else none) else none) else (some (.inr (false, ((false, ()), ())))))))
noncomputable def g3_s3 (a0 : ((Int × (Int × ((@List (Int × (Int × Unit))) × Unit))) × ((@List Int) × (Int × Unit)))) (a1 : (Int × ((@List (Int × (Int × Unit))) × Unit))) : (Option (Sum (Int × ((@List (Int × (Int × Unit))) × Unit)) (Bool × ((Bool × Unit) × Unit)))) :=
  (bif (decide (a1.1 < (3 : Int))) then (bif ((decide ((0 : Int) ≤ a1.1)) && (decide (a1.1 < (Int.ofNat a1.2.1.length)))) then (bif (@Nat.blt (Int.toNat a1.1) a1.2.1.length) then (bif ((decide ((0 : Int) ≤ a1.1)) && (decide (a1.1 < (Int.ofNat a1.2.1.length)))) then (bif (@Nat.blt (Int.toNat a1.1) a1.2.1.length) then (Option.bind (bif (!(!(@Sp1D.sameI (@Sp1D.names a0.1 (List.getD a1.2.1 (Int.toNat a1.1) ((0 : Int), ((0 : Int), ())))).1 (@Sp1D.names a0.1 (List.getD a1.2.1 (Int.toNat a1.1) ((0 : Int), ((0 : Int), ())))).1))) then (some ((!(decide ((@Sp1D.names a0.1 (List.getD a1.2.1 (Int.toNat a1.1) ((0 : Int), ((0 : Int), ())))).2.1 = (@Sp1D.names a0.1 (List.getD a1.2.1 (Int.toNat a1.1) ((0 : Int), ((0 : Int), ())))).2.1))), ())) else (some (true, ()))) (fun (y2 : (Bool × Unit)) => (bif y2.1 then (some (.inr (true, ((false, ()), ())))) else (some (.inl ((IntKind.wrap Go.IntKind.i64 (a1.1 + (1 : Int))), a1.2)))))) else none) else none) else none) else none) else (some (.inr (false, ((false, ()), ())))))
noncomputable def g3 (a0 : (@List Int)) (a1 : (@List Int)) (a2 : Int) (a3 : Int) : (Option (Bool × Unit)) :=
  (Option.bind (@Sp1D.on (((@List (Int × (Bool × Unit))) × ((@List (Int × (Int × (Int × (Int × (Int × Unit)))))) × Unit)) × ((@List Int) × (Int × Unit))) (((@Sp1D.wf (@Sp1D.tape a0)) && (@Sp1D.inside (7 : Int) (1 : Int) (50 : Int))) && (@Sp1D.small (0 : Int))) (@Sp1D.topo (@Sp1D.tape a0) (7 : Int) (0 : Int))) (fun (y4 : (((@List (Int × (Bool × Unit))) × ((@List (Int × (Int × (Int × (Int × (Int × Unit)))))) × Unit)) × ((@List Int) × (Int × Unit)))) => (Option.bind (@Sp1D.on ((Int × (Int × ((@List (Int × (Int × Unit))) × Unit))) × ((@List Int) × (Int × Unit))) (((@Sp1D.wf y4.2) && (@Sp1D.small (6 : Int))) && (decide (y4.1.1.length ≤ 1000))) (@Sp1D.planT y4.2 y4.1 (6 : Int))) (fun (y5 : ((Int × (Int × ((@List (Int × (Int × Unit))) × Unit))) × ((@List Int) × (Int × Unit)))) => (Option.bind (Loop (@g3_s0 y5) ((0 : Int), ([], (y5.2, ())))) (fun (y6 : ((@List Int) × (((@List Int) × (Int × Unit)) × Unit))) => (Option.bind (@Sp1D.on (Bool × ((@List Int) × (Int × Unit))) ((@Sp1D.wf y6.2.1) && (@Sp1D.small (4 : Int))) (@Sp1D.one y6.2.1 (4 : Int))) (fun (y7 : (Bool × ((@List Int) × (Int × Unit)))) => (Option.bind (bif y7.1 then (Option.bind (@Sp1D.on (Int × ((@List Int) × (Int × Unit))) (((@Sp1D.wf y7.2) && (decide (0 < 6))) && (decide (6 ≤ 1000))) (@Sp1D.pick y7.2 ((0 : Int) :: ((1 : Int) :: ((8 : Int) :: ((9 : Int) :: ((256 : Int) :: ((257 : Int) :: [])))))))) (fun (y8 : (Int × ((@List Int) × (Int × Unit)))) => (bif (@Nat.ble ((y6.1.length + 1) * 8) 140737488355328) then (some (y8.2, ((y6.1 ++ (y8.1 :: [])), ()))) else none))) else (some (y7.2, (y6.1, ())))) (fun (y8 : (((@List Int) × (Int × Unit)) × ((@List Int) × Unit))) => (Option.bind (Loop (@g3_s2 a1 y5) ((0 : Int), ((y8.2.1 :: (a1 :: [])), ()))) (fun (y9 : (Bool × ((Bool × Unit) × Unit))) => (bif y9.1 then (some y9.2.1) else (Option.bind (@Sp1D.on (Int × ((@List Int) × (Int × Unit))) (@Sp1D.wf y8.1) (@Sp1D.next y8.1 (3 : Int))) (fun (y10 : (Int × ((@List Int) × (Int × Unit)))) => (Option.bind (@Sp1D.on (Int × ((@List Int) × (Int × Unit))) (@Sp1D.wf y10.2) (@Sp1D.Bt.bits y10.2 (8 : Int))) (fun (y11 : (Int × ((@List Int) × (Int × Unit)))) => (Option.bind (@Sp1D.on (Int × ((@List Int) × (Int × Unit))) (@Sp1D.wf y11.2) (@Sp1D.next y11.2 (8 : Int))) (fun (y12 : (Int × ((@List Int) × (Int × Unit)))) => (Option.bind (Loop (@g3_s3 y5) ((0 : Int), (((a2, (a3, ())) :: ((y10.1, (y11.1, ())) :: (((0 : Int), ((@Sp1D.Bt.bit1 y12.1), ())) :: []))), ()))) (fun (y13 : (Bool × ((Bool × Unit) × Unit))) => (bif y13.1 then (some y13.2.1) else (some (true, ()))))))))))))))))))))))))
theorem g3_eq (a0 : (@List Int)) (a1 : (@List Int)) (a2 : Int) (a3 : Int) : (evF (fun _ _ => Loop) Go.Abs.C1D.E3 Go.Abs.C1D.G3 Go.Proofs.Tryd.f3 Go.Abs.C1D.plan3 Go.Abs.C1D.c3 ((), (a0, (a1, ((a2, (a3, ())), ()))))).den = g3 a0 a1 a2 a3 := by kernel_rfl

noncomputable def g6_s0 (a0 : (@List (Int × (Bool × Unit)))) (a1 : (Int × ((Int × (Int × ((@List (Int × (Int × Unit))) × Unit))) × (Int × (((@List Int) × (Int × Unit)) × ((@List Int) × Unit)))))) : (Option (Sum (Int × ((Int × (Int × ((@List (Int × (Int × Unit))) × Unit))) × (Int × (((@List Int) × (Int × Unit)) × ((@List Int) × Unit))))) ((Int × (Int × ((@List (Int × (Int × Unit))) × Unit))) × (Int × (((@List Int) × (Int × Unit)) × Unit))))) :=
  (bif (decide (a1.1 < (Int.ofNat a1.2.2.2.2.1.length))) then (Option.bind (@Sp1D.on (Int × ((@List Int) × (Int × Unit))) (@Sp1D.wf a1.2.2.2.1) (@Sp1D.next a1.2.2.2.1 (4 : Int))) (fun (y2 : (Int × ((@List Int) × (Int × Unit)))) => (bif (decide (y2.1 = (0 : Int))) then (some (.inl ((IntKind.wrap Go.IntKind.i64 (a1.1 + (1 : Int))), (a1.2.1, (a1.2.2.1, (y2.2, a1.2.2.2.2)))))) else (Option.bind (@Sp1D.on (Int × ((@List Int) × (Int × Unit))) (((@Sp1D.wf y2.2) && (decide (0 < ((1 : Int) :: ((1 : Int) :: ((1 : Int) :: ((2 : Int) :: ((IntKind.wrap Go.IntKind.i64 (a1.2.1.2.1 - (1 : Int))) :: []))))).length))) && (decide (((1 : Int) :: ((1 : Int) :: ((1 : Int) :: ((2 : Int) :: ((IntKind.wrap Go.IntKind.i64 (a1.2.1.2.1 - (1 : Int))) :: []))))).length ≤ 1000))) (@Sp1D.pick y2.2 ((1 : Int) :: ((1 : Int) :: ((1 : Int) :: ((2 : Int) :: ((IntKind.wrap Go.IntKind.i64 (a1.2.1.2.1 - (1 : Int))) :: []))))))) (fun (y3 : (Int × ((@List Int) × (Int × Unit)))) => (Option.bind (bif (decide ((IntKind.wrap Go.IntKind.i64 (a1.2.2.1 + y3.1)) ≤ (256 : Int))) then (bif ((decide ((0 : Int) ≤ a1.1)) && (decide (a1.1 < (Int.ofNat a1.2.2.2.2.1.length)))) then (bif (@Nat.blt (Int.toNat a1.1) a1.2.2.2.2.1.length) then (bif ((decide ((0 : Int) ≤ (List.getD a1.2.2.2.2.1 (Int.toNat a1.1) (0 : Int)))) && (decide ((List.getD a1.2.2.2.2.1 (Int.toNat a1.1) (0 : Int)) < (Int.ofNat a0.length)))) then (bif (@Nat.ble ((a1.2.1.2.2.1.length + 1) * 16) 140737488355328) then (some (a1.2.2.2.2.1, ((a1.2.1.1, (a1.2.1.2.1, ((a1.2.1.2.2.1 ++ (((List.getD a0 (Int.toNat (List.getD a1.2.2.2.2.1 (Int.toNat a1.1) (0 : Int))) ((0 : Int), (false, ()))).1, ((IntKind.wrap Go.IntKind.i64 (a1.2.2.1 + y3.1)), ())) :: [])), ()))), ()))) else none) else none) else none) else none) else (some (a1.2.2.2.2.1, (a1.2.1, ())))) (fun (y4 : ((@List Int) × ((Int × (Int × ((@List (Int × (Int × Unit))) × Unit))) × Unit))) => (some (.inl ((IntKind.wrap Go.IntKind.i64 (a1.1 + (1 : Int))), (y4.2.1, ((IntKind.wrap Go.IntKind.i64 (a1.2.2.1 + y3.1)), (y3.2, (y4.1, ())))))))))))))) else (some (.inr (a1.2.1, (a1.2.2.1, (a1.2.2.2.1, ()))))))
noncomputable def g6 (a0 : (@List Int)) (a1 : Int) (a2 : (@List (Int × (Bool × Unit)))) (a3 : (@List (Int × (Int × (Int × (Int × (Int × Unit))))))) (a4 : Int) : (Option ((Int × (Int × ((@List (Int × (Int × Unit))) × Unit))) × ((@List Int) × (Int × Unit)))) :=
  (Option.bind (@Sp1D.on (Int × ((@List Int) × (Int × Unit))) (@Sp1D.wf (a0, (a1, ()))) (@Sp1D.next (a0, (a1, ())) (3 : Int))) (fun (y5 : (Int × ((@List Int) × (Int × Unit)))) => (Option.bind (@Sp1D.on (Int × ((@List Int) × (Int × Unit))) (@Sp1D.wf y5.2) (@Sp1D.length y5.2)) (fun (y6 : (Int × ((@List Int) × (Int × Unit)))) => (Option.bind (@Sp1D.on ((@List Int) × ((@List Int) × (Int × Unit))) ((@Sp1D.wf y6.2) && (@Sp1D.inside (Int.ofNat a2.length) (0 : Int) (1000 : Int))) (@Sp1D.order y6.2 (Int.toNat (Int.ofNat a2.length)))) (fun (y7 : ((@List Int) × ((@List Int) × (Int × Unit)))) => (Option.bind (Loop (@g6_s0 a2) ((0 : Int), ((y5.1, (y6.1, ([], ()))), ((0 : Int), (y7.2, (y7.1, ())))))) (fun (y8 : ((Int × (Int × ((@List (Int × (Int × Unit))) × Unit))) × (Int × (((@List Int) × (Int × Unit)) × Unit)))) => (Option.bind (bif (decide (a4 > (0 : Int))) then (Option.bind (@Sp1D.on (Bool × ((@List Int) × (Int × Unit))) ((@Sp1D.wf y8.2.2.1) && (@Sp1D.small a4)) (@Sp1D.one y8.2.2.1 a4)) (fun (y9 : (Bool × ((@List Int) × (Int × Unit)))) => (some (y9.2, (y9.1, ()))))) else (some (y8.2.2.1, (false, ())))) (fun (y9 : (((@List Int) × (Int × Unit)) × (Bool × Unit))) => (Option.bind (bif y9.2.1 then (Option.bind (@Sp1D.on (Int × ((@List Int) × (Int × Unit))) (@Sp1D.wf y9.1) (@Sp1D.next y9.1 (5 : Int))) (fun (y10 : (Int × ((@List Int) × (Int × Unit)))) => (Option.bind (bif (decide (y10.1 = (0 : Int))) then (Option.bind (@Sp1D.on (Int × ((@List Int) × (Int × Unit))) (@Sp1D.wf y10.2) (@Sp1D.wild y10.2)) (fun (y11 : (Int × ((@List Int) × (Int × Unit)))) => (some ((y11.1, y8.1.2), (y11.2, ()))))) else (Option.bind (bif (decide (y10.1 = (1 : Int))) then (Option.bind (@Sp1D.on (Int × ((@List Int) × (Int × Unit))) (((@Sp1D.wf y10.2) && (decide (0 < 5))) && (decide (5 ≤ 1000))) (@Sp1D.pick y10.2 ((0 : Int) :: ((8 : Int) :: ((24 : Int) :: ((64 : Int) :: ((128 : Int) :: []))))))) (fun (y11 : (Int × ((@List Int) × (Int × Unit)))) => (some (y11.2, ((y8.1.1, (y11.1, y8.1.2.2)), ()))))) else (Option.bind (bif (decide (y10.1 = (2 : Int))) then (Option.bind (@Sp1D.on (Int × ((@List Int) × (Int × Unit))) (((@Sp1D.wf y10.2) && (decide (0 < 4))) && (decide (4 ≤ 1000))) (@Sp1D.pick y10.2 ((0 : Int) :: ((1 : Int) :: ((99 : Int) :: ((100 : Int) :: [])))))) (fun (y11 : (Int × ((@List Int) × (Int × Unit)))) => (Option.bind (@Sp1D.on (Int × ((@List Int) × (Int × Unit))) (((@Sp1D.wf y11.2) && (decide (0 < 4))) && (decide (4 ≤ 1000))) (@Sp1D.pick y11.2 ((0 : Int) :: ((1 : Int) :: ((256 : Int) :: ((257 : Int) :: [])))))) (fun (y12 : (Int × ((@List Int) × (Int × Unit)))) => (bif (@Nat.ble ((y8.1.2.2.1.length + 1) * 16) 140737488355328) then (some ((y8.1.1, (y8.1.2.1, ((y8.1.2.2.1 ++ ((y11.1, (y12.1, ())) :: [])), ()))), (y12.2, ()))) else none))))) else (Option.bind (bif (decide (y10.1 = (3 : Int))) then (Option.bind (bif (decide ((Int.ofNat y8.1.2.2.1.length) > (0 : Int))) then (Option.bind (@Sp1D.on (Int × ((@List Int) × (Int × Unit))) (@Sp1D.wf y10.2) (@Sp1D.wild y10.2)) (fun (y11 : (Int × ((@List Int) × (Int × Unit)))) => (bif (true && (decide ((0 : Int) < (Int.ofNat y8.1.2.2.1.length)))) then (bif (@Nat.blt 0 y8.1.2.2.1.length) then (some ((y8.1.1, (y8.1.2.1, ((List.set y8.1.2.2.1 0 ((List.getD y8.1.2.2.1 0 ((0 : Int), ((0 : Int), ()))).1, (y11.1, ()))), ()))), (y11.2, ()))) else none) else none))) else (some (y8.1, (y10.2, ())))) (fun (y11 : ((Int × (Int × ((@List (Int × (Int × Unit))) × Unit))) × (((@List Int) × (Int × Unit)) × Unit))) => (some (y11.2.1, (y11.1, ()))))) else (bif (@Nat.ble ((y8.1.2.2.1.length + 1) * 16) 140737488355328) then (some (y10.2, ((y8.1.1, (y8.1.2.1, ((y8.1.2.2.1 ++ (((50 : Int), ((IntKind.wrap Go.IntKind.i64 (y8.2.1 + (1 : Int))), ())) :: [])), ()))), ()))) else none)) (fun (y11 : (((@List Int) × (Int × Unit)) × ((Int × (Int × ((@List (Int × (Int × Unit))) × Unit))) × Unit))) => (some (y11.2.1, (y11.1, ())))))) (fun (y11 : ((Int × (Int × ((@List (Int × (Int × Unit))) × Unit))) × (((@List Int) × (Int × Unit)) × Unit))) => (some (y11.2.1, (y11.1, ())))))) (fun (y11 : (((@List Int) × (Int × Unit)) × ((Int × (Int × ((@List (Int × (Int × Unit))) × Unit))) × Unit))) => (some (y11.2.1, (y11.1, ())))))) (fun (y11 : ((Int × (Int × ((@List (Int × (Int × Unit))) × Unit))) × (((@List Int) × (Int × Unit)) × Unit))) => (some y11))))) else (some (y8.1, (y9.1, ())))) (fun (y10 : ((Int × (Int × ((@List (Int × (Int × Unit))) × Unit))) × (((@List Int) × (Int × Unit)) × Unit))) => (some (y10.1, y10.2.1))))))))))))))
theorem g6_eq (a0 : (@List Int)) (a1 : Int) (a2 : (@List (Int × (Bool × Unit)))) (a3 : (@List (Int × (Int × (Int × (Int × (Int × Unit))))))) (a4 : Int) : (evF (fun _ _ => Loop) Go.Abs.C1D.E6 Go.Abs.C1D.G6 Go.Proofs.Tryd.f6 Go.Abs.C1D.plan6 Go.Abs.C1D.c6 ((a0, (a1, ())), ((a2, (a3, ())), (a4, ())))).den = g6 a0 a1 a2 a3 a4 := by kernel_rfl

noncomputable def g12_s0 (a0 : (@List Int)) (a1 : (Int × Unit)) : (Option (Sum (Int × Unit) (Bool × (((@List (Int × (Int × Unit))) × (Int × Unit)) × Unit)))) :=
  (bif (decide (a1.1 < (Int.ofNat a0.length))) then (bif ((decide ((0 : Int) ≤ (IntKind.wrap Go.IntKind.i64 (a1.1 - (1 : Int))))) && (decide ((IntKind.wrap Go.IntKind.i64 (a1.1 - (1 : Int))) < (Int.ofNat a0.length)))) then (bif ((decide ((0 : Int) ≤ a1.1)) && (decide (a1.1 < (Int.ofNat a0.length)))) then (bif (decide ((List.getD a0 (Int.toNat (IntKind.wrap Go.IntKind.i64 (a1.1 - (1 : Int)))) (0 : Int)) ≥ (List.getD a0 (Int.toNat a1.1) (0 : Int)))) then (some (.inr (true, (([], ((25 : Int), ())), ())))) else (some (.inl ((IntKind.wrap Go.IntKind.i64 (a1.1 + (1 : Int))), ())))) else none) else none) else (some (.inr (false, (([], ((0 : Int), ())), ())))))
noncomputable def g12_s1 (a0 : Int) (a1 : Int) (a2 : (@List (Int × (Int × Unit)))) (a3 : (@List Int)) (a4 : (Int × Unit)) : (Option (Sum (Int × Unit) (Bool × ((Int × ((@List (Int × (Int × Unit))) × Unit)) × Unit)))) :=
  (bif (decide (a4.1 < (Int.ofNat a3.length))) then (bif ((decide ((0 : Int) ≤ a4.1)) && (decide (a4.1 < (Int.ofNat a3.length)))) then (bif (!(@Sp1D.edgeF (a0, (a1, (a2, ()))) (List.getD a3 (Int.toNat a4.1) (0 : Int))).2.1) then (some (.inr (true, (((4 : Int), ([], ())), ())))) else (some (.inl ((IntKind.wrap Go.IntKind.i64 (a4.1 + (1 : Int))), ())))) else none) else (some (.inr (false, (((0 : Int), ([], ())), ())))))
noncomputable def g12_s2 (a0 : Int) (a1 : (@List Int)) (a2 : ((@List (Int × (Int × Unit))) × (Int × Unit))) : (Option (Sum ((@List (Int × (Int × Unit))) × (Int × Unit)) ((@List (Int × (Int × Unit))) × Unit))) :=
  (bif (decide (a2.2.1 < (Int.ofNat a1.length))) then (bif ((decide ((0 : Int) ≤ a2.2.1)) && (decide (a2.2.1 < (Int.ofNat a1.length)))) then (Option.bind (bif (!(decide ((Int.ofNat a2.1.length) = (0 : Int)))) then (bif ((decide ((0 : Int) ≤ (IntKind.wrap Go.IntKind.i64 ((Int.ofNat a2.1.length) - (1 : Int))))) && (decide ((IntKind.wrap Go.IntKind.i64 ((Int.ofNat a2.1.length) - (1 : Int))) < (Int.ofNat a2.1.length)))) then (bif (@Nat.blt (Int.toNat (IntKind.wrap Go.IntKind.i64 ((Int.ofNat a2.1.length) - (1 : Int)))) a2.1.length) then (some (a2.1, ((!(decide ((List.getD a2.1 (Int.toNat (IntKind.wrap Go.IntKind.i64 ((Int.ofNat a2.1.length) - (1 : Int)))) ((0 : Int), ((0 : Int), ()))).1 = (@Sp1D.place (List.getD a1 (Int.toNat a2.2.1) (0 : Int)) a0).1))), ()))) else none) else none) else (some (a2.1, (true, ())))) (fun (y3 : ((@List (Int × (Int × Unit))) × (Bool × Unit))) => (Option.bind (bif y3.2.1 then (bif (@Nat.ble ((y3.1.length + 1) * 16) 140737488355328) then (some ((y3.1 ++ (((@Sp1D.place (List.getD a1 (Int.toNat a2.2.1) (0 : Int)) a0).1, ((0 : Int), ())) :: [])), ())) else none) else (some (y3.1, ()))) (fun (y4 : ((@List (Int × (Int × Unit))) × Unit)) => (bif ((decide ((0 : Int) ≤ (IntKind.wrap Go.IntKind.i64 ((Int.ofNat y4.1.length) - (1 : Int))))) && (decide ((IntKind.wrap Go.IntKind.i64 ((Int.ofNat y4.1.length) - (1 : Int))) < (Int.ofNat y4.1.length)))) then (bif (@Nat.blt (Int.toNat (IntKind.wrap Go.IntKind.i64 ((Int.ofNat y4.1.length) - (1 : Int)))) y4.1.length) then (bif ((decide ((0 : Int) ≤ (IntKind.wrap Go.IntKind.i64 ((Int.ofNat y4.1.length) - (1 : Int))))) && (decide ((IntKind.wrap Go.IntKind.i64 ((Int.ofNat y4.1.length) - (1 : Int))) < (Int.ofNat y4.1.length)))) then (bif (@Nat.blt (Int.toNat (IntKind.wrap Go.IntKind.i64 ((Int.ofNat y4.1.length) - (1 : Int)))) y4.1.length) then (some (.inl ((List.set y4.1 (Int.toNat (IntKind.wrap Go.IntKind.i64 ((Int.ofNat y4.1.length) - (1 : Int)))) ((List.getD y4.1 (Int.toNat (IntKind.wrap Go.IntKind.i64 ((Int.ofNat y4.1.length) - (1 : Int)))) ((0 : Int), ((0 : Int), ()))).1, ((IntKind.wrap Go.IntKind.u64 (Int.ofNat (@BitVec.toNat 64 (@BitVec.or 64 (@BitVec.ofInt 64 (List.getD y4.1 (Int.toNat (IntKind.wrap Go.IntKind.i64 ((Int.ofNat y4.1.length) - (1 : Int)))) ((0 : Int), ((0 : Int), ()))).2.1) (@BitVec.ofInt 64 (@Sp1D.Bt.bit1 (@Sp1D.place (List.getD a1 (Int.toNat a2.2.1) (0 : Int)) a0).2.1)))))), ()))), ((IntKind.wrap Go.IntKind.i64 (a2.2.1 + (1 : Int))), ())))) else none) else none) else none) else none))))) else none) else (some (.inr (a2.1, ()))))
noncomputable def g12 (a0 : Int) (a1 : Int) (a2 : (@List (Int × (Int × Unit)))) (a3 : (@List Int)) : (Option (((@List (Int × (Int × Unit))) × (Int × Unit)) × Unit)) :=
  (bif (!(@Sp1D.validP (a0, (a1, (a2, ()))))) then (some (([], ((1 : Int), ())), ())) else (Option.bind (Loop (@g12_s0 a3) ((1 : Int), ())) (fun (y4 : (Bool × (((@List (Int × (Int × Unit))) × (Int × Unit)) × Unit))) => (bif y4.1 then (some y4.2) else (Option.bind (Loop (@g12_s1 a0 a1 a2 a3) ((0 : Int), ())) (fun (y5 : (Bool × ((Int × ((@List (Int × (Int × Unit))) × Unit)) × Unit))) => (bif y5.1 then (some ((y5.2.1.2.1, (y5.2.1.1, ())), ())) else (Option.bind (Loop (@g12_s2 a1 a3) ([], ((0 : Int), ()))) (fun (y6 : ((@List (Int × (Int × Unit))) × Unit)) => (some ((y6.1, ((0 : Int), ())), ())))))))))))
theorem g12_eq (a0 : Int) (a1 : Int) (a2 : (@List (Int × (Int × Unit)))) (a3 : (@List Int)) : (evF (fun _ _ => Loop) Go.Abs.C1D.E12 Go.Abs.C1D.G12 Go.Proofs.Tryd.f12 Go.Abs.C1D.plan12 Go.Abs.C1D.c12 ((), ((a0, (a1, (a2, ()))), (a3, ())))).den = g12 a0 a1 a2 a3 := by kernel_rfl

noncomputable def g55_s0 (a0 : (@List (Int × ((Int × (Int × (Int × Unit))) × Unit)))) (a1 : Int) (a2 : ((@List Int) × (Int × Unit))) : (Option (Sum ((@List Int) × (Int × Unit)) ((@List Int) × Unit))) :=
  (bif (decide (a2.2.1 < (Int.ofNat a0.length))) then (bif ((decide ((0 : Int) ≤ a2.2.1)) && (decide (a2.2.1 < (Int.ofNat a0.length)))) then (Option.bind (bif (decide ((List.getD a0 (Int.toNat a2.2.1) ((0 : Int), (((0 : Int), ((0 : Int), ((0 : Int), ()))), ()))).2.1.1 = a1)) then (bif ((decide ((0 : Int) ≤ (List.getD a0 (Int.toNat a2.2.1) ((0 : Int), (((0 : Int), ((0 : Int), ((0 : Int), ()))), ()))).2.1.2.1)) && (decide ((List.getD a0 (Int.toNat a2.2.1) ((0 : Int), (((0 : Int), ((0 : Int), ((0 : Int), ()))), ()))).2.1.2.1 < (257 : Int)))) then (bif (@Nat.blt ((Int.toNat (List.getD a0 (Int.toNat a2.2.1) ((0 : Int), (((0 : Int), ((0 : Int), ((0 : Int), ()))), ()))).2.1.2.1) * 1) a2.1.length) then (bif ((decide ((0 : Int) ≤ (List.getD a0 (Int.toNat a2.2.1) ((0 : Int), (((0 : Int), ((0 : Int), ((0 : Int), ()))), ()))).2.1.2.1)) && (decide ((List.getD a0 (Int.toNat a2.2.1) ((0 : Int), (((0 : Int), ((0 : Int), ((0 : Int), ()))), ()))).2.1.2.1 < (257 : Int)))) then (bif (@Nat.blt ((Int.toNat (List.getD a0 (Int.toNat a2.2.1) ((0 : Int), (((0 : Int), ((0 : Int), ((0 : Int), ()))), ()))).2.1.2.1) * 1) a2.1.length) then (some ((List.set a2.1 ((Int.toNat (List.getD a0 (Int.toNat a2.2.1) ((0 : Int), (((0 : Int), ((0 : Int), ((0 : Int), ()))), ()))).2.1.2.1) * 1) (IntKind.wrap Go.IntKind.i64 ((List.getD a2.1 ((Int.toNat (List.getD a0 (Int.toNat a2.2.1) ((0 : Int), (((0 : Int), ((0 : Int), ((0 : Int), ()))), ()))).2.1.2.1) * 1) (0 : Int)) + (1 : Int)))), ())) else none) else none) else none) else none) else (some (a2.1, ()))) (fun (y3 : ((@List Int) × Unit)) => (some (.inl (y3.1, ((IntKind.wrap Go.IntKind.i64 (a2.2.1 + (1 : Int))), ())))))) else none) else (some (.inr (a2.1, ()))))
noncomputable def g55 (a0 : (@List (Int × ((Int × (Int × (Int × Unit))) × Unit)))) (a1 : Int) : (Option ((@List Int) × Unit)) :=
  (Option.bind (Loop (@g55_s0 a0 a1) ((List.replicate 257 (0 : Int)), ((0 : Int), ()))) (fun (y2 : ((@List Int) × Unit)) => (bif (@Nat.beq y2.1.length 257) then (bif (true && (@Nat.beq y2.1.length 257)) then (some ((@Go.Abs.fixN 257 y2.1), ())) else none) else none)))
theorem g55_eq (a0 : (@List (Int × ((Int × (Int × (Int × Unit))) × Unit)))) (a1 : Int) : (evF (fun _ _ => Loop) Go.Abs.C1D.E55 Go.Abs.C1D.G55 Go.Proofs.Tryd.f55 Go.Abs.C1D.plan55 Go.Abs.C1D.c55 ((), (a0, (a1, ())))).den = g55 a0 a1 := by kernel_rfl

noncomputable def g32_s0 (a0 : (@List (Int × (Int × Unit)))) (a1 : Int) (a2 : ((Int × (Int × Unit)) × (Int × Unit))) : (Option (Sum ((Int × (Int × Unit)) × (Int × Unit)) (Bool × (((Int × (Int × Unit)) × (Bool × Unit)) × ((Int × (Int × Unit)) × Unit))))) :=
  (bif (decide (a2.2.1 < (Int.ofNat a0.length))) then (bif ((decide ((0 : Int) ≤ a2.2.1)) && (decide (a2.2.1 < (Int.ofNat a0.length)))) then (bif (decide ((List.getD a0 (Int.toNat a2.2.1) ((0 : Int), ((0 : Int), ()))).2.1 = a1)) then (bif ((decide ((0 : Int) ≤ a2.2.1)) && (decide (a2.2.1 < (Int.ofNat a0.length)))) then (some (.inr (true, (((List.getD a0 (Int.toNat a2.2.1) ((0 : Int), ((0 : Int), ()))), (true, ())), (((0 : Int), ((0 : Int), ())), ()))))) else none) else (some (.inl (a2.1, ((IntKind.wrap Go.IntKind.i64 (a2.2.1 + (1 : Int))), ()))))) else none) else (some (.inr (false, ((((0 : Int), ((0 : Int), ())), (false, ())), (a2.1, ()))))))
noncomputable def g32 (a0 : Int) (a1 : Int) (a2 : (@List (Int × (Int × Unit)))) (a3 : Int) : (Option (((Int × (Int × Unit)) × (Bool × Unit)) × Unit)) :=
  (Option.bind (Loop (@g32_s0 a2 a3) (((0 : Int), ((0 : Int), ())), ((0 : Int), ()))) (fun (y4 : (Bool × (((Int × (Int × Unit)) × (Bool × Unit)) × ((Int × (Int × Unit)) × Unit)))) => (bif y4.1 then (some (y4.2.1, ())) else (some ((((0 : Int), ((0 : Int), ())), (false, ())), ())))))
theorem g32_eq (a0 : Int) (a1 : Int) (a2 : (@List (Int × (Int × Unit)))) (a3 : Int) : (evF (fun _ _ => Loop) Go.Abs.C1D.E32 Go.Abs.C1D.G32 Go.Proofs.Tryd.f32 Go.Abs.C1D.plan32 Go.Abs.C1D.c32 ((), ((a0, (a1, (a2, ()))), (a3, ())))).den = g32 a0 a1 a2 a3 := by kernel_rfl

noncomputable def g17_s0 (a0 : (@List Int)) (a1 : (@List Int)) (a2 : (Int × Unit)) : (Option (Sum (Int × Unit) (Bool × ((Bool × Unit) × Unit)))) :=
  (bif (decide (a2.1 < (Int.ofNat a0.length))) then (bif ((decide ((0 : Int) ≤ a2.1)) && (decide (a2.1 < (Int.ofNat a0.length)))) then (bif ((decide ((0 : Int) ≤ a2.1)) && (decide (a2.1 < (Int.ofNat a1.length)))) then (bif (!(decide ((List.getD a0 (Int.toNat a2.1) (0 : Int)) = (List.getD a1 (Int.toNat a2.1) (0 : Int))))) then (some (.inr (true, ((false, ()), ())))) else (some (.inl ((IntKind.wrap Go.IntKind.i64 (a2.1 + (1 : Int))), ())))) else none) else none) else (some (.inr (false, ((false, ()), ())))))
noncomputable def g17 (a0 : (@List Int)) (a1 : (@List Int)) : (Option (Bool × Unit)) :=
  (bif (!(decide ((Int.ofNat a0.length) = (Int.ofNat a1.length)))) then (some (false, ())) else (Option.bind (Loop (@g17_s0 a0 a1) ((0 : Int), ())) (fun (y2 : (Bool × ((Bool × Unit) × Unit))) => (bif y2.1 then (some y2.2.1) else (some (true, ()))))))
theorem g17_eq (a0 : (@List Int)) (a1 : (@List Int)) : (evF (fun _ _ => Loop) Go.Abs.C1D.E17 Go.Abs.C1D.G17 Go.Proofs.Tryd.f17 Go.Abs.C1D.plan17 Go.Abs.C1D.c17 ((), (a0, (a1, ())))).den = g17 a0 a1 := by kernel_rfl

noncomputable def g61v_s0 (a0 : (@List (Int × (Int × Unit)))) (a1 : Int) (a2 : (Int × Unit)) : (Option (Sum (Int × Unit) (Bool × ((Int × Unit) × Unit)))) :=
  (bif (decide (a2.1 < (Int.ofNat a0.length))) then (bif ((decide ((0 : Int) ≤ a2.1)) && (decide (a2.1 < (Int.ofNat a0.length)))) then (bif (decide ((List.getD a0 (Int.toNat a2.1) ((0 : Int), ((0 : Int), ()))).2.1 = a1)) then (some (.inr (true, (a2, ())))) else (some (.inl ((IntKind.wrap Go.IntKind.i64 (a2.1 + (1 : Int))), ())))) else none) else (some (.inr (false, (((0 : Int), ()), ())))))
noncomputable def g61v (a0 : (@List (Int × (Int × Unit)))) (a1 : Int) : (Option (Int × Unit)) :=
  (Option.bind (Loop (@g61v_s0 a0 a1) ((0 : Int), ())) (fun (y2 : (Bool × ((Int × Unit) × Unit))) => (bif y2.1 then (some y2.2.1) else (some ((-1 : Int), ())))))
theorem g61v_eq (a0 : (@List (Int × (Int × Unit)))) (a1 : Int) : (evF (fun _ _ => Loop) Go.Abs.C1D.E61v Go.Abs.C1D.G61v Go.Proofs.Tryd.f61 Go.Abs.C1D.plan61v Go.Abs.C1D.c61v ((), (a0, ((a1, ()), ())))).den = g61v a0 a1 := by kernel_rfl

noncomputable def g35_s0 (a0 : ((@List Int) × (Int × Unit))) : (Option (Sum ((@List Int) × (Int × Unit)) ((@List Int) × Unit))) :=
  (bif (!(decide (a0.2.1 = (0 : Int)))) then (bif (@Nat.ble ((a0.1.length + 1) * 8) 140737488355328) then (some (.inl ((a0.1 ++ ((@Sp1D.Bt.nth a0.2.1 (0 : Int)) :: [])), ((IntKind.wrap Go.IntKind.u64 (Int.ofNat (@BitVec.toNat 64 (@BitVec.and 64 (@BitVec.ofInt 64 a0.2.1) (@BitVec.ofInt 64 (IntKind.wrap Go.IntKind.u64 (a0.2.1 - (1 : Int)))))))), ())))) else none) else (some (.inr (a0.1, ()))))
noncomputable def g35 (a0 : Int) : (Option ((@List Int) × Unit)) :=
  (Option.bind (Loop g35_s0 ([], (a0, ()))) (fun (y1 : ((@List Int) × Unit)) => (some y1)))
theorem g35_eq (a0 : Int) : (evF (fun _ _ => Loop) Go.Abs.C1D.E35 Go.Abs.C1D.G35 Go.Proofs.Tryd.f35 Go.Abs.C1D.plan35 Go.Abs.C1D.c35 ((), (a0, ()))).den = g35 a0 := by kernel_rfl

noncomputable def g30 (a0 : Int) (a1 : Int) : (Option ((Int × (Int × (Bool × Unit))) × Unit)) :=
  (Option.bind (bif (!(!(@Sp1D.vlen a1))) then (some ((!(@Sp1D.inside a0 (1 : Int) (256 : Int))), ())) else (some (true, ()))) (fun (y2 : (Bool × Unit)) => (bif y2.1 then (some (((0 : Int), ((0 : Int), (false, ()))), ())) else (bif (!(decide (a1 = (0 : Int)))) then (bif (!(decide (a1 = (0 : Int)))) then (some (((IntKind.wrap Go.IntKind.i64 (@Int.tdiv (IntKind.wrap Go.IntKind.i64 (a0 - (1 : Int))) a1)), ((@Int.tmod (IntKind.wrap Go.IntKind.i64 (a0 - (1 : Int))) a1), (true, ()))), ())) else none) else none))))
theorem g30_eq (a0 : Int) (a1 : Int) : (evF (fun _ _ => Loop) Go.Abs.C1D.E30 Go.Abs.C1D.G30 Go.Proofs.Tryd.f30 Go.Abs.C1D.plan30 Go.Abs.C1D.c30 ((), (a0, (a1, ())))).den = g30 a0 a1 := by kernel_rfl

noncomputable def g10 (a0 : (@List Int)) (a1 : Int) (a2 : (@List Int)) : (Option (Int × ((@List Int) × (Int × Unit)))) :=
  (Option.bind (@Sp1D.on (Int × ((@List Int) × (Int × Unit))) (@Sp1D.wf (a0, (a1, ()))) (@Sp1D.next (a0, (a1, ())) (Int.ofNat a2.length))) (fun (y3 : (Int × ((@List Int) × (Int × Unit)))) => (bif ((decide ((0 : Int) ≤ y3.1)) && (decide (y3.1 < (Int.ofNat a2.length)))) then (some ((List.getD a2 (Int.toNat y3.1) (0 : Int)), y3.2)) else none)))
theorem g10_eq (a0 : (@List Int)) (a1 : Int) (a2 : (@List Int)) : (evF (fun _ _ => Loop) Go.Abs.C1D.E10 Go.Abs.C1D.G10 Go.Proofs.Tryd.f10 Go.Abs.C1D.plan10 Go.Abs.C1D.c10 ((a0, (a1, ())), (a2, ()))).den = g10 a0 a1 a2 := by kernel_rfl

noncomputable def g19 (a0 : (@List Int)) (a1 : Int) : (Option (Int × ((@List Int) × (Int × Unit)))) :=
  (Option.bind (@Sp1D.on (Int × ((@List Int) × (Int × Unit))) (((@Sp1D.wf (a0, (a1, ()))) && (decide (0 < 5))) && (decide (5 ≤ 1000))) (@Sp1D.pick (a0, (a1, ())) ((8 : Int) :: ((8 : Int) :: ((16 : Int) :: ((32 : Int) :: ((64 : Int) :: []))))))) (fun (y2 : (Int × ((@List Int) × (Int × Unit)))) => (some y2)))
theorem g19_eq (a0 : (@List Int)) (a1 : Int) : (evF (fun _ _ => Loop) Go.Abs.C1D.E19 Go.Abs.C1D.G19 Go.Proofs.Tryd.f19 Go.Abs.C1D.plan19 Go.Abs.C1D.c19 ((a0, (a1, ())), ())).den = g19 a0 a1 := by kernel_rfl

noncomputable def g8 (a0 : (@List Int)) (a1 : Int) (a2 : Int) : (Option (Int × ((@List Int) × (Int × Unit)))) :=
  (Option.bind (@Sp1D.on (Int × ((@List Int) × (Int × Unit))) (@Sp1D.wf (a0, (a1, ()))) (@Sp1D.raw (a0, (a1, ())))) (fun (y3 : (Int × ((@List Int) × (Int × Unit)))) => (some ((@Sp1D.cut y3.1 a2), y3.2))))
theorem g8_eq (a0 : (@List Int)) (a1 : Int) (a2 : Int) : (evF (fun _ _ => Loop) Go.Abs.C1D.E8 Go.Abs.C1D.G8 Go.Proofs.Tryd.f8 Go.Abs.C1D.plan8 Go.Abs.C1D.c8 ((a0, (a1, ())), (a2, ()))).den = g8 a0 a1 a2 := by kernel_rfl

noncomputable def g29 (a0 : Int) (a1 : Int) (a2 : (@List (Int × (Int × Unit)))) (a3 : Int) : (Option (Bool × Unit)) :=
  (some ((@List.any (Int × (Int × Unit)) a2 (fun (y4 : (Int × (Int × Unit))) => (decide (y4.2.1 = a3)))), ()))
theorem g29_eq (a0 : Int) (a1 : Int) (a2 : (@List (Int × (Int × Unit)))) (a3 : Int) : (evF (fun _ _ => Loop) Go.Abs.C1D.E29 Go.Abs.C1D.G29 Go.Proofs.Tryd.f29 Go.Abs.C1D.plan29 Go.Abs.C1D.c29 ((), ((a0, (a1, (a2, ()))), (a3, ())))).den = g29 a0 a1 a2 a3 := by kernel_rfl

noncomputable def g42 (a0 : Int) (a1 : Int) (a2 : Int) : (Option (Bool × Unit)) :=
  (Option.bind (bif (decide (a0 ≥ a1)) then (some ((decide (a0 ≤ a2)), ())) else (some (false, ()))) (fun (y3 : (Bool × Unit)) => (some y3)))
theorem g42_eq (a0 : Int) (a1 : Int) (a2 : Int) : (evF (fun _ _ => Loop) Go.Abs.C1D.E42 Go.Abs.C1D.G42 Go.Proofs.Tryd.f42 Go.Abs.C1D.plan42 Go.Abs.C1D.c42 ((), (a0, (a1, (a2, ()))))).den = g42 a0 a1 a2 := by kernel_rfl

noncomputable def g45 (a0 : Int) (a1 : Int) (a2 : Int) (a3 : Int) : (Option (Bool × Unit)) :=
  (some ((decide (a0 = a2)), ()))
theorem g45_eq (a0 : Int) (a1 : Int) (a2 : Int) (a3 : Int) : (evF (fun _ _ => Loop) Go.Abs.C1D.E45 Go.Abs.C1D.G45 Go.Proofs.Tryd.f45 Go.Abs.C1D.plan45 Go.Abs.C1D.c45 ((), ((a0, (a1, ())), ((a2, (a3, ())), ())))).den = g45 a0 a1 a2 a3 := by kernel_rfl
end Go.Abs.C1D

namespace Sp1D
open Go Go.Abs

theorem on_some {α : Type} {b : Bool} {x y : α} (h : on b x = some y) : b = true ∧ x = y := by
  unfold on at h
  cases b with
  | false => cases h
  | true => exact ⟨rfl, Option.some.inj h⟩
theorem on_true {α : Type} {b : Bool} {x : α} (h : b = true) : on b x = some x := by rw [h]; rfl
end Sp1D

namespace Go.Abs.C1D
open Go Go.Proofs Sp1D

abbrev B : Env := mkE tab gl 0 false []
theorem glue {f : Nat} {fn : Func} {n : Nat} {hp : Bool} {md : List (Nat × Nat)} (L : List (Nat × Con)) (hL : ∀ g con, lookC L g = some con → FunOk Tryd.prog B (g % 1000000) con) (plan : Plan) {c : Con}
    (hf : Tryd.prog.funcs[f]? = some fn) (hck : fnCheck (mkE tab gl n hp md) fn c = true)
    (hF : ∀ x y, c.okV x → c.F x = some y → (evF (fun _ _ => Loop) (mkE tab gl n hp md) (lookC L) fn plan c x).den = some y) : FunOk Tryd.prog B f c :=
  FunOk.env (E := mkE tab gl n hp md) rfl (fun_ok (pok n hp md) mix (fun g con h => FunOk.env (E := B) rfl (hL g con h)) plan hf hck hF)
theorem orI (a b : Bool) : (bif a then (some (b, ()) : Option (Bool × Unit)) else some (false, ())) = some (a && b, ()) := by cases a <;> rfl
theorem inside_iff {n a b : Int} : inside n a b = true ↔ a ≤ n ∧ n ≤ b := by simp [inside]
theorem len_ow {l : List Ow} (h : (Ty.sl owT).ok l) : l.length ≤ 4398046511104 := by
  have h : l.length * 32 ≤ 140737488355328 := h.1
  omega
theorem len_ed {l : List Ed} (h : (Ty.sl edT).ok l) : l.length ≤ 8796093022208 := by
  have h : l.length * 16 ≤ 140737488355328 := h.1
  omega
theorem len_i {l : List Int} (h : (Ty.sl (.int .i64)).ok l) : l.length ≤ 17592186044416 := by
  have h : l.length * 8 ≤ 140737488355328 := h.1
  omega
theorem g43_ok (a0 : Int) (r0 : IntKind.i64.has a0) : g43 a0 = some (Sp1D.vlen a0, ()) := by
  unfold g43 Sp1D.vlen
  cases decide (a0 = 8) <;> cases decide (a0 = 16) <;> cases decide (a0 = 32) <;> rfl
theorem g49_ok (a0 : Int) (r0 : IntKind.i64.has a0) : g49 a0 = some (Sp1D.vlen a0, ()) := by
  unfold g49 Sp1D.vlen
  cases decide (a0 = 8) <;> cases decide (a0 = 16) <;> cases decide (a0 = 32) <;> rfl
theorem g42_ok (a0 : Int) (a1 : Int) (a2 : Int) (r0 : IntKind.i64.has a0) (r1 : IntKind.i64.has a1) (r2 : IntKind.i64.has a2) : g42 a0 a1 a2 = some (Sp1D.inside a0 a1 a2, ()) := by
  unfold g42 Sp1D.inside
  rw [orI]
  rfl
theorem g48_ok (a0 : Int) (a1 : Int) (a2 : Int) (r0 : IntKind.i64.has a0) (r1 : IntKind.i64.has a1) (r2 : IntKind.i64.has a2) : g48 a0 a1 a2 = some (Sp1D.inside a0 a1 a2, ()) := by
  unfold g48 Sp1D.inside
  rw [orI]
  rfl
end Go.Abs.C1D

namespace Go.Abs.C1D
open Go Go.Proofs Sp1D

theorem wf_iff {t : Tp} : wf t = true ↔ 0 ≤ t.2.1 ∧ t.2.1 ≤ t.1.length ∧ t.1.length ≤ 600 := by
  simp [wf, and_assoc]
theorem small_iff {n : Int} : small n = true ↔ -2305843009213693952 ≤ n ∧ n ≤ 2305843009213693952 := by
  simp [small]
theorem raw_wf {t : Tp} (h : wf t = true) : wf (raw t).2 = true := by
  obtain ⟨l, a, ⟨⟩⟩ := t
  obtain ⟨h1, h2, h3⟩ := wf_iff.1 h
  simp only at h1 h2 h3
  unfold raw
  by_cases h4 : a < l.length
  · simp only [h4, decide_true, cond_true]
    exact wf_iff.2 ⟨by simp only; omega, by simp only; omega, h3⟩
  · simp only [h4, decide_false, cond_false]
    exact h
theorem next_wf {t : Tp} {n : Int} (h : wf t = true) : wf (next t n).2 = true := raw_wf h
theorem cut_nonneg {x n : Int} : 0 ≤ cut x n := by
  unfold cut
  by_cases h : n < 1
  · simp [h]
  · simp only [h, decide_false, cond_false]
    exact Int.emod_nonneg x (by omega)
theorem cut_lt {x n : Int} (h : 1 ≤ n) : cut x n < n := by
  unfold cut
  have h' : ¬ n < 1 := by omega
  simp only [h', decide_false, cond_false]
  exact Int.emod_lt_of_pos x (by omega)
theorem next_range {t : Tp} {n : Int} (h : 1 ≤ n) : 0 ≤ (next t n).1 ∧ (next t n).1 < n := ⟨cut_nonneg, cut_lt h⟩
theorem range_wf {t : Tp} {a b : Int} (h : wf t = true) : wf (range t a b).2 = true := next_wf (n := b - a + 1) h
theorem range_in {t : Tp} {a b : Int} (h : a ≤ b) : a ≤ (range t a b).1 ∧ (range t a b).1 ≤ b := by
  have := next_range (t := t) (n := b - a + 1) (by omega)
  unfold range
  simp only
  omega
theorem next_bound {t : Tp} {n : Int} : 0 ≤ (next t n).1 ∧ ((next t n).1 < n ∨ (next t n).1 = 0) := by
  by_cases h : 1 ≤ n
  · have := next_range (t := t) h
    exact ⟨this.1, .inl this.2⟩
  · refine ⟨cut_nonneg, .inr ?_⟩
    show cut (raw t).1 n = 0
    unfold cut
    have : n < 1 := by omega
    simp [this]
theorem one_wf {t : Tp} {n : Int} (h : wf t = true) : wf (one t n).2 = true := next_wf (n := n) h
theorem wild_wf {t : Tp} (h : wf t = true) : wf (wild t).2 = true := next_wf (n := (wilds.length : Int)) h
theorem tape_wf (l : List Int) : wf (Sp1D.tape l) = true := wf_iff.2 ⟨by simp [Sp1D.tape], by simp [Sp1D.tape], by simp [Sp1D.tape]; omega⟩

theorem g25_ok (a0 : (List Int)) (a1 : Int) (r0 : (Ty.sl (.int .i64)).ok a0) (r1 : IntKind.i64.has a1) (h : (Sp1D.wf (a0, a1, ())) = true) : g25 a0 a1 = some (Sp1D.raw (a0, a1, ())) := by
  obtain ⟨h1, h2, h3⟩ := wf_iff.1 h
  simp only at h1 h2 h3
  unfold g25 Sp1D.raw
  by_cases h4 : a1 < a0.length
  · have h5 : ¬ a1 ≥ (a0.length : Int) := by omega
    have e1 : IntKind.wrap .i64 (a1 + 1) = a1 + 1 := wi64 (by omega) (by omega)
    have e2 : IntKind.wrap .i64 (a1 + 1 - 1) = a1 := by rw [show a1 + 1 - 1 = a1 by omega]; exact wi64 (by omega) (by omega)
    simp only [Int.ofNat_eq_natCast, e1, e2, h5, h4, h1, decide_true, decide_false, cond_true, cond_false, Bool.and_self]
  · have h5 : a1 ≥ (a0.length : Int) := by omega
    simp only [Int.ofNat_eq_natCast, h5, h4, decide_true, decide_false, cond_true, cond_false]

theorem g24_ok (a0 : Int) (a1 : Int) (r0 : IntKind.i64.has a0) (r1 : IntKind.i64.has a1) : g24 a0 a1 = some (Sp1D.cut a0 a1, ()) := by
  have hm := (has_i64 r1).2
  unfold g24 Sp1D.cut
  by_cases h : a1 < 1
  · simp [h]
  · have h0 : ¬ a1 = 0 := by omega
    have hp : 0 < a1 := by omega
    have e1 := Int.emod_nonneg a0 h0
    have e2 := Int.emod_lt_of_pos a0 hp
    have e3 : a0.tmod a1 = if 0 ≤ a0 ∨ a1 ∣ a0 then a0 % a1 else a0 % a1 - a1 := by
      rw [Int.tmod_eq_emod]
      split <;> rename_i h <;> simp [h]
      omega
    by_cases h5 : 0 ≤ a0 ∨ a1 ∣ a0
    · rw [if_pos h5] at e3
      have : ¬ a0 % a1 < 0 := by omega
      simp [h, h0, e3, this]
      rfl
    · rw [if_neg h5] at e3
      have h6 : a0 % a1 - a1 < 0 := by omega
      have h7 : a0 % a1 - a1 + a1 = a0 % a1 := by omega
      have h8 : IntKind.wrap .i64 (a0 % a1) = a0 % a1 := wi64 (by omega) (by omega)
      simp only [h, h0, e3, h6, h7, h8, decide_true, decide_false, cond_true, cond_false, Bool.not_false, Option.bind]
      rfl

theorem g8_ok (a0 : (List Int)) (a1 : Int) (a2 : Int) (r0 : (Ty.sl (.int .i64)).ok a0) (r1 : IntKind.i64.has a1) (r2 : IntKind.i64.has a2) (h : (Sp1D.wf (a0, a1, ())) = true) : g8 a0 a1 a2 = some (Sp1D.next (a0, a1, ()) a2) := by
  unfold g8
  rw [on_true h]
  rfl

theorem g22_ok (a0 : (List Int)) (a1 : Int) (a2 : Int) (a3 : Int) (r0 : (Ty.sl (.int .i64)).ok a0) (r1 : IntKind.i64.has a1) (r2 : IntKind.i64.has a2) (r3 : IntKind.i64.has a3) (h : (Sp1D.wf (a0, a1, ()) && Sp1D.small a2 && Sp1D.small a3) = true) : g22 a0 a1 a2 a3 = some (Sp1D.range (a0, a1, ()) a2 a3) := by
  simp only [Bool.and_eq_true] at h
  have k2 := small_iff.1 h.1.2
  have k3 := small_iff.1 h.2
  unfold g22 Sp1D.range
  rw [on_true h.1.1]
  have e1 : IntKind.wrap .i64 (a3 - a2) = a3 - a2 := wi64 (by omega) (by omega)
  have e2 : IntKind.wrap .i64 (a3 - a2 + 1) = a3 - a2 + 1 := wi64 (by omega) (by omega)
  have hb := next_bound (t := (a0, a1, ())) (n := a3 - a2 + 1)
  have e3 : IntKind.wrap .i64 (a2 + (next (a0, a1, ()) (a3 - a2 + 1)).1) = a2 + (next (a0, a1, ()) (a3 - a2 + 1)).1 := wi64 (by omega) (by omega)
  simp only [e1, e2, Option.bind, e3]

theorem g9_ok (a0 : (List Int)) (a1 : Int) (a2 : Int) (r0 : (Ty.sl (.int .i64)).ok a0) (r1 : IntKind.i64.has a1) (r2 : IntKind.i64.has a2) (h : (Sp1D.wf (a0, a1, ()) && Sp1D.small a2) = true) : g9 a0 a1 a2 = some (Sp1D.one (a0, a1, ()) a2) := by
  simp only [Bool.and_eq_true] at h
  have k2 := small_iff.1 h.2
  unfold g9 Sp1D.one
  rw [on_true h.1]
  have e1 : IntKind.wrap .i64 (a2 - 1) = a2 - 1 := wi64 (by omega) (by omega)
  simp only [e1, Option.bind]

theorem g10_ok (a0 : (List Int)) (a1 : Int) (a2 : (List Int)) (r0 : (Ty.sl (.int .i64)).ok a0) (r1 : IntKind.i64.has a1) (r2 : (Ty.sl (.int .i64)).ok a2) (h : (Sp1D.wf (a0, a1, ()) && decide (0 < a2.length) && decide (a2.length ≤ 1000)) = true) : g10 a0 a1 a2 = some (Sp1D.pick (a0, a1, ()) a2) := by
  simp only [Bool.and_eq_true, decide_eq_true_eq] at h
  unfold g10 Sp1D.pick
  rw [on_true h.1.1]
  have hb := next_range (t := (a0, a1, ())) (n := (a2.length : Int)) (by omega)
  simp only [Int.ofNat_eq_natCast, Option.bind, hb.1, hb.2, decide_true, Bool.and_self, cond_true]

theorem g21_ok (a0 : List Int) (a1 : Int) (r0 : (Ty.sl (.int .i64)).ok a0) (r1 : IntKind.i64.has a1) (h : (Sp1D.wf (a0, a1, ())) = true) : g21 a0 a1 = some (Sp1D.wild (a0, a1, ())) := by
  unfold g21
  rw [show (wf (a0, a1, ()) && true && true) = true by rw [h]; rfl]
  rfl

theorem g5_ok (a0 : (List Int)) (r0 : (Ty.sl (.int .i64)).ok a0) : g5 a0 = some (Sp1D.tape a0, ()) := by
  unfold g5 Sp1D.tape
  by_cases h : (600 : Int) < a0.length
  · have h2 : (600 : Int) ≤ a0.length := by omega
    simp [GT.gt, h, h2]
  · have : a0.take 600 = a0 := List.take_of_length_le (by omega)
    simp [GT.gt, h, this]

theorem pick_wf {t : Tp} {l : List Int} (h : wf t = true) : wf (Sp1D.pick t l).2 = true := next_wf (n := (l.length : Int)) h
theorem g19_ok (a0 : (List Int)) (a1 : Int) (r0 : (Ty.sl (.int .i64)).ok a0) (r1 : IntKind.i64.has a1) (h : (Sp1D.wf (a0, a1, ())) = true) : g19 a0 a1 = some (Sp1D.length (a0, a1, ())) := by
  unfold g19 Sp1D.length
  rw [on_true (by rw [h]; rfl)]
  rfl
theorem length_wf {t : Tp} (h : wf t = true) : wf (Sp1D.length t).2 = true := pick_wf h
end Go.Abs.C1D

namespace Go.Abs.C1D
open Go Go.Proofs Sp1D
set_option maxRecDepth 100000

theorem g68_ok (a0 : Int) (r0 : IntKind.i64.has a0) : g68 a0 = some (false, ()) := by
  unfold g68
  rw [decide_eq_true rfl]
  rfl
theorem g58_ok (a0 : Int) (a1 : Int) (r0 : IntKind.i64.has a0) (r1 : IntKind.i64.has a1) : g58 a0 a1 = some (Sp1D.cmpI a0 a1, ()) := by
  unfold g58 cmpI
  cases decide (a0 < a1) with
  | true => rfl
  | false =>
    show (bif decide (a1 < a0) then _ else _) = _
    cases decide (a1 < a0) <;> rfl
theorem nz_drop (l : List Int) (i : Nat) (h : i < l.length) : firstNZ (l.drop i) = bif decide (l.getD i 0 = 0) then firstNZ (l.drop (i + 1)) else l.getD i 0 := by
  rw [List.drop_eq_getElem_cons h]
  have : l.getD i 0 = l[i] := by rw [List.getD_eq_getElem?_getD, List.getElem?_eq_getElem h]; rfl
  rw [this]
  rfl
theorem g65_ok (a0 : (List Int)) (r0 : (Ty.sl (.int .i64)).ok a0) : g65 a0 = some (Sp1D.firstNZ a0, ()) := by
  have hlen : a0.length ≤ 281474976710656 := by
    have h : a0.length * 8 ≤ 140737488355328 := r0.1
    omega
  have key : ∀ j k, k + j = a0.length → ∃ e, Loop (g65_s0 a0) ((k : Int), ()) = some e ∧ (bif e.1 then some e.2.1 else some ((0 : Int), ())) = some (firstNZ (a0.drop k), ()) := by
    intro j
    induction j with
    | zero =>
      intro k hk
      have hk : k = a0.length := by omega
      subst hk
      refine ⟨(false, ((0, ()), ())), ?_, ?_⟩
      · rw [Loop_step]
        unfold g65_s0
        simp only [Int.ofNat_eq_natCast]
        rw [decide_eq_false (show ¬ (a0.length : Int) < (a0.length : Int) by omega)]
        rfl
      · rw [List.drop_length]; rfl
    | succ j ih =>
      intro k hk
      have hs : g65_s0 a0 ((k : Int), ()) = bif !decide (a0.getD k 0 = 0) then some (.inr (true, ((a0.getD k 0, ()), ()))) else some (.inl (((k + 1 : Nat) : Int), ())) := by
        unfold g65_s0
        simp only [Int.ofNat_eq_natCast, Int.toNat_natCast]
        rw [decide_eq_true (show (k : Int) < (a0.length : Int) by omega), decide_eq_true (show (0 : Int) ≤ (k : Int) by omega), wi64 (n := (k : Int) + 1) (by omega) (by omega)]
        rfl
      by_cases h0 : a0.getD k 0 = 0
      · obtain ⟨e, h1, h2⟩ := ih (k + 1) (by omega)
        refine ⟨e, ?_, ?_⟩
        · rw [Loop_step, hs, decide_eq_true h0]
          exact h1
        · rw [nz_drop a0 k (by omega), decide_eq_true h0]
          exact h2
      · refine ⟨(true, ((a0.getD k 0, ()), ())), ?_, ?_⟩
        · rw [Loop_step, hs, decide_eq_false h0]
          rfl
        · rw [nz_drop a0 k (by omega), decide_eq_false h0]
          rfl
  obtain ⟨e, h1, h2⟩ := key a0.length 0 (by omega)
  have h1 : Loop (g65_s0 a0) (0, ()) = some e := h1
  unfold g65
  rw [h1]
  exact h2
theorem idx_any {α : Type} (p : α → Bool) (l : List α) : decide (idx p l ≥ 0) = l.any p := by
  unfold idx
  cases l.any p with
  | true => exact decide_eq_true (by show (0 : Int) ≤ ((_ : Nat) : Int); omega)
  | false => exact decide_eq_false (by show ¬ (-1 : Int) ≥ 0; decide)
theorem find_loop {α : Type} (f : (Int × Unit) → Option (Sum (Int × Unit) (Bool × ((Int × Unit) × Unit)))) (l : List α) (p : α → Bool) (d : α)
    (hs : ∀ i : Nat, i < l.length → f ((i : Int), ()) = bif p (l.getD i d) then some (.inr (true, (((i : Int), ()), ()))) else some (.inl (((i + 1 : Nat) : Int), ())))
    (he : f ((l.length : Int), ()) = some (.inr (false, ((0, ()), ())))) : Option.bind (Loop f ((0 : Int), ())) (fun y1 => bif y1.1 then some y1.2.1 else some ((-1 : Int), ())) = some (idx p l, ()) := by
  have key : ∀ j k, k + j = l.length → (∀ i, i < k → p (l.getD i d) = false) → Option.bind (Loop f ((k : Int), ())) (fun y1 => bif y1.1 then some y1.2.1 else some ((-1 : Int), ())) = some (idx p l, ()) := by
    intro j
    induction j with
    | zero =>
      intro k hk hn
      have hk : k = l.length := by omega
      subst hk
      have ha : l.any p = false := by
        rw [Bool.eq_false_iff]
        intro h
        obtain ⟨x, hx, hp⟩ := List.any_eq_true.1 h
        obtain ⟨i, hi, rfl⟩ := List.getElem_of_mem hx
        have := hn i hi
        rw [List.getD_eq_getElem?_getD, List.getElem?_eq_getElem hi] at this
        have this : p l[i] = false := this
        rw [hp] at this
        cases this
      rw [Loop_step, he]
      unfold idx
      rw [ha]
      rfl
    | succ j ih =>
      intro k hk hn
      rw [Loop_step, hs k (by omega)]
      cases hp : p (l.getD k d) with
      | true =>
        have hlt : k < l.length := by omega
        have e : l.getD k d = l[k] := by rw [List.getD_eq_getElem?_getD, List.getElem?_eq_getElem hlt]; rfl
        have ha : l.any p = true := List.any_eq_true.2 ⟨l[k], List.getElem_mem _, by rw [← e]; exact hp⟩
        have hf : l.findIdx p = k := by
          rw [List.findIdx_eq hlt]
          refine ⟨by rw [← e]; exact hp, fun i hi => ?_⟩
          have := hn i hi
          rw [List.getD_eq_getElem?_getD, List.getElem?_eq_getElem (by omega)] at this
          simpa using this
        unfold idx
        rw [ha, hf]
        rfl
      | false =>
        refine ih (k + 1) (by omega) fun i hi => ?_
        by_cases h : i = k
        · rw [h]; exact hp
        · exact hn i (by omega)
  exact key l.length 0 (by omega) (fun i hi => absurd hi (by omega))
theorem g63_ok (a0 : Int) (a1 : Int) (a2 : Int) (a3 : Int) (r0 : IntKind.i64.has a0) (r1 : IntKind.i64.has a1) (r2 : IntKind.i64.has a2) (r3 : IntKind.i64.has a3) : g63 a0 a1 a2 a3 = some (Sp1D.badF (a0, a1, a2, a3, ()), ()) := by
  unfold g63 badF
  cases inside a0 1 99 <;> cases inside a1 0 7 <;> cases inside a2 1 256 <;> cases vlen a3 <;> rfl
theorem g69_ok (a0 : (List (Int × ((Int × (Int × (Int × Unit))) × Unit)))) (r0 : (Ty.sl (owT)).ok a0) : g69 a0 = some (Sp1D.idx Sp1D.badO a0, ()) := by
  have hl := len_ow r0
  refine find_loop (g69_s0 a0) a0 badO zO (fun i hi => ?_) ?_
  · unfold g69_s0
    simp only [Int.ofNat_eq_natCast, Int.toNat_natCast]
    rw [decide_eq_true (show (i : Int) < (a0.length : Int) by omega), decide_eq_true (show (0 : Int) ≤ (i : Int) by omega), wi64 (n := (i : Int) + 1) (by omega) (by omega)]
    rfl
  · unfold g69_s0
    simp only [Int.ofNat_eq_natCast]
    rw [decide_eq_false (show ¬ (a0.length : Int) < (a0.length : Int) by omega)]
    rfl
theorem g64_ok (a0 : (List (Int × ((Int × (Int × (Int × Unit))) × Unit)))) (r0 : (Ty.sl (owT)).ok a0) : g64 a0 = some (a0.any Sp1D.badO, ()) := by
  unfold g64
  rw [idx_any]
end Go.Abs.C1D

namespace Go.Abs.C1D
open Go Go.Proofs Sp1D
set_option maxRecDepth 100000

theorem cmp_bad (a b : Ow) : decide (firstNZ (cmpI a.1 b.1 :: cmpI a.2.1.1 b.2.1.1 :: []) ≥ 0) = !lessO a b := by
  unfold lessO subO cmpI
  by_cases h1 : a.1 < b.1
  · simp [h1, firstNZ]
  by_cases h2 : b.1 < a.1
  · have : ¬ a.1 = b.1 := by omega
    simp [h1, h2, this, firstNZ]
  have h3 : a.1 = b.1 := by omega
  by_cases h4 : a.2.1.1 < b.2.1.1
  · simp [h1, h2, h3, h4, firstNZ]
  by_cases h5 : b.2.1.1 < a.2.1.1
  · simp [h1, h2, h3, h4, h5, firstNZ]
  · simp [h1, h2, h3, h4, h5, firstNZ]
theorem not_upO (l : List Ow) : (List.range (l.length - 1)).any (fun i => !lessO (l.getD i zO) (l.getD (i + 1) zO)) = !upO l := by
  unfold upO
  rw [List.not_all_eq_any_not]
theorem g53_ok (a0 : (List (Int × ((Int × (Int × (Int × Unit))) × Unit)))) (r0 : (Ty.sl (owT)).ok a0) : g53 a0 = some (Sp1D.chk a0, ()) := by
  have hl := len_ow r0
  have h0 : g53_s0 a0 ((0 : Int), ()) = bif decide (0 < a0.length) then some (.inl (((1 : Nat) : Int), ())) else some (.inr (false, ((0, ()), ()))) := by
    unfold g53_s0
    cases a0 with
    | nil => rfl
    | cons x r =>
      simp only [Int.ofNat_eq_natCast]
      rw [decide_eq_true (show (0 : Int) < ((x :: r).length : Int) by simp only [List.length_cons]; omega), decide_eq_true (show 0 < (x :: r).length by simp)]
      rfl
  have h1 : Loop (g53_s0 a0) ((1 : Int), ()) = some (bif !upO a0 then (true, ((25, ()), ())) else (false, ((0, ()), ()))) := by
    rw [← not_upO]
    refine scan1 (g53_s0 a0) a0.length (fun i => !lessO (a0.getD (i - 1) zO) (a0.getD i zO)) _ _ (fun i hi1 hi2 => ?_) (fun i hi1 hi2 => ?_)
    · have e1 : IntKind.wrap .i64 ((i : Int) - 1) = ((i - 1 : Nat) : Int) := by rw [wi64 (by omega) (by omega)]; omega
      have e2 : IntKind.wrap .i64 ((i : Int) + 1) = ((i + 1 : Nat) : Int) := by rw [wi64 (by omega) (by omega)]; omega
      unfold g53_s0
      simp only [Int.ofNat_eq_natCast, e1, e2, Int.toNat_natCast]
      rw [decide_eq_true (show (i : Int) < (a0.length : Int) by omega), decide_eq_true (show (i : Int) > 0 by omega), decide_eq_true (show (0 : Int) ≤ (i : Int) by omega), decide_eq_true (show (0 : Int) ≤ ((i - 1 : Nat) : Int) by omega), decide_eq_true (show ((i - 1 : Nat) : Int) < (a0.length : Int) by omega)]
      have hb := cmp_bad (a0.getD (i - 1) zO) (a0.getD i zO)
      simp only [cond_true, Bool.and_self, Option.bind]
      refine (congrArg (fun b : Bool => bif b then some (Sum.inr (true, (25, ()), ())) else some (Sum.inl (((i + 1 : Nat) : Int), ()))) hb).trans ?_
      cases lessO (a0.getD (i - 1) zO) (a0.getD i zO) <;> rfl
    · unfold g53_s0
      simp only [Int.ofNat_eq_natCast]
      rw [decide_eq_false (show ¬ (i : Int) < (a0.length : Int) by omega)]
      rfl
  unfold g53 chk
  by_cases q1 : 192 < a0.length
  · rw [decide_eq_true (show (Int.ofNat a0.length) > 192 by simp only [Int.ofNat_eq_natCast]; omega), decide_eq_true q1]; rfl
  rw [decide_eq_false (show ¬ (Int.ofNat a0.length) > 192 by simp only [Int.ofNat_eq_natCast]; omega), decide_eq_false q1]
  simp only [cond_false]
  cases a0.any badO with
  | true => rfl
  | false =>
    simp only [cond_false]
    rw [Loop_step, h0]
    by_cases q2 : 0 < a0.length
    · rw [decide_eq_true q2]
      show Option.bind (Loop (g53_s0 a0) ((1 : Int), ())) _ = _
      rw [h1]
      cases upO a0 <;> rfl
    · rw [decide_eq_false q2]
      have : a0 = [] := by cases a0 with
        | nil => rfl
        | cons x r => exact absurd (by simp) q2
      subst this
      rfl
theorem g45_ok (a0 : Int) (a1 : Int) (a2 : Int) (a3 : Int) (r0 : IntKind.i64.has a0) (r1 : IntKind.i64.has a1) (r2 : IntKind.i64.has a2) (r3 : IntKind.i64.has a3) : g45 a0 a1 a2 a3 = some (decide (a0 = a2), ()) := by
  rfl
theorem g61_ok (a0 : (List (Int × (Int × Unit)))) (a1 : Int) (a2 : Int) (r0 : (Ty.sl (edT)).ok a0) (r1 : IntKind.i64.has a1) (r2 : IntKind.i64.has a2) : g61 a0 a1 a2 = some (Sp1D.idx (fun e => decide (e.1 = a1)) a0, ()) := by
  have hl := len_ed r0
  unfold g61
  refine find_loop (g61_s0 a0 a1 a2) a0 (fun e => decide (e.1 = a1)) zE (fun i hi => ?_) ?_
  · unfold g61_s0
    simp only [Int.ofNat_eq_natCast, Int.toNat_natCast]
    rw [decide_eq_true (show (i : Int) < (a0.length : Int) by omega), decide_eq_true (show (0 : Int) ≤ (i : Int) by omega), wi64 (n := (i : Int) + 1) (by omega) (by omega)]
    rfl
  · unfold g61_s0
    simp only [Int.ofNat_eq_natCast]
    rw [decide_eq_false (show ¬ (a0.length : Int) < (a0.length : Int) by omega)]
    rfl
theorem g44_ok (a0 : (List (Int × (Int × Unit)))) (a1 : Int) (a2 : Int) (r0 : (Ty.sl (edT)).ok a0) (r1 : IntKind.i64.has a1) (r2 : IntKind.i64.has a2) : g44 a0 a1 a2 = some (a0.any (fun e => decide (e.1 = a1)), ()) := by
  unfold g44
  rw [idx_any]
end Go.Abs.C1D

namespace Go.Abs.C1D
open Go Go.Proofs Sp1D
set_option maxRecDepth 100000

theorem rep_iff : ∀ l : List Int, repeats l = true ↔ ∃ i j, i < j ∧ j < l.length ∧ l.getD i 0 = l.getD j 0
  | [] => ⟨fun h => (by cases h), fun ⟨i, j, _, h, _⟩ => absurd h (by simp)⟩
  | x :: r => by
    rw [repeats, Bool.or_eq_true, rep_iff r, List.any_eq_true]
    constructor
    · rintro (⟨y, hy, h⟩ | ⟨i, j, h1, h2, h3⟩)
      · obtain ⟨j, hj, rfl⟩ := List.getElem_of_mem hy
        refine ⟨0, j + 1, by omega, by simp; omega, ?_⟩
        rw [List.getD_cons_succ, getD_ix hj]
        exact (of_decide_eq_true h).symm
      · exact ⟨i + 1, j + 1, by omega, by simp; omega, by simpa using h3⟩
    · rintro ⟨i, j, h1, h2, h3⟩
      obtain ⟨j, rfl⟩ : ∃ k, j = k + 1 := ⟨j - 1, by omega⟩
      have hj : j < r.length := by simpa using h2
      cases i with
      | zero =>
        left
        rw [List.getD_cons_succ, getD_ix hj] at h3
        exact ⟨r[j], List.getElem_mem _, decide_eq_true h3.symm⟩
      | succ i => exact .inr ⟨i, j, by omega, hj, by simpa using h3⟩
theorem rep_any (l : List Int) : repeats l = (List.range l.length).any fun i => (List.range i).any fun k => decide (l.getD i 0 = l.getD k 0) := by
  rw [Bool.eq_iff_iff, rep_iff]
  simp only [List.any_eq_true, List.mem_range, decide_eq_true_eq]
  constructor
  · rintro ⟨i, j, h1, h2, h3⟩; exact ⟨j, h2, i, h1, h3.symm⟩
  · rintro ⟨j, h2, i, h1, h3⟩; exact ⟨i, j, h1, h2, h3.symm⟩
theorem g50_ok (a0 : (List Int)) (r0 : (Ty.sl (.int .i64)).ok a0) : g50 a0 = some (Sp1D.repeats a0, ()) := by
  have hl := len_i r0
  have hin : ∀ i : Nat, i < a0.length → Loop (g50_s0 a0 ((i : Int), ())) ((0 : Int), ()) = some (bif (List.range i).any (fun k => decide (a0.getD i 0 = a0.getD k 0)) then (true, ((true, ()), ())) else (false, ((false, ()), ()))) := by
    intro i hi
    refine scanN _ i (fun k => decide (a0.getD i 0 = a0.getD k 0)) _ _ (fun k hk => ?_) ?_
    · unfold g50_s0
      simp only [Int.ofNat_eq_natCast, Int.toNat_natCast]
      rw [dT (show (k : Int) < (i : Int) by omega), dT (show (0 : Int) ≤ (i : Int) by omega), dT (show (i : Int) < (a0.length : Int) by omega), dT (show (0 : Int) ≤ (k : Int) by omega), dT (show (k : Int) < (a0.length : Int) by omega), wi64n (by omega)]
      cases decide (a0.getD i 0 = a0.getD k 0) <;> rfl
    · unfold g50_s0
      rw [dF (show ¬ ((i : Int), ()).1 < ((i : Int), ()).1 by simp only; omega)]
      rfl
  have hout : Loop (g50_s1 a0) ((0 : Int), ()) = some (bif repeats a0 then (true, ((true, ()), ())) else (false, ((false, ()), ()))) := by
    rw [rep_any]
    refine scanN _ a0.length _ _ _ (fun i hi => ?_) ?_
    · unfold g50_s1
      rw [hin i hi]
      simp only [Int.ofNat_eq_natCast]
      rw [dT (show (i : Int) < (a0.length : Int) by omega), wi64n (by omega)]
      cases (List.range i).any (fun k => decide (a0.getD i 0 = a0.getD k 0)) <;> rfl
    · unfold g50_s1
      simp only [Int.ofNat_eq_natCast]
      rw [dF (show ¬ (a0.length : Int) < (a0.length : Int) by omega)]
      rfl
  unfold g50
  rw [hout]
  cases repeats a0 <;> rfl
def badE (l : List Ed) (i : Nat) : Bool := !inside (l.getD i zE).2.1 1 256 || !inside (l.getD i zE).1 1 99 || (decide (0 < i) && decide ((l.getD i zE).2.1 ≤ (l.getD (i - 1) zE).2.1))
theorem badE_any (l : List Ed) : (List.range l.length).any (badE l) = !((l.all fun e => inside e.2.1 1 256 && inside e.1 1 99) && upE l) := by
  rw [Bool.eq_iff_iff, List.any_eq_true, Bool.not_eq_true', Bool.and_eq_false_iff, List.all_eq_false]
  unfold upE badE
  rw [List.all_eq_false]
  constructor
  · rintro ⟨i, hi, h⟩
    have hi := List.mem_range.1 hi
    rw [Bool.or_eq_true, Bool.or_eq_true] at h
    rcases h with (h | h) | h
    · refine .inl ⟨l[i], List.getElem_mem _, ?_⟩
      rw [← getD_ix (d := zE) hi]
      rw [Bool.not_eq_true'] at h
      rw [h, Bool.false_and]
      exact Bool.false_ne_true
    · refine .inl ⟨l[i], List.getElem_mem _, ?_⟩
      rw [← getD_ix (d := zE) hi]
      rw [Bool.not_eq_true'] at h
      rw [h, Bool.and_false]
      exact Bool.false_ne_true
    · rw [Bool.and_eq_true, decide_eq_true_eq, decide_eq_true_eq] at h
      refine .inr ⟨i - 1, List.mem_range.2 (by omega), ?_⟩
      rw [show i - 1 + 1 = i by omega, decide_eq_true_eq]
      omega
  · rintro (⟨x, hx, h⟩ | ⟨i, hi, h⟩)
    · obtain ⟨i, hi, rfl⟩ := List.getElem_of_mem hx
      refine ⟨i, List.mem_range.2 hi, ?_⟩
      rw [getD_ix hi]
      rw [Bool.not_eq_true, Bool.and_eq_false_iff] at h
      rcases h with h | h <;> rw [h] <;> simp
    · have hi := List.mem_range.1 hi
      refine ⟨i + 1, List.mem_range.2 (by omega), ?_⟩
      rw [decide_eq_true_eq] at h
      rw [show i + 1 - 1 = i by omega, dT (show 0 < i + 1 by omega), dT (show (l.getD (i + 1) zE).2.1 ≤ (l.getD i zE).2.1 by omega)]
      simp
theorem getD_map1 (l : List Ed) (i : Nat) : (l.map fun e => e.1).getD i 0 = (l.getD i zE).1 := by
  rw [List.getD_eq_getElem?_getD, List.getD_eq_getElem?_getD, List.getElem?_map]
  cases l[i]? <;> rfl
def badT (l : List Ed) (i : Nat) : Bool := (l.take i).any fun y => decide (y.1 = (l.getD i zE).1)
theorem twice_any (l : List Ed) : (List.range l.length).any (badT l) = repeats (l.map fun e => e.1) := by
  unfold badT
  rw [Bool.eq_iff_iff, rep_iff]
  simp only [List.any_eq_true, List.mem_range, decide_eq_true_eq, getD_map1, List.length_map]
  constructor
  · rintro ⟨j, hj, y, hy, h⟩
    obtain ⟨i, hi, rfl⟩ := List.getElem_of_mem hy
    have hi2 : i < j := by rw [List.length_take] at hi; omega
    refine ⟨i, j, hi2, hj, ?_⟩
    rw [List.getElem_take] at h
    rw [getD_ix (show i < l.length by omega)]
    exact h
  · rintro ⟨i, j, h1, h2, h3⟩
    refine ⟨j, h2, (l.take j)[i]'(by rw [List.length_take]; omega), List.getElem_mem _, ?_⟩
    rw [List.getElem_take]
    rw [getD_ix (show i < l.length by omega)] at h3
    exact h3
theorem any_or {α : Type} (l : List α) (p q : α → Bool) : l.any (fun x => p x || q x) = (l.any p || l.any q) := by
  induction l with
  | nil => rfl
  | cons x r ih => simp only [List.any_cons, ih]; cases p x <;> cases q x <;> simp
theorem g26_ok (a0 : Int) (a1 : Int) (a2 : (List (Int × (Int × Unit)))) (r0 : IntKind.i64.has a0) (r1 : IntKind.i64.has a1) (r2 : (Ty.sl (edT)).ok a2) : g26 a0 a1 a2 = some (Sp1D.validP (a0, a1, a2, ()), ()) := by
  have hl := len_ed r2
  have hL : Loop (g26_s0 a2) ((0 : Int), ()) = some (bif (List.range a2.length).any (fun i => badE a2 i || badT a2 i) then (true, ((false, ()), ())) else (false, ((false, ()), ()))) := by
    refine scanN _ a2.length _ _ _ (fun i hi => ?_) ?_
    · unfold g26_s0 badE
      simp only [Int.ofNat_eq_natCast, Int.toNat_natCast, List.getD_cons_zero, List.drop_zero]
      rw [dT (show (i : Int) < (a2.length : Int) by omega), dT (show (0 : Int) ≤ (i : Int) by omega), dT (show (i : Int) ≤ (a2.length : Int) by omega), wi64n (by omega)]
      generalize hT : (List.take i a2).any (fun y2 => decide (y2.1 = (a2.getD i (0, 0, ())).1)) = t
      rw [show badT a2 i = t from hT]
      cases Sp1D.inside (a2.getD i (0, 0, ())).2.1 1 256 <;> cases Sp1D.inside (a2.getD i (0, 0, ())).1 1 99 <;> cases t <;> first | rfl | (rw [Bool.or_true]; rfl) | skip
      by_cases h0 : 0 < i
      · rw [dT (show (i : Int) > 0 by omega), dT h0, wi64p h0 (by omega), dT (show (0 : Int) ≤ ((i - 1 : Nat) : Int) by omega), dT (show ((i - 1 : Nat) : Int) < (a2.length : Int) by omega)]
        simp only [Int.toNat_natCast]
        by_cases h1 : (a2.getD i (0, 0, ())).2.1 ≤ (a2.getD (i - 1) (0, 0, ())).2.1
        · rw [dT (show (a2.getD (i - 1) (0, 0, ())).2.1 ≥ (a2.getD i (0, 0, ())).2.1 from h1)]; first | rfl | (rw [dT h1]; rfl)
        · rw [dF (show ¬ (a2.getD (i - 1) (0, 0, ())).2.1 ≥ (a2.getD i (0, 0, ())).2.1 from h1)]; first | rfl | (rw [dF h1]; rfl)
      · rw [dF (show ¬ (i : Int) > 0 by omega), dF h0]; rfl
    · unfold g26_s0
      simp only [Int.ofNat_eq_natCast]
      rw [dF (show ¬ (a2.length : Int) < (a2.length : Int) by omega)]
      rfl
  unfold g26 validP
  rw [hL, any_or, badE_any, twice_any]
  simp only [Int.ofNat_eq_natCast]
  by_cases q1 : a1 = 0
  · rw [dT q1]
    by_cases q2 : a2.length = 0
    · rw [dF (show ¬ (a2.length : Int) > 0 by omega), dT q2, dF (show ¬ (a2.length : Int) > 24 by omega), dT (show a2.length ≤ 24 by omega)]
      cases Sp1D.inside a0 0 7 <;> cases vlen a1 <;> cases a2.all (fun e => Sp1D.inside e.2.1 1 256 && Sp1D.inside e.1 1 99) <;> cases upE a2 <;> cases repeats (a2.map fun e => e.1) <;> rfl
    · rw [dT (show (a2.length : Int) > 0 by omega), dF q2]
      by_cases q3 : a2.length ≤ 24
      · rw [dF (show ¬ (a2.length : Int) > 24 by omega), dT q3]
        cases Sp1D.inside a0 0 7 <;> cases vlen a1 <;> cases a2.all (fun e => Sp1D.inside e.2.1 1 256 && Sp1D.inside e.1 1 99) <;> cases upE a2 <;> cases repeats (a2.map fun e => e.1) <;> rfl
      · rw [dT (show (a2.length : Int) > 24 by omega), dF q3]
        cases Sp1D.inside a0 0 7 <;> cases vlen a1 <;> rfl
  · rw [dF q1]
    by_cases q3 : a2.length ≤ 24
    · rw [dF (show ¬ (a2.length : Int) > 24 by omega), dT q3]
      cases Sp1D.inside a0 0 7 <;> cases vlen a1 <;> cases a2.all (fun e => Sp1D.inside e.2.1 1 256 && Sp1D.inside e.1 1 99) <;> cases upE a2 <;> cases repeats (a2.map fun e => e.1) <;> rfl
    · rw [dT (show (a2.length : Int) > 24 by omega), dF q3]
      cases Sp1D.inside a0 0 7 <;> cases vlen a1 <;> rfl
end Go.Abs.C1D

namespace Go.Abs.C1D
open Go Go.Proofs Sp1D
set_option maxRecDepth 100000
theorem g31_ok (a0 : Int) (a1 : Int) (a2 : (List (Int × (Int × Unit)))) (r0 : IntKind.i64.has a0) (r1 : IntKind.i64.has a1) (r2 : (Ty.sl (edT)).ok a2) : g31 a0 a1 a2 = some (Sp1D.validP (a0, a1, a2, ()), ()) := by
  have hl := len_ed r2
  have hL : Loop (g31_s0 a2) ((0 : Int), (([] : List Int), ())) = some (bif (List.range a2.length).any (badE a2) then (true, ((false, ()), (([] : List Int), ()))) else (false, ((false, ()), ((a2.map fun e => e.1), ())))) := by
    refine Loop_seqB (fun k => ((k : Int), (((a2.take k).map fun e => e.1), ()))) a2.length _ (badE a2) _ (fun i hi => ?_) ?_
    · have hm : ((List.map (fun e : Ed => e.1) (List.take (i + 1) a2))) = (a2.take i).map (fun e : Ed => e.1) ++ ((a2.getD i (0, 0, ())).1 :: []) := by
        rw [take_succ_getD a2 i (0, 0, ()) hi, List.map_append]; rfl
      rw [hm]
      unfold g31_s0 badE
      simp only [Int.ofNat_eq_natCast, Int.toNat_natCast]
      rw [dT (show (i : Int) < (a2.length : Int) by omega), dT (show (0 : Int) ≤ (i : Int) by omega), wi64n (by omega), ble_t (show ((List.map (fun e : Ed => e.1) (List.take i a2)).length + 1) * 8 ≤ 140737488355328 by rw [List.length_map, List.length_take]; omega)]
      cases Sp1D.inside (a2.getD i (0, 0, ())).2.1 1 256 <;> cases Sp1D.inside (a2.getD i (0, 0, ())).1 1 99 <;> first | rfl | skip
      by_cases h0 : 0 < i
      · rw [dT (show (i : Int) > 0 by omega), dT h0, wi64p h0 (by omega), dT (show (0 : Int) ≤ ((i - 1 : Nat) : Int) by omega), dT (show ((i - 1 : Nat) : Int) < (a2.length : Int) by omega)]
        simp only [Int.toNat_natCast]
        by_cases h1 : (a2.getD i (0, 0, ())).2.1 ≤ (a2.getD (i - 1) (0, 0, ())).2.1
        · rw [dT (show (a2.getD (i - 1) (0, 0, ())).2.1 ≥ (a2.getD i (0, 0, ())).2.1 from h1)]; first | rfl | (rw [dT h1]; rfl)
        · rw [dF (show ¬ (a2.getD (i - 1) (0, 0, ())).2.1 ≥ (a2.getD i (0, 0, ())).2.1 from h1)]; first | rfl | (rw [dF h1]; rfl)
      · rw [dF (show ¬ (i : Int) > 0 by omega), dF h0]; rfl
    · unfold g31_s0
      simp only [Int.ofNat_eq_natCast]
      rw [dF (show ¬ (a2.length : Int) < (a2.length : Int) by omega), List.take_length]
      rfl
  unfold g31 validP
  rw [hL, badE_any]
  simp only [Int.ofNat_eq_natCast]
  by_cases q1 : a1 = 0
  · rw [dT q1]
    by_cases q2 : a2.length = 0
    · rw [dF (show ¬ (a2.length : Int) > 0 by omega), dT q2, dF (show ¬ (a2.length : Int) > 24 by omega), dT (show a2.length ≤ 24 by omega)]
      cases Sp1D.inside a0 0 7 <;> cases vlen a1 <;> cases a2.all (fun e => Sp1D.inside e.2.1 1 256 && Sp1D.inside e.1 1 99) <;> cases upE a2 <;> rfl
    · rw [dT (show (a2.length : Int) > 0 by omega), dF q2]
      by_cases q3 : a2.length ≤ 24
      · rw [dF (show ¬ (a2.length : Int) > 24 by omega), dT q3]
        cases Sp1D.inside a0 0 7 <;> cases vlen a1 <;> cases a2.all (fun e => Sp1D.inside e.2.1 1 256 && Sp1D.inside e.1 1 99) <;> cases upE a2 <;> rfl
      · rw [dT (show (a2.length : Int) > 24 by omega), dF q3]
        cases Sp1D.inside a0 0 7 <;> cases vlen a1 <;> rfl
  · rw [dF q1]
    by_cases q3 : a2.length ≤ 24
    · rw [dF (show ¬ (a2.length : Int) > 24 by omega), dT q3]
      cases Sp1D.inside a0 0 7 <;> cases vlen a1 <;> cases a2.all (fun e => Sp1D.inside e.2.1 1 256 && Sp1D.inside e.1 1 99) <;> cases upE a2 <;> rfl
    · rw [dT (show (a2.length : Int) > 24 by omega), dF q3]
      cases Sp1D.inside a0 0 7 <;> cases vlen a1 <;> rfl
theorem g17_ok (a0 : (List Int)) (a1 : (List Int)) (r0 : (Ty.sl (.int .i64)).ok a0) (r1 : (Ty.sl (.int .i64)).ok a1) : g17 a0 a1 = some (Sp1D.sameI a0 a1, ()) := by
  have hl := len_i r0
  unfold g17 sameI
  simp only [Int.ofNat_eq_natCast]
  by_cases q : a0.length = a1.length
  · have hL : Loop (g17_s0 a0 a1) ((0 : Int), ()) = some (bif (List.range a0.length).any (fun k => !decide (a0.getD k 0 = a1.getD k 0)) then (true, ((false, ()), ())) else (false, ((false, ()), ()))) := by
      refine scanN _ a0.length _ _ _ (fun k hk => ?_) ?_
      · unfold g17_s0
        simp only [Int.ofNat_eq_natCast, Int.toNat_natCast]
        rw [dT (show (k : Int) < (a0.length : Int) by omega), dT (show (0 : Int) ≤ (k : Int) by omega), dT (show (k : Int) < (a1.length : Int) by omega), wi64n (by omega)]
        cases decide (a0.getD k 0 = a1.getD k 0) <;> rfl
      · unfold g17_s0
        simp only [Int.ofNat_eq_natCast]
        rw [dF (show ¬ (a0.length : Int) < (a0.length : Int) by omega)]
        rfl
    rw [dT (show (a0.length : Int) = (a1.length : Int) by omega), hL]
    have he : (List.range a0.length).any (fun k => !decide (a0.getD k 0 = a1.getD k 0)) = !decide (a0 = a1) := by
      rw [← List.not_all_eq_any_not]
      congr 1
      rw [Bool.eq_iff_iff, decide_eq_true_eq, List.all_eq_true]
      constructor
      · intro h
        exact list_getD_ext 0 q fun i hi => of_decide_eq_true (h i (List.mem_range.2 hi))
      · rintro rfl x _
        exact decide_eq_true rfl
    rw [he]
    cases decide (a0 = a1) <;> rfl
  · rw [dF (show ¬ (a0.length : Int) = (a1.length : Int) by omega), dF (show ¬ a0 = a1 from fun h => q (by rw [h]))]
    rfl
theorem vlen_iff {n : Int} : vlen n = true ↔ n = 8 ∨ n = 16 ∨ n = 32 ∨ n = 64 := by
  simp [vlen, or_assoc]
theorem place_eq (a0 a1 : Int) : (Option.bind (bif (!(!(vlen a1))) then (some ((!(Sp1D.inside a0 1 256)), ())) else (some (true, ()))) (fun (y2 : (Bool × Unit)) => (bif y2.1 then (some ((0, (0, (false, ()))), ())) else (bif (!(decide (a1 = 0))) then (bif (!(decide (a1 = 0))) then (some (((IntKind.wrap .i64 (Int.tdiv (IntKind.wrap .i64 (a0 - 1)) a1)), ((Int.tmod (IntKind.wrap .i64 (a0 - 1)) a1), (true, ()))), ())) else none) else none)))) = some (place a0 a1, ()) := by
  unfold place
  cases hv : vlen a1 with
  | false => rfl
  | true =>
    cases hi : Sp1D.inside a0 1 256 with
    | false => rfl
    | true =>
      have h1 := vlen_iff.1 hv
      have h2 := inside_iff.1 hi
      have e1 : IntKind.wrap .i64 (a0 - 1) = a0 - 1 := wi64 (by omega) (by omega)
      have e2 : Int.tdiv (a0 - 1) a1 = (a0 - 1) / a1 := tdiv_nn (by omega)
      have e3 : Int.tmod (a0 - 1) a1 = (a0 - 1) % a1 := tmod_nn (by omega)
      have e4 : IntKind.wrap .i64 ((a0 - 1) / a1) = (a0 - 1) / a1 := by
        rcases h1 with h | h | h | h <;> subst h <;> exact wi64 (by omega) (by omega)
      have e5 : ¬ a1 = 0 := by omega
      rw [e1, e2, e3, e4, dF e5]
      rfl
theorem g30_ok (a0 : Int) (a1 : Int) (r0 : IntKind.i64.has a0) (r1 : IntKind.i64.has a1) : g30 a0 a1 = some (Sp1D.place a0 a1, ()) := by
  unfold g30
  exact place_eq a0 a1
theorem g33_ok (a0 : Int) (a1 : Int) (r0 : IntKind.i64.has a0) (r1 : IntKind.i64.has a1) : g33 a0 a1 = some (Sp1D.place a0 a1, ()) := by
  unfold g33
  exact place_eq a0 a1
theorem at_eq (a0 a1 a2 : Int) : (Option.bind (bif (!(!(vlen a2))) then (bif (!(!(Sp1D.inside a1 0 (IntKind.wrap .i64 (a2 - 1))))) then (some ((!(Sp1D.inside a0 0 31)), ())) else (some (true, ()))) else (some (true, ()))) (fun (y3 : (Bool × Unit)) => (bif y3.1 then (some ((0, (false, ())), ())) else (bif (decide ((IntKind.wrap .i64 ((IntKind.wrap .i64 ((IntKind.wrap .i64 (a0 * a2)) + a1)) + 1)) > 256)) then (some ((0, (false, ())), ())) else (some (((IntKind.wrap .i64 ((IntKind.wrap .i64 ((IntKind.wrap .i64 (a0 * a2)) + a1)) + 1)), (true, ())), ())))))) = some (at_ a0 a1 a2, ()) := by
  unfold at_
  cases hv : vlen a2 with
  | false => rfl
  | true =>
    have h1 := vlen_iff.1 hv
    have e1 : IntKind.wrap .i64 (a2 - 1) = a2 - 1 := wi64 (by omega) (by omega)
    rw [e1]
    cases hi : Sp1D.inside a1 0 (a2 - 1) with
    | false => rfl
    | true =>
      cases hs : Sp1D.inside a0 0 31 with
      | false => rfl
      | true =>
        have h2 := inside_iff.1 hi
        have h3 := inside_iff.1 hs
        have hm : 0 ≤ a0 * a2 ∧ a0 * a2 ≤ 1984 := by rcases h1 with h | h | h | h <;> subst h <;> omega
        have e2 : IntKind.wrap .i64 (a0 * a2) = a0 * a2 := wi64 (by omega) (by omega)
        have e3 : IntKind.wrap .i64 (a0 * a2 + a1) = a0 * a2 + a1 := wi64 (by omega) (by omega)
        have e4 : IntKind.wrap .i64 (a0 * a2 + a1 + 1) = a0 * a2 + a1 + 1 := wi64 (by omega) (by omega)
        rw [e2, e3, e4]
        by_cases q : 256 < a0 * a2 + a1 + 1
        · rw [dT q]; first | rfl | (rw [dT (show a0 * a2 + a1 + 1 > 256 from q)]; rfl)
        · rw [dF q]; first | rfl | (rw [dF (show ¬ a0 * a2 + a1 + 1 > 256 from q)]; rfl)
theorem g36_ok (a0 : Int) (a1 : Int) (a2 : Int) (r0 : IntKind.i64.has a0) (r1 : IntKind.i64.has a1) (r2 : IntKind.i64.has a2) : g36 a0 a1 a2 = some (Sp1D.at_ a0 a1 a2, ()) := by
  unfold g36
  exact at_eq a0 a1 a2
theorem g38_ok (a0 : Int) (a1 : Int) (a2 : Int) (r0 : IntKind.i64.has a0) (r1 : IntKind.i64.has a1) (r2 : IntKind.i64.has a2) : g38 a0 a1 a2 = some (Sp1D.at_ a0 a1 a2, ()) := by
  unfold g38
  exact at_eq a0 a1 a2
end Go.Abs.C1D
