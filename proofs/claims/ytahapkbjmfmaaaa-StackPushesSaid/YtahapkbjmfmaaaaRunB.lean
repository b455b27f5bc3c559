/- Chapter 04: proved is, of more functions, that the evaluator comes to the printed term, and that the functions on bits and streams keep their contracts; no conditions but those that each theorem states. -/
import Derived.Test.YtahapkbjmfmaaaaRunA
set_option linter.unusedVariables false
set_option linter.unusedSimpArgs false
namespace Go.Abs.C04
open Go Go.Abs
set_option maxRecDepth 20000
set_option linter.unusedVariables false
noncomputable def g37_s0 (a0 : (Sp04.Pk × Unit)) : (Option (Sum (Sp04.Pk × Unit) (Sp04.Pk × Unit))) :=
  (bif (decide ((Int.ofNat a0.1.2.2.2.2.2.2.2.2.2.1.length) < 62)) then (bif (@Nat.ble (a0.1.2.2.2.2.2.2.2.2.2.1.length + 3) 9223372036854775807) then (some (.inl ((a0.1.1,(a0.1.2.1,(a0.1.2.2.1,(a0.1.2.2.2.1,(a0.1.2.2.2.2.1,(a0.1.2.2.2.2.2.1,(a0.1.2.2.2.2.2.2.1,(a0.1.2.2.2.2.2.2.2.1,(a0.1.2.2.2.2.2.2.2.2.1,((a0.1.2.2.2.2.2.2.2.2.2.1 ++ ((97 : Int) :: ((98 : Int) :: ((99 : Int) :: [])))),())))))))))),()))) else none) else (some (.inr a0)))
noncomputable def g37 (a0 : (List Int)) (a1 : Int) (a2 : Int) : (Option (Sp04.Pk × Sp04.Tp)) :=
  (Option.bind (@Sp04.on (Int × Sp04.Tp) (@Sp04.wf (a0,(a1,()))) (@Sp04.length (a0,(a1,())))) (fun (y3 : (Int × Sp04.Tp)) => (Option.bind (@Sp04.on (Int × Sp04.Tp) (((@Sp04.wf y3.2) && (@Sp04.small 1)) && (@Sp04.small 3)) (@Sp04.range y3.2 1 3)) (fun (y4 : (Int × Sp04.Tp)) => (Option.bind (@Sp04.on (Int × Sp04.Tp) (((@Sp04.wf y4.2) && (@Sp04.small 0)) && (@Sp04.small 7)) (@Sp04.range y4.2 0 7)) (fun (y5 : (Int × Sp04.Tp)) => (Option.bind (@Sp04.on (Int × Sp04.Tp) (((@Sp04.wf y5.2) && (decide (0 < 5))) && (decide (5 ≤ 1000))) (@Sp04.pick y5.2 ((0 : Int) :: ((0 : Int) :: ((1 : Int) :: ((2 : Int) :: ((31 : Int) :: []))))))) (fun (y6 : (Int × Sp04.Tp)) => (Option.bind (@Sp04.on (Int × Sp04.Tp) (((@Sp04.wf y6.2) && (decide (0 < 5))) && (decide (5 ≤ 1000))) (@Sp04.pick y6.2 ((0 : Int) :: ((1 : Int) :: ((2 : Int) :: ((5 : Int) :: ((63 : Int) :: []))))))) (fun (y7 : (Int × Sp04.Tp)) => (Option.bind (@Sp04.on (Int × Sp04.Tp) (@Sp04.wf y7.2) (@Sp04.next y7.2 1024)) (fun (y8 : (Int × Sp04.Tp)) => (Option.bind (@Sp04.on (Int × Sp04.Tp) (((@Sp04.wf y8.2) && (decide (0 < 5))) && (decide (5 ≤ 1000))) (@Sp04.pick y8.2 ((0 : Int) :: ((1 : Int) :: ((8 : Int) :: ((255 : Int) :: ((256 : Int) :: []))))))) (fun (y9 : (Int × Sp04.Tp)) => (Option.bind (@Sp04.on (Int × Sp04.Tp) (@Sp04.wf y9.2) (@Sp04.next y9.2 8)) (fun (y10 : (Int × Sp04.Tp)) => (Option.bind (@Sp04.on (Int × Sp04.Tp) (@Sp04.wf y10.2) (@Sp04.bitsT y10.2 y3.1)) (fun (y11 : (Int × Sp04.Tp)) => (Option.bind (@Sp04.on ((List Int) × Sp04.Tp) (((@Sp04.wf y11.2) && (decide ((0 : Int) ≤ 6))) && (decide ((6 : Int) ≤ 1000))) (@Sp04.text y11.2 6)) (fun (y12 : ((List Int) × Sp04.Tp)) => (Option.bind (bif (decide (a2 > 0)) then (Option.bind (@Sp04.on (Bool × Sp04.Tp) ((@Sp04.wf y12.2) && (@Sp04.small a2)) (@Sp04.one y12.2 a2)) (fun (y13 : (Bool × Sp04.Tp)) => (some (y13.2,(y13.1,()))))) else (some (y12.2,(false,())))) (fun (y13 : (Sp04.Tp × (Bool × Unit))) => (Option.bind (bif y13.2.1 then (Option.bind (@Sp04.on (Int × Sp04.Tp) (@Sp04.wf y13.1) (@Sp04.next y13.1 9)) (fun (y14 : (Int × Sp04.Tp)) => (Option.bind (bif (decide (y14.1 = 0)) then (Option.bind (@Sp04.on (Int × Sp04.Tp) (@Sp04.wf y14.2) (@Sp04.wild y14.2)) (fun (y15 : (Int × Sp04.Tp)) => (some (y15.2,((y15.1,(y5.1,(y6.1,(y3.1,(y7.1,(y8.1,(y9.1,(y10.1,(y11.1,(y12.1,())))))))))),()))))) else (Option.bind (bif (decide (y14.1 = 1)) then (Option.bind (@Sp04.on (Int × Sp04.Tp) (@Sp04.wf y14.2) (@Sp04.wild y14.2)) (fun (y15 : (Int × Sp04.Tp)) => (some ((y4.1,(y15.1,(y6.1,(y3.1,(y7.1,(y8.1,(y9.1,(y10.1,(y11.1,(y12.1,())))))))))),(y15.2,()))))) else (Option.bind (bif (decide (y14.1 = 2)) then (Option.bind (@Sp04.on (Int × Sp04.Tp) (@Sp04.wf y14.2) (@Sp04.wild y14.2)) (fun (y15 : (Int × Sp04.Tp)) => (some (y15.2,((y4.1,(y5.1,(y15.1,(y3.1,(y7.1,(y8.1,(y9.1,(y10.1,(y11.1,(y12.1,())))))))))),()))))) else (Option.bind (bif (decide (y14.1 = 3)) then (Option.bind (@Sp04.on (Int × Sp04.Tp) (((@Sp04.wf y14.2) && (decide (0 < 8))) && (decide (8 ≤ 1000))) (@Sp04.pick y14.2 ((0 : Int) :: ((8 : Int) :: ((16 : Int) :: ((24 : Int) :: ((63 : Int) :: ((64 : Int) :: ((65 : Int) :: ((-8 : Int) :: [])))))))))) (fun (y15 : (Int × Sp04.Tp)) => (some ((y4.1,(y5.1,(y6.1,(y15.1,(y7.1,(y8.1,(y9.1,(y10.1,(y11.1,(y12.1,())))))))))),(y15.2,()))))) else (Option.bind (bif (decide (y14.1 = 4)) then (Option.bind (@Sp04.on (Int × Sp04.Tp) (@Sp04.wf y14.2) (@Sp04.wild y14.2)) (fun (y15 : (Int × Sp04.Tp)) => (some (y15.2,((y4.1,(y5.1,(y6.1,(y3.1,(y15.1,(y8.1,(y9.1,(y10.1,(y11.1,(y12.1,())))))))))),()))))) else (Option.bind (bif (decide (y14.1 = 5)) then (Option.bind (@Sp04.on (Int × Sp04.Tp) (@Sp04.wf y14.2) (@Sp04.wild y14.2)) (fun (y15 : (Int × Sp04.Tp)) => (some ((y4.1,(y5.1,(y6.1,(y3.1,(y7.1,(y15.1,(y9.1,(y10.1,(y11.1,(y12.1,())))))))))),(y15.2,()))))) else (Option.bind (bif (decide (y14.1 = 6)) then (Option.bind (@Sp04.on (Int × Sp04.Tp) (@Sp04.wf y14.2) (@Sp04.wild y14.2)) (fun (y15 : (Int × Sp04.Tp)) => (some (y15.2,((y4.1,(y5.1,(y6.1,(y3.1,(y7.1,(y8.1,(y15.1,(y10.1,(y11.1,(y12.1,())))))))))),()))))) else (Option.bind (bif (decide (y14.1 = 7)) then (Option.bind (@Sp04.on (Int × Sp04.Tp) (@Sp04.wf y14.2) (@Sp04.wild y14.2)) (fun (y15 : (Int × Sp04.Tp)) => (some ((y4.1,(y5.1,(y6.1,(y3.1,(y7.1,(y8.1,(y9.1,(y15.1,(y11.1,(y12.1,())))))))))),(y15.2,()))))) else (Option.bind (Loop g37_s0 ((y4.1,(y5.1,(y6.1,(y3.1,(y7.1,(y8.1,(y9.1,(y10.1,(y11.1,(y12.1,())))))))))),())) (fun (y15 : (Sp04.Pk × Unit)) => (Option.bind (@Sp04.on ((List Int) × Sp04.Tp) (((@Sp04.wf y14.2) && (decide ((0 : Int) ≤ 4))) && (decide ((4 : Int) ≤ 1000))) (@Sp04.text y14.2 4)) (fun (y16 : ((List Int) × Sp04.Tp)) => (bif (@Nat.ble (y15.1.2.2.2.2.2.2.2.2.2.1.length + y16.1.length) 9223372036854775807) then (some ((y15.1.1,(y15.1.2.1,(y15.1.2.2.1,(y15.1.2.2.2.1,(y15.1.2.2.2.2.1,(y15.1.2.2.2.2.2.1,(y15.1.2.2.2.2.2.2.1,(y15.1.2.2.2.2.2.2.2.1,(y15.1.2.2.2.2.2.2.2.2.1,((y15.1.2.2.2.2.2.2.2.2.2.1 ++ y16.1),())))))))))),(y16.2,()))) else none)))))) (fun (y15 : (Sp04.Pk × (Sp04.Tp × Unit))) => (some (y15.2.1,(y15.1,())))))) (fun (y15 : (Sp04.Tp × (Sp04.Pk × Unit))) => (some (y15.2.1,(y15.1,())))))) (fun (y15 : (Sp04.Pk × (Sp04.Tp × Unit))) => (some (y15.2.1,(y15.1,())))))) (fun (y15 : (Sp04.Tp × (Sp04.Pk × Unit))) => (some (y15.2.1,(y15.1,())))))) (fun (y15 : (Sp04.Pk × (Sp04.Tp × Unit))) => (some (y15.2.1,(y15.1,())))))) (fun (y15 : (Sp04.Tp × (Sp04.Pk × Unit))) => (some (y15.2.1,(y15.1,())))))) (fun (y15 : (Sp04.Pk × (Sp04.Tp × Unit))) => (some (y15.2.1,(y15.1,())))))) (fun (y15 : (Sp04.Tp × (Sp04.Pk × Unit))) => (some y15))))) else (some (y13.1,((y4.1,(y5.1,(y6.1,(y3.1,(y7.1,(y8.1,(y9.1,(y10.1,(y11.1,(y12.1,())))))))))),())))) (fun (y14 : (Sp04.Tp × (Sp04.Pk × Unit))) => (some (y14.2.1,y14.1))))))))))))))))))))))))))
theorem g37_eq (a0 : (List Int)) (a1 : Int) (a2 : Int) : (evF (fun _ _ => Loop) E37 G37 Proofs.Try.f37 plan37 c37 ((a0,(a1,())),(a2,()))).den = g37 a0 a1 a2 := by kernel_rfl

noncomputable def g8 (a0 : (List Int)) (a1 : (List Int)) (a2 : Int) (a3 : Int) (a4 : Int) (a5 : Int) (a6 : Int) (a7 : Int) (a8 : Int) (a9 : Int) (a10 : Int) (a11 : (List Int)) (a12 : (List Int)) : (Option (Bool × Unit)) :=
  (Option.bind (@Sp04.on (((List Int) × Sp04.Pk) × Sp04.Tp) ((@Sp04.wf (@Sp04.tape a0)) && (@Sp04.small 5)) (@Sp04.frm (@Sp04.tape a0) 5)) (fun (y13 : (((List Int) × Sp04.Pk) × Sp04.Tp)) => (Option.bind (@Sp04.on ((List Int) × Sp04.Tp) ((((@Sp04.wf y13.2) && (@Sp04.inside 3 0 1000)) && (@Sp04.small 1)) && (@Sp04.small 8)) (@Sp04.ints y13.2 3 1 8)) (fun (y14 : ((List Int) × Sp04.Tp)) => (Option.bind (@Sp04.on (Bool × Sp04.Tp) ((@Sp04.wf y14.2) && (@Sp04.small 5)) (@Sp04.one y14.2 5)) (fun (y15 : (Bool × Sp04.Tp)) => (Option.bind (bif y15.1 then (Option.bind (@Sp04.on (Int × Sp04.Tp) (@Sp04.wf y15.2) (@Sp04.wild y15.2)) (fun (y16 : (Int × Sp04.Tp)) => (bif (@Nat.ble ((y14.1.length + 1) * 8) 140737488355328) then (some ((y14.1 ++ (y16.1 :: [])),())) else none))) else (some (y14.1,()))) (fun (y16 : ((List Int) × Unit)) => (Option.bind (@Sp04.on ((((List Int) × Sp04.Pk) × (Int × Unit)) × Unit) ((decide (y16.1.length ≤ 100000)) && (decide (y13.1.1.length ≤ 100000))) ((@Sp04.push y13.1 y16.1),())) (fun (y17 : ((((List Int) × Sp04.Pk) × (Int × Unit)) × Unit)) => (Option.bind (@Sp04.on ((((List Int) × Sp04.Pk) × (Int × Unit)) × Unit) ((decide (y16.1.length ≤ 100000)) && (decide (y13.1.1.length ≤ 100000))) ((@Sp04.push y13.1 y16.1),())) (fun (y18 : ((((List Int) × Sp04.Pk) × (Int × Unit)) × Unit)) => (Option.bind (bif (!(!(@Sp04.sameF y17.1.1 y18.1.1))) then (some ((!(decide (y17.1.2.1 = y18.1.2.1))),())) else (some (true,()))) (fun (y19 : (Bool × Unit)) => (bif y19.1 then (some (false,())) else (Option.bind (bif (decide ((Int.ofNat a1.length) ≤ 100)) then (some ((decide ((Int.ofNat a12.length) ≤ 100)),())) else (some (false,()))) (fun (y20 : (Bool × Unit)) => (Option.bind (bif y20.1 then (Option.bind (@Sp04.on ((((List Int) × Sp04.Pk) × (Int × Unit)) × Unit) ((decide (a12.length ≤ 100000)) && (decide (a1.length ≤ 100000))) ((@Sp04.push (a1,(a2,(a3,(a4,(a5,(a6,(a7,(a8,(a9,(a10,(a11,()))))))))))) a12),())) (fun (y21 : ((((List Int) × Sp04.Pk) × (Int × Unit)) × Unit)) => (Option.bind (@Sp04.on ((((List Int) × Sp04.Pk) × (Int × Unit)) × Unit) ((decide (a12.length ≤ 100000)) && (decide (a1.length ≤ 100000))) ((@Sp04.push (a1,(a2,(a3,(a4,(a5,(a6,(a7,(a8,(a9,(a10,(a11,()))))))))))) a12),())) (fun (y22 : ((((List Int) × Sp04.Pk) × (Int × Unit)) × Unit)) => (Option.bind (bif (!(!(@Sp04.sameF y21.1.1 y22.1.1))) then (some ((!(decide (y21.1.2.1 = y22.1.2.1))),())) else (some (true,()))) (fun (y23 : (Bool × Unit)) => (bif y23.1 then (some (true,((false,()),()))) else (some (false,((false,()),())))))))))) else (some (false,((false,()),())))) (fun (y21 : (Bool × ((Bool × Unit) × Unit))) => (bif y21.1 then (some y21.2.1) else (Option.bind (bif (!(!(decide ((@Sp04.pop y13.1).1 = (@Sp04.pop y13.1).1)))) then (bif (!(!(@Sp04.sameF (@Sp04.pop y13.1).2.1 (@Sp04.pop y13.1).2.1))) then (some ((!(decide ((@Sp04.pop y13.1).2.2.1 = (@Sp04.pop y13.1).2.2.1))),())) else (some (true,()))) else (some (true,()))) (fun (y22 : (Bool × Unit)) => (bif y22.1 then (some (false,())) else (Option.bind (@Sp04.on ((((List Int) × Sp04.Pk) × (Int × Unit)) × Unit) ((decide (1 ≤ 100000)) && (decide (y13.1.1.length ≤ 100000))) ((@Sp04.push y13.1 ((77 : Int) :: [])),())) (fun (y23 : ((((List Int) × Sp04.Pk) × (Int × Unit)) × Unit)) => (Option.bind (bif (!(!(decide (y23.1.2.1 = 0)))) then (bif (decide ((@Sp04.pop y23.1.1).1 = 77)) then (bif (@Sp04.sameF (@Sp04.pop y23.1.1).2.1 y13.1) then (bif (@Sp04.pop y23.1.1).2.2.1 then (some (true,())) else (some (false,()))) else (some (false,()))) else (some (false,()))) else (some (true,()))) (fun (y24 : (Bool × Unit)) => (some y24))))))))))))))))))))))))))))
theorem g8_eq (a0 : (List Int)) (a1 : (List Int)) (a2 : Int) (a3 : Int) (a4 : Int) (a5 : Int) (a6 : Int) (a7 : Int) (a8 : Int) (a9 : Int) (a10 : Int) (a11 : (List Int)) (a12 : (List Int)) : (evF (fun _ _ => Loop) E8 G8 Proofs.Try.f8 plan8 c8 ((),(a0,((a1,(a2,(a3,(a4,(a5,(a6,(a7,(a8,(a9,(a10,(a11,()))))))))))),(a12,()))))).den = g8 a0 a1 a2 a3 a4 a5 a6 a7 a8 a9 a10 a11 a12 := by kernel_rfl

noncomputable def g20_s0 (a0 : (@List Sp04.Lb)) (a1 : (Int × ((List Int) × Unit))) : (Option (Sum (Int × ((List Int) × Unit)) ((List Int) × Unit))) :=
  (bif (decide (a1.1 < (Int.ofNat a0.length))) then (bif ((decide (0 ≤ a1.1)) && (decide (a1.1 < (Int.ofNat a0.length)))) then (bif (@Nat.ble ((a1.2.1.length + 1) * 8) 140737488355328) then (some (.inl ((IntKind.wrap .i64 (a1.1 + 1)),((a1.2.1 ++ ((IntKind.wrap .i64 (Int.ofNat (@BitVec.toNat 64 (@BitVec.or 64 (@BitVec.ofInt 64 (IntKind.wrap .i64 (Int.ofNat (@BitVec.toNat 64 (@BitVec.or 64 (@BitVec.ofInt 64 (IntKind.wrap .i64 ((List.getD a0 (Int.toNat a1.1) (0,(0,(0,())))).1 * 4096))) (@BitVec.ofInt 64 (IntKind.wrap .i64 ((List.getD a0 (Int.toNat a1.1) (0,(0,(0,())))).2.1 * 512)))))))) (@BitVec.ofInt 64 (List.getD a0 (Int.toNat a1.1) (0,(0,(0,())))).2.2.1))))) :: [])),())))) else none) else none) else (some (.inr a1.2)))
noncomputable def g20 (a0 : (@List Sp04.Lb)) : (Option (Sp04.Tp × Unit)) :=
  (bif (!(@Sp04.inside (Int.ofNat a0.length) 1 24)) then (some (([],(3,())),())) else (bif (@List.any Sp04.Lb a0 Sp04.lost) then (some (([],(2,())),())) else (Option.bind (Loop (@g20_s0 a0) (0,([],()))) (fun (y1 : ((List Int) × Unit)) => (bif ((decide (0 ≤ (IntKind.wrap .i64 ((Int.ofNat y1.1.length) - 1)))) && (decide ((IntKind.wrap .i64 ((Int.ofNat y1.1.length) - 1)) < (Int.ofNat y1.1.length)))) then (bif (@Nat.blt (Int.toNat (IntKind.wrap .i64 ((Int.ofNat y1.1.length) - 1))) y1.1.length) then (bif ((decide (0 ≤ (IntKind.wrap .i64 ((Int.ofNat y1.1.length) - 1)))) && (decide ((IntKind.wrap .i64 ((Int.ofNat y1.1.length) - 1)) < (Int.ofNat y1.1.length)))) then (bif (@Nat.blt (Int.toNat (IntKind.wrap .i64 ((Int.ofNat y1.1.length) - 1))) y1.1.length) then (some (((@Sp04.joined (List.set y1.1 (Int.toNat (IntKind.wrap .i64 ((Int.ofNat y1.1.length) - 1))) (IntKind.wrap .i64 (Int.ofNat (@BitVec.toNat 64 (@BitVec.or 64 (@BitVec.ofInt 64 (List.getD y1.1 (Int.toNat (IntKind.wrap .i64 ((Int.ofNat y1.1.length) - 1))) 0)) (@BitVec.ofInt 64 256))))))),(0,())),())) else none) else none) else none) else none)))))
theorem g20_eq (a0 : (@List Sp04.Lb)) : (evF (fun _ _ => Loop) E20 G20 Proofs.Try.f20 plan20 c20 ((),(a0,()))).den = g20 a0 := by kernel_rfl

noncomputable def g25_s0 (a0 : (List Int)) (a1 : (Int × ((@List Sp04.Lb) × Unit))) : (Option (Sum (Int × ((@List Sp04.Lb) × Unit)) ((@List Sp04.Lb) × Unit))) :=
  (bif (decide (a1.1 < (Int.ofNat a0.length))) then (bif ((decide (0 ≤ a1.1)) && (decide (a1.1 < (Int.ofNat a0.length)))) then (bif (@Nat.ble ((a1.2.1.length + 1) * 24) 140737488355328) then (some (.inl ((IntKind.wrap .i64 (a1.1 + 1)),((a1.2.1 ++ (((IntKind.wrap .i64 (16 + (List.getD a0 (Int.toNat a1.1) 0))),(0,(255,()))) :: [])),())))) else none) else none) else (some (.inr a1.2)))
noncomputable def g25 (a0 : (List Int)) (a1 : Int) (a2 : Int) (a3 : Int) (a4 : Int) (a5 : Int) (a6 : Int) (a7 : Int) (a8 : Int) (a9 : Int) (a10 : (List Int)) : (Option (Sp04.Tp × Unit)) :=
  (bif (!(@Sp04.validF (a0,(a1,(a2,(a3,(a4,(a5,(a6,(a7,(a8,(a9,(a10,()))))))))))))) then (some (([],(1,())),())) else (bif (decide ((Int.ofNat a0.length) = 0)) then (bif (@Nat.ble ((1 + (@Sp04.encode (a1,(a2,(a3,(a4,(a5,(a6,(a7,(a8,(a9,(a10,()))))))))))).1.length) * 1) 140737488355328) then (some ((((0 : Int) :: ([] ++ (@Sp04.encode (a1,(a2,(a3,(a4,(a5,(a6,(a7,(a8,(a9,(a10,()))))))))))).1)),(0,())),())) else none) else (Option.bind (Loop (@g25_s0 a0) (0,([],()))) (fun (y11 : ((@List Sp04.Lb) × Unit)) => (Option.bind (@Sp04.on ((List Int) × Unit) ((decide (((1 : Int) :: ([] ++ ((@Sp04.encL y11.1).1 ++ ((@Sp04.encode (a1,(a2,(a3,(a4,(a5,(a6,(a7,(a8,(a9,(a10,()))))))))))).1 ++ [])))).length ≤ 1000000)) && (decide ((((1 : Int) :: []) :: ((@Sp04.encL y11.1).1 :: ((@Sp04.encode (a1,(a2,(a3,(a4,(a5,(a6,(a7,(a8,(a9,(a10,()))))))))))).1 :: []))).length ≤ 100))) (((1 : Int) :: ([] ++ ((@Sp04.encL y11.1).1 ++ ((@Sp04.encode (a1,(a2,(a3,(a4,(a5,(a6,(a7,(a8,(a9,(a10,()))))))))))).1 ++ [])))),())) (fun (y12 : ((List Int) × Unit)) => (some ((y12.1,(0,())),()))))))))
theorem g25_eq (a0 : (List Int)) (a1 : Int) (a2 : Int) (a3 : Int) (a4 : Int) (a5 : Int) (a6 : Int) (a7 : Int) (a8 : Int) (a9 : Int) (a10 : (List Int)) : (evF (fun _ _ => Loop) E25 G25 Proofs.Try.f25 plan25 c25 ((),((a0,(a1,(a2,(a3,(a4,(a5,(a6,(a7,(a8,(a9,(a10,()))))))))))),()))).den = g25 a0 a1 a2 a3 a4 a5 a6 a7 a8 a9 a10 := by kernel_rfl

noncomputable def g64 (a0 : (List Int)) (a1 : Int) (a2 : Int) : (Option (Int × Sp04.Tp)) :=
  (Option.bind (@Sp04.on (Int × Sp04.Tp) (@Sp04.wf (a0,(a1,()))) (@Sp04.raw (a0,(a1,())))) (fun (y3 : (Int × Sp04.Tp)) => (Option.bind (@Sp04.on (Int × Sp04.Tp) (@Sp04.wf y3.2) (@Sp04.raw y3.2)) (fun (y4 : (Int × Sp04.Tp)) => (Option.bind (@Sp04.on (Int × Sp04.Tp) (@Sp04.wf y4.2) (@Sp04.next y4.2 6)) (fun (y5 : (Int × Sp04.Tp)) => (Option.bind (bif (decide (y5.1 = 0)) then (some (0,(y5.2,()))) else (Option.bind (bif (decide (y5.1 = 1)) then (Option.bind (@Sp04.on (Int × Sp04.Tp) (@Sp04.wf y5.2) (@Sp04.next y5.2 a2)) (fun (y6 : (Int × Sp04.Tp)) => (some (y6.2,((@Sp04.bit1 y6.1),()))))) else (Option.bind (bif (decide (y5.1 = 2)) then (some (18446744073709551615,())) else (some ((IntKind.wrap .u64 (Int.ofNat (@BitVec.toNat 64 (@BitVec.xor 64 (@BitVec.ofInt 64 (IntKind.wrap .u64 ((IntKind.wrap .u64 y3.1) * 11400714819323198485))) (@BitVec.ofInt 64 (IntKind.wrap .u64 y4.1)))))),()))) (fun (y6 : (Int × Unit)) => (some (y5.2,y6))))) (fun (y6 : (Sp04.Tp × (Int × Unit))) => (some (y6.2.1,(y6.1,())))))) (fun (y6 : (Int × (Sp04.Tp × Unit))) => (some ((IntKind.wrap .u64 (Int.ofNat (@BitVec.toNat 64 (@BitVec.and 64 (@BitVec.ofInt 64 y6.1) (@BitVec.ofInt 64 (@Sp04.full a2)))))),y6.2.1))))))))))
theorem g64_eq (a0 : (List Int)) (a1 : Int) (a2 : Int) : (evF (fun _ _ => Loop) E64 G64 Proofs.Try.f64 plan64 c64 ((a0,(a1,())),(a2,()))).den = g64 a0 a1 a2 := by kernel_rfl

noncomputable def g86_s0 (a0 : (List Int)) (a1 : Int) (a2 : Int) (a3 : (Int × (Int × Unit))) : (Option (Sum (Int × (Int × Unit)) (Int × Unit))) :=
  (bif (decide (a3.1 < (IntKind.wrap .i64 (a1 + a2)))) then (Option.bind (@Sp04.on (Int × Unit) ((decide (0 ≤ a3.1)) && (decide (a3.1 < (8 * (Int.ofNat a0.length))))) ((@Sp04.b2i (@Sp04.bitAt a0 (Int.toNat a3.1))),())) (fun (y4 : (Int × Unit)) => (some (.inl ((IntKind.wrap .i64 (a3.1 + 1)),((IntKind.wrap .u64 (Int.ofNat (@BitVec.toNat 64 (@BitVec.or 64 (@BitVec.ofInt 64 (IntKind.wrap .u64 (a3.2.1 * 2))) (@BitVec.ofInt 64 y4.1))))),())))))) else (some (.inr a3.2)))
noncomputable def g86 (a0 : (List Int)) (a1 : Int) (a2 : Int) (a3 : Int) : (Option ((Int × (Int × Unit)) × Unit)) :=
  (bif (!(@Sp04.valid (a0,(a1,())))) then (some ((0,(1,())),())) else (Option.bind (bif (!(decide (a3 < 0))) then (bif (!(decide (a3 > 64))) then (some ((decide (a2 < 0)),())) else (some (true,()))) else (some (true,()))) (fun (y4 : (Bool × Unit)) => (bif y4.1 then (some ((0,(2,())),())) else (bif (decide (a2 > (IntKind.wrap .i64 (a1 - a3)))) then (some ((0,(20,())),())) else (Option.bind (Loop (@g86_s0 a0 a2 a3) (a2,(0,()))) (fun (y5 : (Int × Unit)) => (some ((y5.1,(0,())),())))))))))
theorem g86_eq (a0 : (List Int)) (a1 : Int) (a2 : Int) (a3 : Int) : (evF (fun _ _ => Loop) E86 G86 Proofs.Try.f86 plan86 c86 ((),((a0,(a1,())),(a2,(a3,()))))).den = g86 a0 a1 a2 a3 := by kernel_rfl

noncomputable def g75w1 (a0 : (List Int)) (a1 : Int) (a2 : Int) (a3 : Int) : (Option ((Sp04.Tp × (Int × Unit)) × Unit)) :=
  (bif (!(@Sp04.valid (a0,(a1,())))) then (some ((([],(0,())),(1,())),())) else (Option.bind (bif (!(decide (a3 < 0))) then (bif (!(decide (a3 > 64))) then (bif (decide (a3 < 64)) then (bif (decide (0 ≤ a3)) then (some ((!(decide ((@Int.fdiv a2 (@Int.pow 2 (@Min.min Nat instMinNat (Int.toNat a3) 64))) = 0))),())) else none) else (some (false,()))) else (some (true,()))) else (some (true,()))) (fun (y4 : (Bool × Unit)) => (bif y4.1 then (some ((([],(0,())),(2,())),())) else (bif (decide ((IntKind.wrap .i64 (a1 + a3)) > 8192)) then (some ((([],(0,())),(3,())),())) else (Option.bind (@Sp04.on (Unit × Sp04.Tp) ((((@Sp04.valid (a0,(a1,()))) && (decide (0 ≤ a3))) && (decide (a3 ≤ 64))) && (decide ((a1 + a3) ≤ 8192))) ((),(@Sp04.enc ((@Sp04.bits (a0,(a1,()))) ++ (@Sp04.vbits (Int.toNat a2) (Int.toNat a3)))))) (fun (y5 : (Unit × Sp04.Tp)) => (some ((y5.2,(0,())),())))))))))
theorem g75w1_eq (a0 : (List Int)) (a1 : Int) (a2 : Int) (a3 : Int) : (evF (fun _ _ => Loop) E75w1 G75w1 Proofs.Try.f75 plan75w1 c75w1 ((),((a0,(a1,())),(a2,(a3,()))))).den = g75w1 a0 a1 a2 a3 := by kernel_rfl

noncomputable def g44 (a0 : Int) (a1 : Int) (a2 : Int) (a3 : Int) (a4 : Int) (a5 : Int) (a6 : Int) (a7 : Int) (a8 : Int) (a9 : (List Int)) : (Option (Bool × Unit)) :=
  (Option.bind (bif (decide (a0 ≥ 1)) then (bif (decide (a0 ≤ 3)) then (bif (@Sp04.inside a1 0 7) then (bif (@Sp04.inside a2 0 31) then (bif (@Sp04.validB a8 a3) then (bif (@Sp04.inside a4 0 63) then (bif (@Sp04.inside a5 0 1023) then (bif (@Sp04.inside a6 0 256) then (bif (@Sp04.inside a7 0 7) then (some ((decide ((Int.ofNat a9.length) ≤ 64)),())) else (some (false,()))) else (some (false,()))) else (some (false,()))) else (some (false,()))) else (some (false,()))) else (some (false,()))) else (some (false,()))) else (some (false,()))) else (some (false,()))) (fun (y10 : (Bool × Unit)) => (some y10)))
theorem g44_eq (a0 : Int) (a1 : Int) (a2 : Int) (a3 : Int) (a4 : Int) (a5 : Int) (a6 : Int) (a7 : Int) (a8 : Int) (a9 : (List Int)) : (evF (fun _ _ => Loop) E44 G44 Proofs.Try.f44 plan44 c44 ((),((a0,(a1,(a2,(a3,(a4,(a5,(a6,(a7,(a8,(a9,())))))))))),()))).den = g44 a0 a1 a2 a3 a4 a5 a6 a7 a8 a9 := by kernel_rfl

noncomputable def g82_s0 (a0 : (Sp04.Tp × Unit)) : (Option (Sum (Sp04.Tp × Unit) (Sp04.Tp × Unit))) :=
  (bif (!(decide ((@Int.tmod a0.1.2.1 8) = 0))) then (Option.bind (@Sp04.on (Sp04.Tp × Unit) (@Sp04.valid a0.1) ((@Sp04.enc ((@Sp04.bits a0.1) ++ ((decide ((0 : Int) = 1)) :: []))),())) (fun (y1 : (Sp04.Tp × Unit)) => (some (.inl y1)))) else (some (.inr a0)))
noncomputable def g82 (a0 : (List Int)) (a1 : Int) : (Option ((Sp04.Tp × (Int × Unit)) × Unit)) :=
  (bif (!(@Sp04.valid (a0,(a1,())))) then (some ((([],(0,())),(1,())),())) else (Option.bind (Loop g82_s0 ((a0,(a1,())),())) (fun (y2 : (Sp04.Tp × Unit)) => (some ((y2.1,(0,())),())))))
theorem g82_eq (a0 : (List Int)) (a1 : Int) : (evF (fun _ _ => Loop) E82 G82 Proofs.Try.f82 plan82 c82 ((),((a0,(a1,())),()))).den = g82 a0 a1 := by kernel_rfl

noncomputable def g66v_s0 (a0 : (List Int)) (a1 : (Int × Unit)) : (Option (Sum (Int × Unit) (Bool × ((Int × Unit) × Unit)))) :=
  (bif (decide (a1.1 < (Int.ofNat a0.length))) then (bif ((decide (0 ≤ a1.1)) && (decide (a1.1 < (Int.ofNat a0.length)))) then (bif (@Sp04.stray (List.getD a0 (Int.toNat a1.1) 0)) then (some (.inr (true,(a1,())))) else (some (.inl ((IntKind.wrap .i64 (a1.1 + 1)),())))) else none) else (some (.inr (false,((0,()),())))))
noncomputable def g66v (a0 : (List Int)) : (Option (Int × Unit)) :=
  (Option.bind (Loop (@g66v_s0 a0) (0,())) (fun (y1 : (Bool × ((Int × Unit) × Unit))) => (bif y1.1 then (some y1.2.1) else (some ((-1),())))))
theorem g66v_eq (a0 : (List Int)) : (evF (fun _ _ => Loop) E66v G66v Proofs.Try.f66 plan66v c66v ((),(a0,((),())))).den = g66v a0 := by kernel_rfl

noncomputable def g17 (a0 : (List Int)) (a1 : Int) (a2 : (List Int)) : (Option (Int × Sp04.Tp)) :=
  (Option.bind (@Sp04.on (Int × Sp04.Tp) (@Sp04.wf (a0,(a1,()))) (@Sp04.next (a0,(a1,())) (Int.ofNat a2.length))) (fun (y3 : (Int × Sp04.Tp)) => (bif ((decide (0 ≤ y3.1)) && (decide (y3.1 < (Int.ofNat a2.length)))) then (some ((List.getD a2 (Int.toNat y3.1) 0),y3.2)) else none)))
theorem g17_eq (a0 : (List Int)) (a1 : Int) (a2 : (List Int)) : (evF (fun _ _ => Loop) E17 G17 Proofs.Try.f17 plan17 c17 ((a0,(a1,())),(a2,()))).den = g17 a0 a1 a2 := by kernel_rfl

noncomputable def g12 (a0 : Int) (a1 : Int) (a2 : Int) : (Option (Bool × Unit)) :=
  (Option.bind (bif (@Sp04.inside a0 0 1048575) then (bif (@Sp04.inside a1 0 7) then (some ((@Sp04.inside a2 0 255),())) else (some (false,()))) else (some (false,()))) (fun (y3 : (Bool × Unit)) => (some y3)))
theorem g12_eq (a0 : Int) (a1 : Int) (a2 : Int) : (evF (fun _ _ => Loop) E12 G12 Proofs.Try.f12 plan12 c12 ((),((a0,(a1,(a2,()))),()))).den = g12 a0 a1 a2 := by kernel_rfl

noncomputable def g94 (a0 : Int) : (Option (Bool × Unit)) :=
  (Option.bind (bif (!(decide (a0 = 8))) then (bif (!(decide (a0 = 16))) then (bif (!(decide (a0 = 32))) then (some ((decide (a0 = 64)),())) else (some (true,()))) else (some (true,()))) else (some (true,()))) (fun (y1 : (Bool × Unit)) => (some y1)))
theorem g94_eq (a0 : Int) : (evF (fun _ _ => Loop) E94 G94 Proofs.Try.f94 plan94 c94 ((),(a0,()))).den = g94 a0 := by kernel_rfl

noncomputable def g68 (a0 : Int) (a1 : Int) : (Option (Bool × Unit)) :=
  (Option.bind (bif (decide (a0 ≥ 0)) then (some ((decide (a0 ≤ a1)),())) else (some (false,()))) (fun (y2 : (Bool × Unit)) => (some y2)))
theorem g68_eq (a0 : Int) (a1 : Int) : (evF (fun _ _ => Loop) E68 G68 Proofs.Try.f68 plan68 c68 ((),(a0,(a1,())))).den = g68 a0 a1 := by kernel_rfl

noncomputable def g40 (a0 : (List Int)) : (Option (Bool × Unit)) :=
  (some ((decide ((@Sp04.idx Int Sp04.stray a0) ≥ 0)),()))
theorem g40_eq (a0 : (List Int)) : (evF (fun _ _ => Loop) E40 G40 Proofs.Try.f40 plan40 c40 ((),(a0,((),())))).den = g40 a0 := by kernel_rfl
end Go.Abs.C04

namespace Go.Abs.C04
open Go Go.Abs
set_option maxRecDepth 20000
set_option linter.unusedVariables false
noncomputable def g58_s0 (a0 : (Int × ((List Int) × Unit))) (a1 : ((List Int) × (Int × (Int × Unit)))) : (Option (Sum ((List Int) × (Int × (Int × Unit))) Sp04.Tp)) :=
  (bif (decide (a1.2.2.1 < (Int.ofNat Sp04.widths.length))) then (bif ((decide (0 ≤ a1.2.2.1)) && (decide (a1.2.2.1 < (Int.ofNat Sp04.widths.length)))) then (bif (@Nat.ble ((a1.1.length + 1) * 8) 140737488355328) then (bif ((decide (0 ≤ a1.2.2.1)) && (decide (a1.2.2.1 < (Int.ofNat Sp04.widths.length)))) then (some (.inl ((a1.1 ++ ((IntKind.wrap .i64 (@Sp04.take (a0.2.1,((IntKind.wrap .i64 (8 * (Int.ofNat a0.2.1.length))),())) a1.2.1 (List.getD Sp04.widths (Int.toNat a1.2.2.1) 0)).1) :: [])),((IntKind.wrap .i64 (a1.2.1 + (List.getD Sp04.widths (Int.toNat a1.2.2.1) 0))),((IntKind.wrap .i64 (a1.2.2.1 + 1)),()))))) else none) else none) else none) else (some (.inr (a1.1,(a1.2.1,())))))
noncomputable def g58_s1 (a0 : (Int × ((List Int) × Unit))) (a1 : ((List Int) × (Int × (Int × ((List Int) × Unit))))) : (Option (Sum ((List Int) × (Int × (Int × ((List Int) × Unit)))) ((List Int) × (Int × ((List Int) × Unit))))) :=
  (bif (true && (decide (9 < (Int.ofNat a1.2.2.2.1.length)))) then (bif (@Nat.blt 9 a1.2.2.2.1.length) then (bif (decide (a1.2.2.1 < (List.getD a1.2.2.2.1 9 0))) then (bif (@Nat.ble ((a1.1.length + 1) * 1) 140737488355328) then (some (.inl ((a1.1 ++ ((IntKind.wrap .u8 (@Sp04.take (a0.2.1,((IntKind.wrap .i64 (8 * (Int.ofNat a0.2.1.length))),())) a1.2.1 8).1) :: [])),((IntKind.wrap .i64 (a1.2.1 + 8)),((IntKind.wrap .i64 (a1.2.2.1 + 1)),a1.2.2.2))))) else none) else (some (.inr (a1.1,(a1.2.1,a1.2.2.2))))) else none) else none)
noncomputable def g58 (a0 : (List Int)) : (Option ((Sp04.Pk × (Int × Unit)) × Unit)) :=
  (bif (decide ((IntKind.wrap .i64 (8 * (Int.ofNat a0.length))) < 49)) then (some (((0,(0,(0,(0,(0,(0,(0,(0,(0,([],())))))))))),(20,())),())) else (Option.bind (bif (decide ((Int.ofNat a0.length) > 128)) then (bif (true && (decide (128 ≤ (Int.ofNat a0.length)))) then (some ((IntKind.wrap .i64 ((Int.ofNat a0.length) - 128)),((List.drop 0 (List.take 128 a0)),()))) else none) else (some (0,(a0,())))) (fun (y1 : (Int × ((List Int) × Unit))) => (Option.bind (Loop (@g58_s0 y1) ([],(0,(0,())))) (fun (y2 : Sp04.Tp) => (bif (true && (decide (0 < (Int.ofNat y2.1.length)))) then (bif (@Nat.blt 0 y2.1.length) then (bif (!(decide ((List.getD y2.1 0 0) = 2))) then (some (((0,(0,(0,(0,(0,(0,(0,(0,(0,([],())))))))))),(22,())),())) else (bif (true && (decide (1 < (Int.ofNat y2.1.length)))) then (bif (@Nat.blt 1 y2.1.length) then (bif (decide ((List.getD y2.1 1 0) = 0)) then (some (((0,(0,(0,(0,(0,(0,(0,(0,(0,([],())))))))))),(1,())),())) else (Option.bind (bif (true && (decide (7 < (Int.ofNat y2.1.length)))) then (bif (@Nat.blt 7 y2.1.length) then (bif (!(decide ((List.getD y2.1 7 0) > 256))) then (bif (true && (decide (9 < (Int.ofNat y2.1.length)))) then (bif (@Nat.blt 9 y2.1.length) then (some (y2.1,((decide ((List.getD y2.1 9 0) > 64)),()))) else none) else none) else (some (y2.1,(true,())))) else none) else none) (fun (y3 : ((List Int) × (Bool × Unit))) => (bif y3.2.1 then (some (((0,(0,(0,(0,(0,(0,(0,(0,(0,([],())))))))))),(2,())),())) else (bif (true && (decide (4 < (Int.ofNat y3.1.length)))) then (bif (@Nat.blt 4 y3.1.length) then (Option.bind (@Sp04.on (Int × Unit) (@Sp04.inside (List.getD y3.1 4 0) 0 3) ((@Sp04.decoded (List.getD y3.1 4 0)),())) (fun (y4 : (Int × Unit)) => (bif (true && (decide (9 < (Int.ofNat y3.1.length)))) then (bif (@Nat.blt 9 y3.1.length) then (Option.bind (@Sp04.on (Int × Unit) ((@Sp04.inside y4.1 0 1000) && (@Sp04.inside (List.getD y3.1 9 0) 0 1000)) ((@Int.ediv ((72 + y4.1) + (8 * (List.getD y3.1 9 0))) 8),())) (fun (y5 : (Int × Unit)) => (bif (decide ((Int.ofNat y1.2.1.length) < y5.1)) then (some (((0,(0,(0,(0,(0,(0,(0,(0,(0,([],())))))))))),(20,())),())) else (bif (true && (decide (1 < (Int.ofNat y3.1.length)))) then (bif (@Nat.blt 1 y3.1.length) then (bif (true && (decide (2 < (Int.ofNat y3.1.length)))) then (bif (@Nat.blt 2 y3.1.length) then (bif (true && (decide (3 < (Int.ofNat y3.1.length)))) then (bif (@Nat.blt 3 y3.1.length) then (bif (true && (decide (5 < (Int.ofNat y3.1.length)))) then (bif (@Nat.blt 5 y3.1.length) then (bif (true && (decide (6 < (Int.ofNat y3.1.length)))) then (bif (@Nat.blt 6 y3.1.length) then (bif (true && (decide (7 < (Int.ofNat y3.1.length)))) then (bif (@Nat.blt 7 y3.1.length) then (bif (true && (decide (8 < (Int.ofNat y3.1.length)))) then (bif (@Nat.blt 8 y3.1.length) then (Option.bind (Loop (@g58_s1 y1) ([],((IntKind.wrap .i64 (y2.2.1 + y4.1)),(0,(y3.1,()))))) (fun (y6 : ((List Int) × (Int × ((List Int) × Unit)))) => (bif (!(decide ((@Sp04.take (y1.2.1,((IntKind.wrap .i64 (8 * (Int.ofNat y1.2.1.length))),())) y6.2.1 16).1 = (@Sp04.check (@Sp04.slice (y1.2.1,((IntKind.wrap .i64 (8 * (Int.ofNat y1.2.1.length))),())) 0 y6.2.1).1).1))) then (some (((0,(0,(0,(0,(0,(0,(0,(0,(0,([],())))))))))),(23,())),())) else (bif (true && (decide (9 < (Int.ofNat y6.2.2.1.length)))) then (bif (@Nat.blt 9 y6.2.2.1.length) then (Option.bind (@Sp04.on (Int × Unit) ((@Sp04.inside y4.1 0 1000) && (@Sp04.inside (List.getD y6.2.2.1 9 0) 0 1000)) ((@Int.ediv ((72 + y4.1) + (8 * (List.getD y6.2.2.1 9 0))) 8),())) (fun (y7 : (Int × Unit)) => (bif (!(decide ((@Sp04.take (y1.2.1,((IntKind.wrap .i64 (8 * (Int.ofNat y1.2.1.length))),())) (IntKind.wrap .i64 (y6.2.1 + 16)) (IntKind.wrap .i64 ((IntKind.wrap .i64 (8 * y7.1)) - (IntKind.wrap .i64 (y6.2.1 + 16))))).1 = 0))) then (some (((0,(0,(0,(0,(0,(0,(0,(0,(0,([],())))))))))),(24,())),())) else (bif (true && (decide (9 < (Int.ofNat y6.2.2.1.length)))) then (bif (@Nat.blt 9 y6.2.2.1.length) then (Option.bind (@Sp04.on (Int × Unit) ((@Sp04.inside y4.1 0 1000) && (@Sp04.inside (List.getD y6.2.2.1 9 0) 0 1000)) ((@Int.ediv ((72 + y4.1) + (8 * (List.getD y6.2.2.1 9 0))) 8),())) (fun (y8 : (Int × Unit)) => (bif (decide ((IntKind.wrap .i64 ((Int.ofNat y1.2.1.length) + y1.1)) > y8.1)) then (some (((0,(0,(0,(0,(0,(0,(0,(0,(0,([],())))))))))),(21,())),())) else (some ((((List.getD y3.1 1 0),((List.getD y3.1 2 0),((List.getD y3.1 3 0),(y4.1,((List.getD y3.1 5 0),((List.getD y3.1 6 0),((List.getD y3.1 7 0),((List.getD y3.1 8 0),((@Sp04.take (y1.2.1,((IntKind.wrap .i64 (8 * (Int.ofNat y1.2.1.length))),())) y2.2.1 y4.1).1,(y6.1,())))))))))),(0,())),()))))) else none) else none)))) else none) else none)))) else none) else none) else none) else none) else none) else none) else none) else none) else none) else none) else none) else none) else none) else none)))) else none) else none))) else none) else none))))) else none) else none)) else none) else none))))))
theorem g58_eq (a0 : (List Int)) : (evF (fun _ _ => Loop) E58 G58 Proofs.Try.f58 plan58 c58 ((),(a0,()))).den = g58 a0 := by kernel_rfl

noncomputable def g4_s0 (a0 : (Sp04.Tp × ((@List Sp04.Lb) × (Int × Unit)))) : (Option (Sum (Sp04.Tp × ((@List Sp04.Lb) × (Int × Unit))) (Sp04.Tp × ((@List Sp04.Lb) × Unit)))) :=
  (bif (decide (a0.2.2.1 > 0)) then (Option.bind (@Sp04.on (Sp04.Lb × Sp04.Tp) ((@Sp04.wf a0.1) && (@Sp04.small 0)) (@Sp04.labT a0.1 0)) (fun (y1 : (Sp04.Lb × Sp04.Tp)) => (bif (@Nat.ble ((a0.2.1.length + 1) * 24) 140737488355328) then (some (.inl (y1.2,((a0.2.1 ++ (y1.1 :: [])),((IntKind.wrap .i64 (a0.2.2.1 - 1)),()))))) else none))) else (some (.inr (a0.1,(a0.2.1,())))))
noncomputable def g4_s1 (a0 : (@List Sp04.Lb)) (a1 : ((List Int) × Unit)) (a2 : (Int × ((@List (@List Sp04.Lb)) × Unit))) : (Option (Sum (Int × ((@List (@List Sp04.Lb)) × Unit)) (Bool × ((Bool × Unit) × Unit)))) :=
  (Option.bind (bif (decide (a2.1 < 2)) then (some ((decide ((Int.ofNat a0.length) ≤ 100)),())) else (some (false,()))) (fun (y3 : (Bool × Unit)) => (bif y3.1 then (bif ((decide (0 ≤ a2.1)) && (decide (a2.1 < (Int.ofNat a2.2.1.length)))) then (bif (@Nat.blt (Int.toNat a2.1) a2.2.1.length) then (bif ((decide (0 ≤ a2.1)) && (decide (a2.1 < (Int.ofNat a2.2.1.length)))) then (bif (@Nat.blt (Int.toNat a2.1) a2.2.1.length) then (Option.bind (bif (!(!(@List.beq Int (@instBEqOfDecidableEq Int Int.instDecidableEq) (@Sp04.encL (List.getD a2.2.1 (Int.toNat a2.1) [])).1 (@Sp04.encL (List.getD a2.2.1 (Int.toNat a2.1) [])).1))) then (some ((@Sp04.encL (List.getD a2.2.1 (Int.toNat a2.1) [])).1,((!(decide ((@Sp04.encL (List.getD a2.2.1 (Int.toNat a2.1) [])).2.1 = (@Sp04.encL (List.getD a2.2.1 (Int.toNat a2.1) [])).2.1))),()))) else (some ((@Sp04.encL (List.getD a2.2.1 (Int.toNat a2.1) [])).1,(true,())))) (fun (y4 : ((List Int) × (Bool × Unit))) => (bif y4.2.1 then (some (.inr (true,((false,()),())))) else (bif (!(decide ((@Sp04.encL (List.getD a2.2.1 (Int.toNat a2.1) [])).2.1 = 0))) then (some (.inl ((IntKind.wrap .i64 (a2.1 + 1)),a2.2))) else (bif (@Nat.ble ((0 + y4.1.length) * 1) 140737488355328) then (bif (@Nat.ble ((([] ++ y4.1).length + a1.1.length) * 1) 140737488355328) then (Option.bind (bif (!(!(decide ((@Sp04.decL (([] ++ y4.1) ++ a1.1)).2.2.1 = 0)))) then (bif (!(!(decide ((@Sp04.decL (([] ++ y4.1) ++ a1.1)).2.1 = (Int.ofNat y4.1.length))))) then (bif ((decide (0 ≤ a2.1)) && (decide (a2.1 < (Int.ofNat a2.2.1.length)))) then (bif (@Nat.blt (Int.toNat a2.1) a2.2.1.length) then (some ((!(decide ((@Sp04.decL (([] ++ y4.1) ++ a1.1)).1 = (List.getD a2.2.1 (Int.toNat a2.1) [])))),a2.2)) else none) else none) else (some (true,a2.2))) else (some (true,a2.2))) (fun (y5 : (Bool × ((@List (@List Sp04.Lb)) × Unit))) => (bif y5.1 then (some (.inr (true,((false,()),())))) else (some (.inl ((IntKind.wrap .i64 (a2.1 + 1)),y5.2)))))) else none) else none))))) else none) else none) else none) else none) else (some (.inr (false,((false,()),())))))))
noncomputable def g4 (a0 : (List Int)) (a1 : (@List Sp04.Lb)) (a2 : (List Int)) : (Option (Bool × Unit)) :=
  (Option.bind (@Sp04.on (Int × Sp04.Tp) (((@Sp04.wf (@Sp04.tape a0)) && (decide (0 < 7))) && (decide (7 ≤ 1000))) (@Sp04.pick (@Sp04.tape a0) ((0 : Int) :: ((1 : Int) :: ((2 : Int) :: ((3 : Int) :: ((23 : Int) :: ((24 : Int) :: ((25 : Int) :: []))))))))) (fun (y3 : (Int × Sp04.Tp)) => (Option.bind (Loop g4_s0 (y3.2,([],(y3.1,())))) (fun (y4 : (Sp04.Tp × ((@List Sp04.Lb) × Unit))) => (Option.bind (bif (decide ((Int.ofNat y4.2.1.length) > 0)) then (Option.bind (@Sp04.on (Bool × Sp04.Tp) ((@Sp04.wf y4.1) && (@Sp04.small 4)) (@Sp04.one y4.1 4)) (fun (y5 : (Bool × Sp04.Tp)) => (some (y5.2,(y4.2.1,(y5.1,())))))) else (some (y4.1,(y4.2.1,(false,()))))) (fun (y5 : (Sp04.Tp × ((@List Sp04.Lb) × (Bool × Unit)))) => (Option.bind (bif y5.2.2.1 then (Option.bind (@Sp04.on (Int × Sp04.Tp) (@Sp04.wf y5.1) (@Sp04.next y5.1 (Int.ofNat y5.2.1.length))) (fun (y6 : (Int × Sp04.Tp)) => (Option.bind (@Sp04.on (Sp04.Lb × Sp04.Tp) ((@Sp04.wf y6.2) && (@Sp04.small 2)) (@Sp04.labT y6.2 2)) (fun (y7 : (Sp04.Lb × Sp04.Tp)) => (bif ((decide (0 ≤ y6.1)) && (decide (y6.1 < (Int.ofNat y5.2.1.length)))) then (bif (@Nat.blt (Int.toNat y6.1) y5.2.1.length) then (some ((List.set y5.2.1 (Int.toNat y6.1) y7.1),())) else none) else none))))) else (some (y5.2.1,()))) (fun (y6 : ((@List Sp04.Lb) × Unit)) => (Option.bind (bif (decide ((Int.ofNat a2.length) > 200)) then (bif (true && (decide (200 ≤ (Int.ofNat a2.length)))) then (some ((List.drop 0 (List.take 200 a2)),())) else none) else (some (a2,()))) (fun (y7 : ((List Int) × Unit)) => (Option.bind (Loop (@g4_s1 a1 y7) (0,((y6.1 :: (a1 :: [])),()))) (fun (y8 : (Bool × ((Bool × Unit) × Unit))) => (bif y8.1 then (some y8.2.1) else (some (true,())))))))))))))))
theorem g4_eq (a0 : (List Int)) (a1 : (@List Sp04.Lb)) (a2 : (List Int)) : (evF (fun _ _ => Loop) E4 G4 Proofs.Try.f4 plan4 c4 ((),(a0,(a1,(a2,()))))).den = g4 a0 a1 a2 := by kernel_rfl

noncomputable def g33_s0 (a0 : (List Int)) (a1 : (Int × (((List Int) × Sp04.Pk) × Unit))) : (Option (Sum (Int × (((List Int) × Sp04.Pk) × Unit)) (Bool × ((((List Int) × Sp04.Pk) × (Int × Unit)) × (((List Int) × Sp04.Pk) × Unit))))) :=
  (bif (decide (a1.1 < (Int.ofNat a0.length))) then (Option.bind (bif ((decide (0 ≤ a1.1)) && (decide (a1.1 < (Int.ofNat a0.length)))) then (bif (!(decide ((List.getD a0 (Int.toNat a1.1) 0) < 1))) then (bif ((decide (0 ≤ a1.1)) && (decide (a1.1 < (Int.ofNat a0.length)))) then (some ((decide ((List.getD a0 (Int.toNat a1.1) 0) > 99)),())) else none) else (some (true,()))) else none) (fun (y2 : (Bool × Unit)) => (bif y2.1 then (some (.inr (true,((([],(0,(0,(0,(0,(0,(0,(0,(0,(0,([],()))))))))))),(2,())),(([],(0,(0,(0,(0,(0,(0,(0,(0,(0,([],()))))))))))),()))))) else (some (.inl ((IntKind.wrap .i64 (a1.1 + 1)),a1.2)))))) else (some (.inr (false,((([],(0,(0,(0,(0,(0,(0,(0,(0,(0,([],()))))))))))),(0,())),a1.2)))))
noncomputable def g33 (a0 : (List Int)) (a1 : Int) (a2 : Int) (a3 : Int) (a4 : Int) (a5 : Int) (a6 : Int) (a7 : Int) (a8 : Int) (a9 : Int) (a10 : (List Int)) (a11 : (List Int)) : (Option ((((List Int) × Sp04.Pk) × (Int × Unit)) × Unit)) :=
  (bif (!(@Sp04.validF (a0,(a1,(a2,(a3,(a4,(a5,(a6,(a7,(a8,(a9,(a10,()))))))))))))) then (some ((([],(0,(0,(0,(0,(0,(0,(0,(0,(0,([],()))))))))))),(1,())),())) else (Option.bind (Loop (@g33_s0 a11) (0,(([],(0,(0,(0,(0,(0,(0,(0,(0,(0,([],()))))))))))),()))) (fun (y12 : (Bool × ((((List Int) × Sp04.Pk) × (Int × Unit)) × (((List Int) × Sp04.Pk) × Unit)))) => (bif y12.1 then (some (y12.2.1,())) else (bif (decide ((IntKind.wrap .i64 ((Int.ofNat a11.length) + (Int.ofNat a0.length))) > 24)) then (some ((([],(0,(0,(0,(0,(0,(0,(0,(0,(0,([],()))))))))))),(3,())),())) else (bif (@Nat.ble ((0 + a11.length) * 8) 140737488355328) then (bif (@Nat.ble ((([] ++ a11).length + a0.length) * 8) 140737488355328) then (bif (@Sp04.twice (([] ++ a11) ++ a0)) then (some ((([],(0,(0,(0,(0,(0,(0,(0,(0,(0,([],()))))))))))),(5,())),())) else (some ((((([] ++ a11) ++ a0),(a1,(a2,(a3,(a4,(a5,(a6,(a7,(a8,(a9,(a10,()))))))))))),(0,())),()))) else none) else none))))))
theorem g33_eq (a0 : (List Int)) (a1 : Int) (a2 : Int) (a3 : Int) (a4 : Int) (a5 : Int) (a6 : Int) (a7 : Int) (a8 : Int) (a9 : Int) (a10 : (List Int)) (a11 : (List Int)) : (evF (fun _ _ => Loop) E33 G33 Proofs.Try.f33 plan33 c33 ((),((a0,(a1,(a2,(a3,(a4,(a5,(a6,(a7,(a8,(a9,(a10,()))))))))))),(a11,())))).den = g33 a0 a1 a2 a3 a4 a5 a6 a7 a8 a9 a10 a11 := by kernel_rfl

noncomputable def g102 (a0 : (List Int)) (a1 : Int) (a2 : Int) : (Option (Sp04.Tp × Unit)) :=
  (bif (@Nat.ble ((0 + a0.length) * 1) 140737488355328) then (Option.bind (bif (decide ((@Int.tmod a1 8) = 0)) then (bif (@Nat.ble ((([] ++ a0).length + 1) * 1) 140737488355328) then (some ((([] ++ a0) ++ ((0 : Int) :: [])),())) else none) else (some (([] ++ a0),()))) (fun (y3 : ((List Int) × Unit)) => (Option.bind (bif (decide (a2 = 1)) then (bif ((decide (0 ≤ (IntKind.wrap .i64 (@Int.tdiv a1 8)))) && (decide ((IntKind.wrap .i64 (@Int.tdiv a1 8)) < (Int.ofNat y3.1.length)))) then (bif (@Nat.blt (Int.toNat (IntKind.wrap .i64 (@Int.tdiv a1 8))) y3.1.length) then (bif (decide (0 ≤ (IntKind.wrap .u64 (IntKind.wrap .i64 (7 - (@Int.tmod a1 8)))))) then (bif ((decide (0 ≤ (IntKind.wrap .i64 (@Int.tdiv a1 8)))) && (decide ((IntKind.wrap .i64 (@Int.tdiv a1 8)) < (Int.ofNat y3.1.length)))) then (bif (@Nat.blt (Int.toNat (IntKind.wrap .i64 (@Int.tdiv a1 8))) y3.1.length) then (some ((List.set y3.1 (Int.toNat (IntKind.wrap .i64 (@Int.tdiv a1 8))) (IntKind.wrap .u8 (Int.ofNat (@BitVec.toNat 8 (@BitVec.or 8 (@BitVec.ofInt 8 (List.getD y3.1 (Int.toNat (IntKind.wrap .i64 (@Int.tdiv a1 8))) 0)) (@BitVec.ofInt 8 (IntKind.wrap .u8 (1 * (@Int.pow 2 (@Min.min Nat instMinNat (Int.toNat (IntKind.wrap .u64 (IntKind.wrap .i64 (7 - (@Int.tmod a1 8))))) 8)))))))))),())) else none) else none) else none) else none) else none) else (some y3)) (fun (y4 : ((List Int) × Unit)) => (some ((y4.1,((IntKind.wrap .i64 (a1 + 1)),())),())))))) else none)
theorem g102_eq (a0 : (List Int)) (a1 : Int) (a2 : Int) : (evF (fun _ _ => Loop) E102 G102 Proofs.Try.f102 plan102 c102 ((),((a0,(a1,())),(a2,())))).den = g102 a0 a1 a2 := by kernel_rfl

noncomputable def g53_s0 (a0 : (@List (List Int))) (a1 : (Int × (Int × Unit))) : (Option (Sum (Int × (Int × Unit)) (Int × Unit))) :=
  (bif (decide (a1.2.1 < (Int.ofNat a0.length))) then (bif ((decide (0 ≤ a1.2.1)) && (decide (a1.2.1 < (Int.ofNat a0.length)))) then (Option.bind (bif (decide ((IntKind.wrap .i64 (a1.1 + (Int.ofNat (List.getD a0 (Int.toNat a1.2.1) []).length))) < 0)) then none else (some ())) (fun (y2 : Unit) => (some (.inl ((IntKind.wrap .i64 (a1.1 + (Int.ofNat (List.getD a0 (Int.toNat a1.2.1) []).length))),((IntKind.wrap .i64 (a1.2.1 + 1)),())))))) else none) else (some (.inr (a1.1,()))))
noncomputable def g53_s1 (a0 : (@List (List Int))) (a1 : (Int × ((List Int) × Unit))) : (Option (Sum (Int × ((List Int) × Unit)) ((List Int) × Unit))) :=
  (bif (decide (a1.1 < (Int.ofNat a0.length))) then (bif ((decide (0 ≤ a1.1)) && (decide (a1.1 < (Int.ofNat a0.length)))) then (bif (@Nat.ble ((a1.2.1.length + (List.getD a0 (Int.toNat a1.1) []).length) * 1) 140737488355328) then (some (.inl ((IntKind.wrap .i64 (a1.1 + 1)),((a1.2.1 ++ (List.getD a0 (Int.toNat a1.1) [])),())))) else none) else none) else (some (.inr a1.2)))
noncomputable def g53 (a0 : (@List (List Int))) : (Option ((List Int) × Unit)) :=
  (Option.bind (Loop (@g53_s0 a0) (0,(0,()))) (fun (y1 : (Int × Unit)) => (Option.bind (@Sp04.on ((List Int) × Unit) (@Sp04.inside y1.1 0 1000000) ([],())) (fun (y2 : ((List Int) × Unit)) => (Option.bind (Loop (@g53_s1 a0) (0,y2)) (fun (y3 : ((List Int) × Unit)) => (some y3)))))))
theorem g53_eq (a0 : (@List (List Int))) : (evF (fun _ _ => Loop) E53 G53 Proofs.Try.f53 plan53 c53 ((),(a0,()))).den = g53 a0 := by kernel_rfl

noncomputable def g76_s0 (a0 : (List Int)) (a1 : Int) (a2 : (Int × (Int × Unit))) : (Option (Sum (Int × (Int × Unit)) (Int × Unit))) :=
  (bif (decide (a2.1 < a1)) then (Option.bind (@Sp04.on (Int × Unit) ((decide (0 ≤ a2.1)) && (decide (a2.1 < (8 * (Int.ofNat a0.length))))) ((@Sp04.b2i (@Sp04.bitAt a0 (Int.toNat a2.1))),())) (fun (y3 : (Int × Unit)) => (bif (decide ((@Int.fdiv a2.2.1 32768) = y3.1)) then (some (.inl ((IntKind.wrap .i64 (a2.1 + 1)),((IntKind.wrap .u64 (Int.ofNat (@BitVec.toNat 64 (@BitVec.and 64 (@BitVec.ofInt 64 (IntKind.wrap .u64 (a2.2.1 * 2))) (@BitVec.ofInt 64 65535))))),())))) else (some (.inl ((IntKind.wrap .i64 (a2.1 + 1)),((IntKind.wrap .u64 (Int.ofNat (@BitVec.toNat 64 (@BitVec.xor 64 (@BitVec.ofInt 64 (IntKind.wrap .u64 (Int.ofNat (@BitVec.toNat 64 (@BitVec.and 64 (@BitVec.ofInt 64 (IntKind.wrap .u64 (a2.2.1 * 2))) (@BitVec.ofInt 64 65535)))))) (@BitVec.ofInt 64 4129))))),()))))))) else (some (.inr a2.2)))
noncomputable def g76 (a0 : (List Int)) (a1 : Int) : (Option ((Int × (Int × Unit)) × Unit)) :=
  (bif (!(@Sp04.valid (a0,(a1,())))) then (some ((0,(1,())),())) else (Option.bind (Loop (@g76_s0 a0 a1) (0,(65535,()))) (fun (y2 : (Int × Unit)) => (some ((y2.1,(0,())),())))))
theorem g76_eq (a0 : (List Int)) (a1 : Int) : (evF (fun _ _ => Loop) E76 G76 Proofs.Try.f76 plan76 c76 ((),((a0,(a1,())),()))).den = g76 a0 a1 := by kernel_rfl

noncomputable def g45_s0 (a0 : (List Int)) (a1 : (Int × Unit)) (a2 : (Int × Unit)) : (Option (Sum (Int × Unit) (Bool × ((Bool × Unit) × Unit)))) :=
  (bif (decide (a2.1 < a1.1)) then (bif ((decide (0 ≤ a1.1)) && (decide (a1.1 < (Int.ofNat a0.length)))) then (bif ((decide (0 ≤ a2.1)) && (decide (a2.1 < (Int.ofNat a0.length)))) then (bif (decide ((List.getD a0 (Int.toNat a1.1) 0) = (List.getD a0 (Int.toNat a2.1) 0))) then (some (.inr (true,((true,()),())))) else (some (.inl ((IntKind.wrap .i64 (a2.1 + 1)),())))) else none) else none) else (some (.inr (false,((false,()),())))))
noncomputable def g45_s1 (a0 : (List Int)) (a1 : (Int × Unit)) : (Option (Sum (Int × Unit) (Bool × ((Bool × Unit) × Unit)))) :=
  (bif (decide (a1.1 < (Int.ofNat a0.length))) then (Option.bind (Loop (@g45_s0 a0 a1) (0,())) (fun (y2 : (Bool × ((Bool × Unit) × Unit))) => (bif y2.1 then (some (.inr (true,y2.2))) else (some (.inl ((IntKind.wrap .i64 (a1.1 + 1)),())))))) else (some (.inr (false,((false,()),())))))
noncomputable def g45 (a0 : (List Int)) : (Option (Bool × Unit)) :=
  (Option.bind (Loop (@g45_s1 a0) (0,())) (fun (y1 : (Bool × ((Bool × Unit) × Unit))) => (bif y1.1 then (some y1.2.1) else (some (false,())))))
theorem g45_eq (a0 : (List Int)) : (evF (fun _ _ => Loop) E45 G45 Proofs.Try.f45 plan45 c45 ((),(a0,()))).den = g45 a0 := by kernel_rfl

noncomputable def g46 (a0 : Int) (a1 : Int) (a2 : Int) (a3 : Int) (a4 : Int) (a5 : Int) (a6 : Int) (a7 : Int) (a8 : Int) (a9 : (List Int)) : (Option (Bool × Unit)) :=
  (Option.bind (bif (decide (a0 ≥ 1)) then (bif (decide (a0 ≤ 3)) then (bif (@Sp04.inside a1 0 7) then (bif (@Sp04.inside a2 0 31) then (bif (@Sp04.validB a8 a3) then (bif (@Sp04.inside a4 0 63) then (bif (@Sp04.inside a5 0 1023) then (bif (@Sp04.inside a6 0 256) then (bif (@Sp04.inside a7 0 7) then (some ((decide ((Int.ofNat a9.length) ≤ 64)),())) else (some (false,()))) else (some (false,()))) else (some (false,()))) else (some (false,()))) else (some (false,()))) else (some (false,()))) else (some (false,()))) else (some (false,()))) else (some (false,()))) (fun (y10 : (Bool × Unit)) => (some y10)))
theorem g46_eq (a0 : Int) (a1 : Int) (a2 : Int) (a3 : Int) (a4 : Int) (a5 : Int) (a6 : Int) (a7 : Int) (a8 : Int) (a9 : (List Int)) : (evF (fun _ _ => Loop) E46 G46 Proofs.Try.f46 plan46 c46 ((),((a0,(a1,(a2,(a3,(a4,(a5,(a6,(a7,(a8,(a9,())))))))))),()))).den = g46 a0 a1 a2 a3 a4 a5 a6 a7 a8 a9 := by kernel_rfl

noncomputable def g72_s0 (a0 : (@List Sp04.Lb)) (a1 : (Int × Unit)) : (Option (Sum (Int × Unit) (Bool × ((Int × Unit) × Unit)))) :=
  (bif (decide (a1.1 < (Int.ofNat a0.length))) then (bif ((decide (0 ≤ a1.1)) && (decide (a1.1 < (Int.ofNat a0.length)))) then (bif (@Sp04.lost (List.getD a0 (Int.toNat a1.1) (0,(0,(0,()))))) then (some (.inr (true,(a1,())))) else (some (.inl ((IntKind.wrap .i64 (a1.1 + 1)),())))) else none) else (some (.inr (false,((0,()),())))))
noncomputable def g72 (a0 : (@List Sp04.Lb)) : (Option (Int × Unit)) :=
  (Option.bind (Loop (@g72_s0 a0) (0,())) (fun (y1 : (Bool × ((Int × Unit) × Unit))) => (bif y1.1 then (some y1.2.1) else (some ((-1),())))))
theorem g72_eq (a0 : (@List Sp04.Lb)) : (evF (fun _ _ => Loop) E72 G72 Proofs.Try.f72 plan72 c72 ((),(a0,((),())))).den = g72 a0 := by kernel_rfl

noncomputable def g66_s0 (a0 : (List Int)) (a1 : (Int × Unit)) : (Option (Sum (Int × Unit) (Bool × ((Int × Unit) × Unit)))) :=
  (bif (decide (a1.1 < (Int.ofNat a0.length))) then (bif ((decide (0 ≤ a1.1)) && (decide (a1.1 < (Int.ofNat a0.length)))) then (bif (@Sp04.stray (List.getD a0 (Int.toNat a1.1) 0)) then (some (.inr (true,(a1,())))) else (some (.inl ((IntKind.wrap .i64 (a1.1 + 1)),())))) else none) else (some (.inr (false,((0,()),())))))
noncomputable def g66 (a0 : (List Int)) : (Option (Int × Unit)) :=
  (Option.bind (Loop (@g66_s0 a0) (0,())) (fun (y1 : (Bool × ((Int × Unit) × Unit))) => (bif y1.1 then (some y1.2.1) else (some ((-1),())))))
theorem g66_eq (a0 : (List Int)) : (evF (fun _ _ => Loop) E66 G66 Proofs.Try.f66 plan66 c66 ((),(a0,((),())))).den = g66 a0 := by kernel_rfl

noncomputable def g63 (a0 : (List Int)) (a1 : Int) : (Option (Int × Sp04.Tp)) :=
  (Option.bind (@Sp04.on (Int × Sp04.Tp) (((@Sp04.wf (a0,(a1,()))) && (decide (0 < 5))) && (decide (5 ≤ 1000))) (@Sp04.pick (a0,(a1,())) ((8 : Int) :: ((8 : Int) :: ((16 : Int) :: ((32 : Int) :: ((64 : Int) :: []))))))) (fun (y2 : (Int × Sp04.Tp)) => (some y2)))
theorem g63_eq (a0 : (List Int)) (a1 : Int) : (evF (fun _ _ => Loop) E63 G63 Proofs.Try.f63 plan63 c63 ((a0,(a1,())),())).den = g63 a0 a1 := by kernel_rfl

noncomputable def g9 (a0 : (List Int)) : (Option (Sp04.Tp × Unit)) :=
  (Option.bind (bif (decide ((Int.ofNat a0.length) > 600)) then (bif (true && (decide (600 ≤ (Int.ofNat a0.length)))) then (some ((List.drop 0 (List.take 600 a0)),())) else none) else (some (a0,()))) (fun (y1 : ((List Int) × Unit)) => (some ((y1.1,(0,())),()))))
theorem g9_eq (a0 : (List Int)) : (evF (fun _ _ => Loop) E9 G9 Proofs.Try.f9 plan9 c9 ((),(a0,()))).den = g9 a0 := by kernel_rfl

noncomputable def g87 (a0 : Int) : (Option (Int × Unit)) :=
  (bif (decide (0 ≤ (IntKind.wrap .u64 a0))) then (some ((IntKind.wrap .i64 (8 * (@Int.pow 2 (@Min.min Nat instMinNat (Int.toNat (IntKind.wrap .u64 a0)) 64)))),())) else none)
theorem g87_eq (a0 : Int) : (evF (fun _ _ => Loop) E87 G87 Proofs.Try.f87 plan87 c87 ((),(a0,()))).den = g87 a0 := by kernel_rfl

noncomputable def g98 (a0 : (List Int)) (a1 : Int) : (Option (Sp04.Tp × Unit)) :=
  (bif (@Nat.ble (a0.length * 1) 140737488355328) then (some ((a0,(a1,())),())) else none)
theorem g98_eq (a0 : (List Int)) (a1 : Int) : (evF (fun _ _ => Loop) E98 G98 Proofs.Try.f98 plan98 c98 ((),((a0,(a1,())),()))).den = g98 a0 a1 := by kernel_rfl

noncomputable def g42 (a0 : Int) : (Option (Bool × Unit)) :=
  (some ((@Sp04.inside a0 1 99),()))
theorem g42_eq (a0 : Int) : (evF (fun _ _ => Loop) E42 G42 Proofs.Try.f42 plan42 c42 ((),(a0,()))).den = g42 a0 := by kernel_rfl
end Go.Abs.C04

namespace Go.Abs.C04
open Go Go.Abs
set_option maxRecDepth 20000
set_option linter.unusedVariables false
noncomputable def g6_s0 (a0 : (List Int)) (a1 : (Int × ((@List ((List Int) × (Sp04.Pk × Unit))) × Unit))) : (Option (Sum (Int × ((@List ((List Int) × (Sp04.Pk × Unit))) × Unit)) (Bool × ((Bool × Unit) × Unit)))) :=
  (Option.bind (bif (decide (a1.1 < 3)) then (some ((decide ((Int.ofNat a0.length) ≤ 100)),())) else (some (false,()))) (fun (y2 : (Bool × Unit)) => (bif y2.1 then (bif ((decide (0 ≤ a1.1)) && (decide (a1.1 < (Int.ofNat a1.2.1.length)))) then (bif (@Nat.blt (Int.toNat a1.1) a1.2.1.length) then (bif ((decide (0 ≤ a1.1)) && (decide (a1.1 < (Int.ofNat a1.2.1.length)))) then (bif (@Nat.blt (Int.toNat a1.1) a1.2.1.length) then (Option.bind (bif (!(!(@List.beq Int (@instBEqOfDecidableEq Int Int.instDecidableEq) (@Sp04.encF ((List.getD a1.2.1 (Int.toNat a1.1) ([],((0,(0,(0,(0,(0,(0,(0,(0,(0,([],())))))))))),()))).1,(List.getD a1.2.1 (Int.toNat a1.1) ([],((0,(0,(0,(0,(0,(0,(0,(0,(0,([],())))))))))),()))).2.1)).1 (@Sp04.encF ((List.getD a1.2.1 (Int.toNat a1.1) ([],((0,(0,(0,(0,(0,(0,(0,(0,(0,([],())))))))))),()))).1,(List.getD a1.2.1 (Int.toNat a1.1) ([],((0,(0,(0,(0,(0,(0,(0,(0,(0,([],())))))))))),()))).2.1)).1))) then (some ((@Sp04.encF ((List.getD a1.2.1 (Int.toNat a1.1) ([],((0,(0,(0,(0,(0,(0,(0,(0,(0,([],())))))))))),()))).1,(List.getD a1.2.1 (Int.toNat a1.1) ([],((0,(0,(0,(0,(0,(0,(0,(0,(0,([],())))))))))),()))).2.1)).1,((!(decide ((@Sp04.encF ((List.getD a1.2.1 (Int.toNat a1.1) ([],((0,(0,(0,(0,(0,(0,(0,(0,(0,([],())))))))))),()))).1,(List.getD a1.2.1 (Int.toNat a1.1) ([],((0,(0,(0,(0,(0,(0,(0,(0,(0,([],())))))))))),()))).2.1)).2.1 = (@Sp04.encF ((List.getD a1.2.1 (Int.toNat a1.1) ([],((0,(0,(0,(0,(0,(0,(0,(0,(0,([],())))))))))),()))).1,(List.getD a1.2.1 (Int.toNat a1.1) ([],((0,(0,(0,(0,(0,(0,(0,(0,(0,([],())))))))))),()))).2.1)).2.1))),()))) else (some ((@Sp04.encF ((List.getD a1.2.1 (Int.toNat a1.1) ([],((0,(0,(0,(0,(0,(0,(0,(0,(0,([],())))))))))),()))).1,(List.getD a1.2.1 (Int.toNat a1.1) ([],((0,(0,(0,(0,(0,(0,(0,(0,(0,([],())))))))))),()))).2.1)).1,(true,())))) (fun (y3 : ((List Int) × (Bool × Unit))) => (bif y3.2.1 then (some (.inr (true,((false,()),())))) else (Option.bind (bif (decide ((@Sp04.encF ((List.getD a1.2.1 (Int.toNat a1.1) ([],((0,(0,(0,(0,(0,(0,(0,(0,(0,([],())))))))))),()))).1,(List.getD a1.2.1 (Int.toNat a1.1) ([],((0,(0,(0,(0,(0,(0,(0,(0,(0,([],())))))))))),()))).2.1)).2.1 = 0)) then (Option.bind (bif (!(!(decide ((@Sp04.decF y3.1).2.1 = 0)))) then (bif (!(!(decide ((@Sp04.decF y3.1).2.1 = 0)))) then (bif (!(!(decide ((@Sp04.decF y3.1).2.1 = 0)))) then (bif (!(!(decide ((@Sp04.decF y3.1).2.1 = 0)))) then (bif ((decide (0 ≤ a1.1)) && (decide (a1.1 < (Int.ofNat a1.2.1.length)))) then (bif (!(!(decide ((@Sp04.decF y3.1).2.1 = 0)))) then (bif (@Nat.blt (Int.toNat a1.1) a1.2.1.length) then (bif (!(!(decide ((@Sp04.decF y3.1).2.1 = 0)))) then (bif (!(!(decide ((@Sp04.decF y3.1).2.1 = 0)))) then (bif (!(!(decide ((@Sp04.decF y3.1).2.1 = 0)))) then (some (a1.2.1,((!(@Sp04.sameF (@Sp04.decF y3.1).1 ((List.getD a1.2.1 (Int.toNat a1.1) ([],((0,(0,(0,(0,(0,(0,(0,(0,(0,([],())))))))))),()))).1,(List.getD a1.2.1 (Int.toNat a1.1) ([],((0,(0,(0,(0,(0,(0,(0,(0,(0,([],())))))))))),()))).2.1))),()))) else none) else none) else none) else none) else none) else none) else none) else none) else none) else (bif (!(decide ((@Sp04.decF y3.1).2.1 = 0))) then (bif (!(decide ((@Sp04.decF y3.1).2.1 = 0))) then (bif (!(decide ((@Sp04.decF y3.1).2.1 = 0))) then (bif (!(decide ((@Sp04.decF y3.1).2.1 = 0))) then (bif (!(decide ((@Sp04.decF y3.1).2.1 = 0))) then (bif (!(decide ((@Sp04.decF y3.1).2.1 = 0))) then (bif (!(decide ((@Sp04.decF y3.1).2.1 = 0))) then (some (a1.2.1,(true,()))) else none) else none) else none) else none) else none) else none) else none)) (fun (y4 : ((@List ((List Int) × (Sp04.Pk × Unit))) × (Bool × Unit))) => (bif y4.2.1 then (some (true,((false,()),([],())))) else (some (false,((false,()),(y4.1,()))))))) else (some (false,((false,()),a1.2)))) (fun (y4 : (Bool × ((Bool × Unit) × ((@List ((List Int) × (Sp04.Pk × Unit))) × Unit)))) => (bif y4.1 then (some (.inr (true,(y4.2.1,())))) else (some (.inl ((IntKind.wrap .i64 (a1.1 + 1)),y4.2.2))))))))) else none) else none) else none) else none) else (some (.inr (false,((false,()),())))))))
noncomputable def g6 (a0 : (List Int)) (a1 : (List Int)) (a2 : Int) (a3 : Int) (a4 : Int) (a5 : Int) (a6 : Int) (a7 : Int) (a8 : Int) (a9 : Int) (a10 : Int) (a11 : (List Int)) : (Option (Bool × Unit)) :=
  (Option.bind (@Sp04.on (((List Int) × Sp04.Pk) × Sp04.Tp) ((@Sp04.wf (@Sp04.tape a0)) && (@Sp04.small 3)) (@Sp04.frm (@Sp04.tape a0) 3)) (fun (y12 : (((List Int) × Sp04.Pk) × Sp04.Tp)) => (Option.bind (@Sp04.on (((List Int) × Sp04.Pk) × Sp04.Tp) ((@Sp04.wf y12.2) && (@Sp04.small 0)) (@Sp04.frm y12.2 0)) (fun (y13 : (((List Int) × Sp04.Pk) × Sp04.Tp)) => (Option.bind (Loop (@g6_s0 a1) (0,(((y12.1.1,(y12.1.2,())) :: ((y13.1.1,(y13.1.2,())) :: ((a1,((a2,(a3,(a4,(a5,(a6,(a7,(a8,(a9,(a10,(a11,())))))))))),())) :: []))),()))) (fun (y14 : (Bool × ((Bool × Unit) × Unit))) => (bif y14.1 then (some y14.2.1) else (some (true,())))))))))
theorem g6_eq (a0 : (List Int)) (a1 : (List Int)) (a2 : Int) (a3 : Int) (a4 : Int) (a5 : Int) (a6 : Int) (a7 : Int) (a8 : Int) (a9 : Int) (a10 : Int) (a11 : (List Int)) : (evF (fun _ _ => Loop) E6 G6 Proofs.Try.f6 plan6 c6 ((),(a0,((a1,(a2,(a3,(a4,(a5,(a6,(a7,(a8,(a9,(a10,(a11,()))))))))))),())))).den = g6 a0 a1 a2 a3 a4 a5 a6 a7 a8 a9 a10 a11 := by kernel_rfl

noncomputable def g27_s0 (a0 : (List Int)) (a1 : ((@List Sp04.Lb) × (((List Int) × Sp04.Pk) × (Int × Unit)))) : (Option (Sum ((@List Sp04.Lb) × (((List Int) × Sp04.Pk) × (Int × Unit))) (((List Int) × Sp04.Pk) × Unit))) :=
  (bif (decide (a1.2.2.1 < (Int.ofNat (@Sp04.decL (List.drop 1 (List.take (Int.toNat (Int.ofNat a0.length)) a0))).1.length))) then (bif ((decide (0 ≤ a1.2.2.1)) && (decide (a1.2.2.1 < (Int.ofNat a1.1.length)))) then (bif (@Nat.blt (Int.toNat a1.2.2.1) a1.1.length) then (bif (@Nat.ble ((a1.2.1.1.length + 1) * 8) 140737488355328) then (some (.inl (a1.1,(((a1.2.1.1 ++ ((IntKind.wrap .i64 ((List.getD a1.1 (Int.toNat a1.2.2.1) (0,(0,(0,())))).1 - 16)) :: [])),a1.2.1.2),((IntKind.wrap .i64 (a1.2.2.1 + 1)),()))))) else none) else none) else none) else (some (.inr (a1.2.1,()))))
noncomputable def g27 (a0 : (List Int)) : (Option ((((List Int) × Sp04.Pk) × (Int × Unit)) × Unit)) :=
  (bif (decide ((Int.ofNat a0.length) = 0)) then (some ((([],(0,(0,(0,(0,(0,(0,(0,(0,(0,([],()))))))))))),(20,())),())) else (bif (true && (decide (0 < (Int.ofNat a0.length)))) then (bif (decide ((List.getD a0 0 0) > 1)) then (some ((([],(0,(0,(0,(0,(0,(0,(0,(0,(0,([],()))))))))))),(22,())),())) else (bif ((true && (decide (1 ≤ (Int.ofNat a0.length)))) && (decide ((Int.ofNat a0.length) ≤ (Int.ofNat a0.length)))) then (bif (true && (decide (0 < (Int.ofNat a0.length)))) then (Option.bind (bif (decide ((List.getD a0 0 0) = 1)) then (bif (!(decide ((@Sp04.decL (List.drop 1 (List.take (Int.toNat (Int.ofNat a0.length)) a0))).2.2.1 = 0))) then (some (true,((([],(0,(0,(0,(0,(0,(0,(0,(0,(0,([],()))))))))))),(@Sp04.decL (List.drop 1 (List.take (Int.toNat (Int.ofNat a0.length)) a0))).2.2),(([],(0,(0,(0,(0,(0,(0,(0,(0,(0,([],()))))))))))),([],(([],(0,(0,(0,(0,(0,(0,(0,(0,(0,([],()))))))))))),())))))) else (bif (((decide (0 ≤ (@Sp04.decL (List.drop 1 (List.take (Int.toNat (Int.ofNat a0.length)) a0))).2.1)) && (decide ((@Sp04.decL (List.drop 1 (List.take (Int.toNat (Int.ofNat a0.length)) a0))).2.1 ≤ (Int.ofNat (List.drop 1 (List.take (Int.toNat (Int.ofNat a0.length)) a0)).length)))) && (decide ((Int.ofNat (List.drop 1 (List.take (Int.toNat (Int.ofNat a0.length)) a0)).length) ≤ (Int.ofNat (List.drop 1 (List.take (Int.toNat (Int.ofNat a0.length)) a0)).length)))) then (Option.bind (@Sp04.on (Bool × Unit) (@List.all Sp04.Lb (@Sp04.decL (List.drop 1 (List.take (Int.toNat (Int.ofNat a0.length)) a0))).1 Sp04.near) ((@List.any Sp04.Lb (@Sp04.decL (List.drop 1 (List.take (Int.toNat (Int.ofNat a0.length)) a0))).1 Sp04.alien),())) (fun (y1 : (Bool × Unit)) => (bif y1.1 then (some (true,((([],(0,(0,(0,(0,(0,(0,(0,(0,(0,([],()))))))))))),(2,())),(([],(0,(0,(0,(0,(0,(0,(0,(0,(0,([],()))))))))))),([],(([],(0,(0,(0,(0,(0,(0,(0,(0,(0,([],()))))))))))),())))))) else (Option.bind (Loop (@g27_s0 a0) ((@Sp04.decL (List.drop 1 (List.take (Int.toNat (Int.ofNat a0.length)) a0))).1,(([],(0,(0,(0,(0,(0,(0,(0,(0,(0,([],()))))))))))),(0,())))) (fun (y2 : (((List Int) × Sp04.Pk) × Unit)) => (bif (@Sp04.twice y2.1.1) then (some (true,((([],(0,(0,(0,(0,(0,(0,(0,(0,(0,([],()))))))))))),(5,())),(([],(0,(0,(0,(0,(0,(0,(0,(0,(0,([],()))))))))))),([],(([],(0,(0,(0,(0,(0,(0,(0,(0,(0,([],()))))))))))),())))))) else (some (false,((([],(0,(0,(0,(0,(0,(0,(0,(0,(0,([],()))))))))))),(0,())),(([],(0,(0,(0,(0,(0,(0,(0,(0,(0,([],()))))))))))),((List.drop (Int.toNat (@Sp04.decL (List.drop 1 (List.take (Int.toNat (Int.ofNat a0.length)) a0))).2.1) (List.take (Int.toNat (Int.ofNat (List.drop 1 (List.take (Int.toNat (Int.ofNat a0.length)) a0)).length)) (List.drop 1 (List.take (Int.toNat (Int.ofNat a0.length)) a0)))),y2))))))))))) else none)) else (some (false,((([],(0,(0,(0,(0,(0,(0,(0,(0,(0,([],()))))))))))),(0,())),(([],(0,(0,(0,(0,(0,(0,(0,(0,(0,([],()))))))))))),((List.drop 1 (List.take (Int.toNat (Int.ofNat a0.length)) a0)),(([],(0,(0,(0,(0,(0,(0,(0,(0,(0,([],()))))))))))),()))))))) (fun (y1 : (Bool × ((((List Int) × Sp04.Pk) × (Int × Unit)) × (((List Int) × Sp04.Pk) × ((List Int) × (((List Int) × Sp04.Pk) × Unit)))))) => (bif y1.1 then (some (y1.2.1,())) else (bif (!(decide ((@Sp04.decode y1.2.2.2.1).2.1 = 0))) then (some ((([],(0,(0,(0,(0,(0,(0,(0,(0,(0,([],()))))))))))),(@Sp04.decode y1.2.2.2.1).2),())) else (some (((y1.2.2.2.2.1.1,(@Sp04.decode y1.2.2.2.1).1),(0,())),())))))) else none) else none)) else none))
theorem g27_eq (a0 : (List Int)) : (evF (fun _ _ => Loop) E27 G27 Proofs.Try.f27 plan27 c27 ((),(a0,()))).den = g27 a0 := by kernel_rfl

noncomputable def g105_s0 (a0 : (List Int)) (a1 : Int) (a2 : Int) (a3 : (Int × (Sp04.Tp × Unit))) : (Option (Sum (Int × (Sp04.Tp × Unit)) (Sp04.Tp × Unit))) :=
  (bif (decide (a3.1 < a2)) then (Option.bind (@Sp04.on (Int × Unit) ((((decide (0 ≤ a3.1)) && (decide (0 ≤ (bif (decide ((IntKind.wrap .i64 (a2 - a3.1)) < 64)) then (IntKind.wrap .i64 (a2 - a3.1)) else 64)))) && (decide ((bif (decide ((IntKind.wrap .i64 (a2 - a3.1)) < 64)) then (IntKind.wrap .i64 (a2 - a3.1)) else 64) ≤ 64))) && (decide ((a3.1 + (bif (decide ((IntKind.wrap .i64 (a2 - a3.1)) < 64)) then (IntKind.wrap .i64 (a2 - a3.1)) else 64)) ≤ (8 * (Int.ofNat a0.length))))) ((Int.ofNat (@Sp04.valOf (@Sp04.bitsR a0 (Int.toNat a3.1) (Int.toNat (bif (decide ((IntKind.wrap .i64 (a2 - a3.1)) < 64)) then (IntKind.wrap .i64 (a2 - a3.1)) else 64))))),())) (fun (y4 : (Int × Unit)) => (Option.bind (@Sp04.on (Unit × Sp04.Tp) ((((@Sp04.valid a3.2.1) && (decide (0 ≤ (bif (decide ((IntKind.wrap .i64 (a2 - a3.1)) < 64)) then (IntKind.wrap .i64 (a2 - a3.1)) else 64)))) && (decide ((bif (decide ((IntKind.wrap .i64 (a2 - a3.1)) < 64)) then (IntKind.wrap .i64 (a2 - a3.1)) else 64) ≤ 64))) && (decide ((a3.2.1.2.1 + (bif (decide ((IntKind.wrap .i64 (a2 - a3.1)) < 64)) then (IntKind.wrap .i64 (a2 - a3.1)) else 64)) ≤ 8192))) ((),(@Sp04.enc ((@Sp04.bits a3.2.1) ++ (@Sp04.vbits (Int.toNat y4.1) (Int.toNat (bif (decide ((IntKind.wrap .i64 (a2 - a3.1)) < 64)) then (IntKind.wrap .i64 (a2 - a3.1)) else 64))))))) (fun (y5 : (Unit × Sp04.Tp)) => (some (.inl ((IntKind.wrap .i64 (a3.1 + (bif (decide ((IntKind.wrap .i64 (a2 - a3.1)) < 64)) then (IntKind.wrap .i64 (a2 - a3.1)) else 64))),(y5.2,())))))))) else (some (.inr a3.2)))
noncomputable def g105 (a0 : (List Int)) (a1 : Int) (a2 : (List Int)) (a3 : Int) (a4 : Int) (a5 : Int) : (Option (Unit × Sp04.Tp)) :=
  (Option.bind (Loop (@g105_s0 a2 a3 a5) (a4,((a0,(a1,())),()))) (fun (y6 : (Sp04.Tp × Unit)) => (some ((),y6.1))))
theorem g105_eq (a0 : (List Int)) (a1 : Int) (a2 : (List Int)) (a3 : Int) (a4 : Int) (a5 : Int) : (evF (fun _ _ => Loop) E105 G105 Proofs.Try.f105 plan105 c105 ((a0,(a1,())),((a2,(a3,())),(a4,(a5,()))))).den = g105 a0 a1 a2 a3 a4 a5 := by kernel_rfl

noncomputable def g52_s0 (a0 : (List Int)) (a1 : (Int × (Sp04.Tp × ((List Int) × Unit)))) : (Option (Sum (Int × (Sp04.Tp × ((List Int) × Unit))) (Sp04.Tp × Unit))) :=
  (bif (decide (a1.1 < (Int.ofNat a0.length))) then (bif ((decide (0 ≤ a1.1)) && (decide (a1.1 < (Int.ofNat a1.2.2.1.length)))) then (bif (@Nat.blt (Int.toNat a1.1) a1.2.2.1.length) then (some (.inl ((IntKind.wrap .i64 (a1.1 + 1)),((@Sp04.append a1.2.1 (IntKind.wrap .u64 (List.getD a1.2.2.1 (Int.toNat a1.1) 0)) 8).1,a1.2.2)))) else none) else none) else (some (.inr (a1.2.1,()))))
noncomputable def g52 (a0 : Int) (a1 : Int) (a2 : Int) (a3 : Int) (a4 : Int) (a5 : Int) (a6 : Int) (a7 : Int) (a8 : Int) (a9 : (List Int)) : (Option (Sp04.Tp × Unit)) :=
  (bif (!(@Sp04.validP (a0,(a1,(a2,(a3,(a4,(a5,(a6,(a7,(a8,(a9,())))))))))))) then (some (([],(1,())),())) else (Option.bind (@Sp04.on (Int × Unit) (@Sp04.vlen a3) ((@Sp04.code a3),())) (fun (y10 : (Int × Unit)) => (bif (@Nat.ble a9.length 140737488355328) then (Option.bind (Loop (@g52_s0 a9) (0,((@Sp04.append (@Sp04.append (@Sp04.append (@Sp04.append (@Sp04.append (@Sp04.append (@Sp04.append (@Sp04.append (@Sp04.append (@Sp04.append (@Sp04.append ([],(0,())) 2 2).1 (IntKind.wrap .u64 a0) 2).1 (IntKind.wrap .u64 a1) 3).1 (IntKind.wrap .u64 a2) 5).1 (IntKind.wrap .u64 y10.1) 2).1 (IntKind.wrap .u64 a4) 6).1 (IntKind.wrap .u64 a5) 10).1 (IntKind.wrap .u64 a6) 9).1 (IntKind.wrap .u64 a7) 3).1 (IntKind.wrap .u64 (Int.ofNat a9.length)) 7).1 a8 a3).1,(a9,())))) (fun (y11 : (Sp04.Tp × Unit)) => (some (((@Sp04.append y11.1 (@Sp04.check y11.1).1 16).1.1,(0,())),())))) else none))))
theorem g52_eq (a0 : Int) (a1 : Int) (a2 : Int) (a3 : Int) (a4 : Int) (a5 : Int) (a6 : Int) (a7 : Int) (a8 : Int) (a9 : (List Int)) : (evF (fun _ _ => Loop) E52 G52 Proofs.Try.f52 plan52 c52 ((),((a0,(a1,(a2,(a3,(a4,(a5,(a6,(a7,(a8,(a9,())))))))))),()))).den = g52 a0 a1 a2 a3 a4 a5 a6 a7 a8 a9 := by kernel_rfl

noncomputable def g16 : (Option (Bool × Unit)) :=
  (Option.bind (bif (decide ((@Sp04.encL ((17,(0,(255,()))) :: ((20,(0,(255,()))) :: []))).2.1 = 0)) then (bif (@List.beq Int (@instBEqOfDecidableEq Int Int.instDecidableEq) (@Sp04.encL ((17,(0,(255,()))) :: ((20,(0,(255,()))) :: []))).1 ((0 : Int) :: ((1 : Int) :: ((16 : Int) :: ((255 : Int) :: ((0 : Int) :: ((1 : Int) :: ((65 : Int) :: ((255 : Int) :: []))))))))) then (bif (decide ((@Sp04.encF (((1 : Int) :: ((4 : Int) :: [])),(1,(0,(0,(8,(0,(0,(0,(0,(0,([],())))))))))))).2.1 = 0)) then (bif (decide ((@Sp04.decF (@Sp04.encF (((1 : Int) :: ((4 : Int) :: [])),(1,(0,(0,(8,(0,(0,(0,(0,(0,([],())))))))))))).1).2.1 = 0)) then (bif (@Sp04.sameF (((1 : Int) :: ((4 : Int) :: [])),(1,(0,(0,(8,(0,(0,(0,(0,(0,([],()))))))))))) (@Sp04.decF (@Sp04.encF (((1 : Int) :: ((4 : Int) :: [])),(1,(0,(0,(8,(0,(0,(0,(0,(0,([],())))))))))))).1).1) then (some ((decide ((Int.ofNat (@Sp04.encF (((1 : Int) :: ((4 : Int) :: [])),(1,(0,(0,(8,(0,(0,(0,(0,(0,([],())))))))))))).1.length) = 19)),())) else (some (false,()))) else (some (false,()))) else (some (false,()))) else (some (false,()))) else (some (false,()))) (fun (y0 : (Bool × Unit)) => (some y0)))
theorem g16_eq : (evF (fun _ _ => Loop) E16 G16 Proofs.Try.f16 plan16 c16 ((),())).den = g16  := by kernel_rfl

noncomputable def g10 (a0 : (List Int)) (a1 : Int) (a2 : Int) : (Option (Sp04.Lb × Sp04.Tp)) :=
  (Option.bind (@Sp04.on (Int × Sp04.Tp) (((@Sp04.wf (a0,(a1,()))) && (decide (0 < 6))) && (decide (6 ≤ 1000))) (@Sp04.pick (a0,(a1,())) ((0 : Int) :: ((17 : Int) :: ((18 : Int) :: ((115 : Int) :: ((116 : Int) :: ((1048575 : Int) :: [])))))))) (fun (y3 : (Int × Sp04.Tp)) => (Option.bind (@Sp04.on (Int × Sp04.Tp) ((@Sp04.wf y3.2) && (@Sp04.small a2)) (@Sp04.spoil y3.2 y3.1 a2)) (fun (y4 : (Int × Sp04.Tp)) => (Option.bind (@Sp04.on (Int × Sp04.Tp) (@Sp04.wf y4.2) (@Sp04.next y4.2 8)) (fun (y5 : (Int × Sp04.Tp)) => (Option.bind (@Sp04.on (Int × Sp04.Tp) ((@Sp04.wf y5.2) && (@Sp04.small a2)) (@Sp04.spoil y5.2 y5.1 a2)) (fun (y6 : (Int × Sp04.Tp)) => (Option.bind (@Sp04.on (Int × Sp04.Tp) (((@Sp04.wf y6.2) && (decide (0 < 3))) && (decide (3 ≤ 1000))) (@Sp04.pick y6.2 ((0 : Int) :: ((1 : Int) :: ((255 : Int) :: []))))) (fun (y7 : (Int × Sp04.Tp)) => (Option.bind (@Sp04.on (Int × Sp04.Tp) ((@Sp04.wf y7.2) && (@Sp04.small a2)) (@Sp04.spoil y7.2 y7.1 a2)) (fun (y8 : (Int × Sp04.Tp)) => (some ((y4.1,(y6.1,(y8.1,()))),y8.2))))))))))))))
theorem g10_eq (a0 : (List Int)) (a1 : Int) (a2 : Int) : (evF (fun _ _ => Loop) E10 G10 Proofs.Try.f10 plan10 c10 ((a0,(a1,())),(a2,()))).den = g10 a0 a1 a2 := by kernel_rfl

noncomputable def g30_s0 (a0 : Int) (a1 : Int) (a2 : (Sp04.Tp × Sp04.Tp)) : (Option (Sum (Sp04.Tp × Sp04.Tp) (Sp04.Tp × ((List Int) × Unit)))) :=
  (bif (decide (a2.2.2.1 > 0)) then (Option.bind (@Sp04.on (Int × Sp04.Tp) (((@Sp04.wf a2.1) && (@Sp04.small a0)) && (@Sp04.small a1)) (@Sp04.range a2.1 a0 a1)) (fun (y3 : (Int × Sp04.Tp)) => (bif (@Nat.ble ((a2.2.1.length + 1) * 8) 140737488355328) then (some (.inl (y3.2,((a2.2.1 ++ (y3.1 :: [])),((IntKind.wrap .i64 (a2.2.2.1 - 1)),()))))) else none))) else (some (.inr (a2.1,(a2.2.1,())))))
noncomputable def g30 (a0 : (List Int)) (a1 : Int) (a2 : Int) (a3 : Int) (a4 : Int) : (Option ((List Int) × Sp04.Tp)) :=
  (Option.bind (@Sp04.on (Int × Sp04.Tp) (((@Sp04.wf (a0,(a1,()))) && (@Sp04.small 0)) && (@Sp04.small a2)) (@Sp04.range (a0,(a1,())) 0 a2)) (fun (y5 : (Int × Sp04.Tp)) => (Option.bind (Loop (@g30_s0 a3 a4) (y5.2,([],(y5.1,())))) (fun (y6 : (Sp04.Tp × ((List Int) × Unit))) => (some (y6.2.1,y6.1))))))
theorem g30_eq (a0 : (List Int)) (a1 : Int) (a2 : Int) (a3 : Int) (a4 : Int) : (evF (fun _ _ => Loop) E30 G30 Proofs.Try.f30 plan30 c30 ((a0,(a1,())),(a2,(a3,(a4,()))))).den = g30 a0 a1 a2 a3 a4 := by kernel_rfl

noncomputable def g83 (a0 : (List Int)) (a1 : Int) (a2 : Int) (a3 : Int) : (Option ((Int × (Int × Unit)) × Unit)) :=
  (bif (!(@Sp04.valid (a0,(a1,())))) then (some ((0,(1,())),())) else (Option.bind (bif (!(decide (a3 < 0))) then (bif (!(decide (a3 > 64))) then (some ((decide (a2 < 0)),())) else (some (true,()))) else (some (true,()))) (fun (y4 : (Bool × Unit)) => (bif y4.1 then (some ((0,(2,())),())) else (Option.bind (bif (!(decide (a2 > a1))) then (some ((decide (a3 > (IntKind.wrap .i64 (a1 - a2)))),())) else (some (true,()))) (fun (y5 : (Bool × Unit)) => (bif y5.1 then (some ((0,(20,())),())) else (Option.bind (@Sp04.on (Int × Unit) ((((decide (0 ≤ a2)) && (decide (0 ≤ a3))) && (decide (a3 ≤ 64))) && (decide ((a2 + a3) ≤ (8 * (Int.ofNat a0.length))))) ((Int.ofNat (@Sp04.valOf (@Sp04.bitsR a0 (Int.toNat a2) (Int.toNat a3)))),())) (fun (y6 : (Int × Unit)) => (some ((y6.1,(0,())),())))))))))))
theorem g83_eq (a0 : (List Int)) (a1 : Int) (a2 : Int) (a3 : Int) : (evF (fun _ _ => Loop) E83 G83 Proofs.Try.f83 plan83 c83 ((),((a0,(a1,())),(a2,(a3,()))))).den = g83 a0 a1 a2 a3 := by kernel_rfl

noncomputable def g43_s0 (a0 : (List Int)) (a1 : (Int × Unit)) : (Option (Sum (Int × Unit) (Bool × ((Bool × Unit) × Unit)))) :=
  (bif (decide (a1.1 < (Int.ofNat a0.length))) then (bif ((decide (0 ≤ a1.1)) && (decide (a1.1 < (Int.ofNat a0.length)))) then (bif ((true && (decide (0 ≤ a1.1))) && (decide (a1.1 ≤ (Int.ofNat a0.length)))) then (bif (@List.any Int (List.drop 0 (List.take (Int.toNat a1.1) a0)) (fun (y2 : Int) => (decide ((List.getD a0 (Int.toNat a1.1) 0) = y2)))) then (some (.inr (true,((true,()),())))) else (some (.inl ((IntKind.wrap .i64 (a1.1 + 1)),())))) else none) else none) else (some (.inr (false,((false,()),())))))
noncomputable def g43 (a0 : (List Int)) : (Option (Bool × Unit)) :=
  (Option.bind (Loop (@g43_s0 a0) (0,())) (fun (y1 : (Bool × ((Bool × Unit) × Unit))) => (bif y1.1 then (some y1.2.1) else (some (false,())))))
theorem g43_eq (a0 : (List Int)) : (evF (fun _ _ => Loop) E43 G43 Proofs.Try.f43 plan43 c43 ((),(a0,()))).den = g43 a0 := by kernel_rfl

noncomputable def g14 (a0 : (List Int)) (a1 : Int) (a2 : Int) (a3 : Int) (a4 : Int) (a5 : Int) (a6 : Int) (a7 : Int) (a8 : Int) (a9 : Int) (a10 : (List Int)) : (Option (Bool × Unit)) :=
  (Option.bind (bif (decide ((Int.ofNat a0.length) ≤ 24)) then (bif (!(@List.any Int a0 Sp04.stray)) then (bif (!(@Sp04.twice a0)) then (some ((@Sp04.validP (a1,(a2,(a3,(a4,(a5,(a6,(a7,(a8,(a9,(a10,()))))))))))),())) else (some (false,()))) else (some (false,()))) else (some (false,()))) (fun (y11 : (Bool × Unit)) => (some y11)))
theorem g14_eq (a0 : (List Int)) (a1 : Int) (a2 : Int) (a3 : Int) (a4 : Int) (a5 : Int) (a6 : Int) (a7 : Int) (a8 : Int) (a9 : Int) (a10 : (List Int)) : (evF (fun _ _ => Loop) E14 G14 Proofs.Try.f14 plan14 c14 ((),((a0,(a1,(a2,(a3,(a4,(a5,(a6,(a7,(a8,(a9,(a10,()))))))))))),()))).den = g14 a0 a1 a2 a3 a4 a5 a6 a7 a8 a9 a10 := by kernel_rfl

noncomputable def g59 (a0 : (List Int)) (a1 : Int) (a2 : Int) (a3 : Int) : (Option (Int × Sp04.Tp)) :=
  (Option.bind (@Sp04.on (Int × Sp04.Tp) (@Sp04.wf (a0,(a1,()))) (@Sp04.next (a0,(a1,())) (IntKind.wrap .i64 ((IntKind.wrap .i64 (a3 - a2)) + 1)))) (fun (y4 : (Int × Sp04.Tp)) => (some ((IntKind.wrap .i64 (a2 + y4.1)),y4.2))))
theorem g59_eq (a0 : (List Int)) (a1 : Int) (a2 : Int) (a3 : Int) : (evF (fun _ _ => Loop) E59 G59 Proofs.Try.f59 plan59 c59 ((a0,(a1,())),(a2,(a3,())))).den = g59 a0 a1 a2 a3 := by kernel_rfl

noncomputable def g69 (a0 : Int) (a1 : Int) : (Option (Bool × Unit)) :=
  (Option.bind (bif (@Sp04.vlen a1) then (some ((decide ((IntKind.wrap .u64 (Int.ofNat (@BitVec.toNat 64 (@BitVec.and 64 (@BitVec.ofInt 64 a0) (@BitVec.not 64 (@BitVec.ofInt 64 (@Sp04.full a1))))))) = 0)),())) else (some (false,()))) (fun (y2 : (Bool × Unit)) => (some y2)))
theorem g69_eq (a0 : Int) (a1 : Int) : (evF (fun _ _ => Loop) E69 G69 Proofs.Try.f69 plan69 c69 ((),(a0,(a1,())))).den = g69 a0 a1 := by kernel_rfl

noncomputable def g19 (a0 : (List Int)) (a1 : Int) (a2 : Int) : (Option (Int × Sp04.Tp)) :=
  (Option.bind (@Sp04.on (Int × Sp04.Tp) (@Sp04.wf (a0,(a1,()))) (@Sp04.raw (a0,(a1,())))) (fun (y3 : (Int × Sp04.Tp)) => (some ((@Sp04.cut y3.1 a2),y3.2))))
theorem g19_eq (a0 : (List Int)) (a1 : Int) (a2 : Int) : (evF (fun _ _ => Loop) E19 G19 Proofs.Try.f19 plan19 c19 ((a0,(a1,())),(a2,()))).den = g19 a0 a1 a2 := by kernel_rfl

noncomputable def g79 : (Option ((List Int) × Unit)) :=
  (some (((2 : Int) :: ((2 : Int) :: ((3 : Int) :: ((5 : Int) :: ((2 : Int) :: ((6 : Int) :: ((10 : Int) :: ((9 : Int) :: ((3 : Int) :: ((7 : Int) :: [])))))))))),()))
theorem g79_eq : (evF (fun _ _ => Loop) E79 G79 Proofs.Try.f79 plan79 c79 ((),())).den = g79  := by kernel_rfl

noncomputable def g106 (a0 : Int) : (Option (Int × Unit)) :=
  (some ((IntKind.wrap .i64 (@Int.tdiv (IntKind.wrap .i64 (a0 + 7)) 8)),()))
theorem g106_eq (a0 : Int) : (evF (fun _ _ => Loop) E106 G106 Proofs.Try.f106 plan106 c106 ((),(a0,()))).den = g106 a0 := by kernel_rfl
end Go.Abs.C04

namespace Go.Abs.C04
open Go Go.Abs
set_option maxRecDepth 20000
set_option linter.unusedVariables false
noncomputable def g11w1_s0 (a0 : ((List Int) × Sp04.Tp)) (a1 : (Int × (((List Int) × Sp04.Pk) × Unit))) : (Option (Sum (Int × (((List Int) × Sp04.Pk) × Unit)) (((List Int) × Sp04.Pk) × Unit))) :=
  (bif (decide (a1.1 > 0)) then (bif ((decide (0 ≤ a1.1)) && (decide (a1.1 < (Int.ofNat a0.1.length)))) then (bif (@Nat.ble ((a1.2.1.1.length + 1) * 8) 140737488355328) then (some (.inl ((IntKind.wrap .i64 (a1.1 - 1)),(((a1.2.1.1 ++ ((IntKind.wrap .i64 (1 + (List.getD a0.1 (Int.toNat a1.1) 0))) :: [])),a1.2.1.2),())))) else none) else none) else (some (.inr a1.2)))
noncomputable def g11w1_s1 (a0 : (((List Int) × Sp04.Pk) × (Int × Unit))) : (Option (Sum (((List Int) × Sp04.Pk) × (Int × Unit)) (((List Int) × Sp04.Pk) × Unit))) :=
  (bif (decide (a0.2.1 < 25)) then (bif (@Nat.ble ((a0.1.1.length + 1) * 8) 140737488355328) then (some (.inl (((a0.1.1 ++ ((IntKind.wrap .i64 (50 + a0.2.1)) :: [])),a0.1.2),((IntKind.wrap .i64 (a0.2.1 + 1)),())))) else none) else (some (.inr (a0.1,()))))
noncomputable def g11w1 (a0 : (List Int)) (a1 : Int) (a2 : Int) : (Option (((List Int) × Sp04.Pk) × Sp04.Tp)) :=
  (Option.bind (@Sp04.on (Sp04.Pk × Sp04.Tp) ((@Sp04.wf (a0,(a1,()))) && (@Sp04.small 0)) (@Sp04.packet (a0,(a1,())) 0)) (fun (y3 : (Sp04.Pk × Sp04.Tp)) => (Option.bind (@Sp04.on ((List Int) × Sp04.Tp) (((@Sp04.wf y3.2) && (decide ((0 : Int) ≤ 5))) && (decide ((5 : Int) ≤ 1000))) (@Sp04.order y3.2 5)) (fun (y4 : ((List Int) × Sp04.Tp)) => (Option.bind (@Sp04.on (Int × Sp04.Tp) (@Sp04.wf y4.2) (@Sp04.next y4.2 5)) (fun (y5 : (Int × Sp04.Tp)) => (Option.bind (Loop (@g11w1_s0 y4) (y5.1,(([],y3.1),()))) (fun (y6 : (((List Int) × Sp04.Pk) × Unit)) => (Option.bind (bif (decide (a2 > 0)) then (Option.bind (@Sp04.on (Bool × Sp04.Tp) ((@Sp04.wf y5.2) && (@Sp04.small a2)) (@Sp04.one y5.2 a2)) (fun (y7 : (Bool × Sp04.Tp)) => (some (y7.2,(y7.1,()))))) else (some (y5.2,(false,())))) (fun (y7 : (Sp04.Tp × (Bool × Unit))) => (Option.bind (bif y7.2.1 then (Option.bind (@Sp04.on (Int × Sp04.Tp) (@Sp04.wf y7.1) (@Sp04.next y7.1 3)) (fun (y8 : (Int × Sp04.Tp)) => (Option.bind (bif (decide (y8.1 = 0)) then (Option.bind (@Sp04.on (Sp04.Pk × Sp04.Tp) ((@Sp04.wf y8.2) && (@Sp04.small 1)) (@Sp04.packet y8.2 1)) (fun (y9 : (Sp04.Pk × Sp04.Tp)) => (some ((y6.1.1,y9.1),(y9.2,()))))) else (Option.bind (bif (decide (y8.1 = 1)) then (Option.bind (@Sp04.on (Int × Sp04.Tp) (((@Sp04.wf y8.2) && (decide (0 < 5))) && (decide (5 ≤ 1000))) (@Sp04.pick y8.2 ((0 : Int) :: ((1 : Int) :: ((2 : Int) :: ((99 : Int) :: ((100 : Int) :: []))))))) (fun (y9 : (Int × Sp04.Tp)) => (bif (@Nat.ble ((y6.1.1.length + 1) * 8) 140737488355328) then (some (y9.2,(((y6.1.1 ++ (y9.1 :: [])),y6.1.2),()))) else none))) else (Option.bind (Loop g11w1_s1 (y6.1,(0,()))) (fun (y9 : (((List Int) × Sp04.Pk) × Unit)) => (some (y8.2,y9))))) (fun (y9 : (Sp04.Tp × (((List Int) × Sp04.Pk) × Unit))) => (some (y9.2.1,(y9.1,())))))) (fun (y9 : (((List Int) × Sp04.Pk) × (Sp04.Tp × Unit))) => (some y9))))) else (some (y6.1,(y7.1,())))) (fun (y8 : (((List Int) × Sp04.Pk) × (Sp04.Tp × Unit))) => (some (y8.1,y8.2.1))))))))))))))
theorem g11w1_eq (a0 : (List Int)) (a1 : Int) (a2 : Int) : (evF (fun _ _ => Loop) E11w1 G11w1 Proofs.Try.f11 plan11w1 c11w1 ((a0,(a1,())),(a2,()))).den = g11w1 a0 a1 a2 := by kernel_rfl

noncomputable def g3 (a0 : (List Int)) (a1 : Int) (a2 : Int) (a3 : Int) (a4 : (List Int)) (a5 : Int) (a6 : Int) (a7 : Int) (a8 : Int) (a9 : Int) (a10 : Int) (a11 : Int) (a12 : Int) (a13 : Int) (a14 : (List Int)) : (Option (Bool × Unit)) :=
  (Option.bind (@Sp04.on (Sp04.Lb × Sp04.Tp) ((@Sp04.wf (@Sp04.tape a0)) && (@Sp04.small 4)) (@Sp04.labT (@Sp04.tape a0) 4)) (fun (y15 : (Sp04.Lb × Sp04.Tp)) => (Option.bind (@Sp04.on (((List Int) × Sp04.Pk) × Sp04.Tp) ((@Sp04.wf y15.2) && (@Sp04.small 2)) (@Sp04.frm y15.2 2)) (fun (y16 : (((List Int) × Sp04.Pk) × Sp04.Tp)) => (Option.bind (bif (decide ((@Sp04.validL y15.1) = (@Sp04.validL y15.1))) then (bif (decide ((@Sp04.validL y15.1) = (@Sp04.validL y15.1))) then (bif (decide ((@Sp04.validL y15.1) = (@Sp04.validL y15.1))) then (bif (decide ((@Sp04.validL y15.1) = (@Sp04.validL y15.1))) then (bif (decide ((@Sp04.validL y15.1) = (@Sp04.validL y15.1))) then (bif (decide ((@Sp04.validL y15.1) = (@Sp04.validL y15.1))) then (bif (decide ((@Sp04.validL (a1,(a2,(a3,())))) = (@Sp04.validL (a1,(a2,(a3,())))))) then (bif (decide ((@Sp04.validL (a1,(a2,(a3,())))) = (@Sp04.validL (a1,(a2,(a3,())))))) then (bif (decide ((@Sp04.validL (a1,(a2,(a3,())))) = (@Sp04.validL (a1,(a2,(a3,())))))) then (bif (decide ((@Sp04.validL (a1,(a2,(a3,())))) = (@Sp04.validL (a1,(a2,(a3,())))))) then (bif (decide ((@Sp04.validL (a1,(a2,(a3,())))) = (@Sp04.validL (a1,(a2,(a3,())))))) then (bif (decide ((@Sp04.validL (a1,(a2,(a3,())))) = (@Sp04.validL (a1,(a2,(a3,())))))) then (bif (decide ((@Sp04.validF y16.1) = (@Sp04.validF y16.1))) then (bif (decide ((@Sp04.validF y16.1) = (@Sp04.validF y16.1))) then (bif (decide ((@Sp04.validF y16.1) = (@Sp04.validF y16.1))) then (bif (decide ((@Sp04.validF y16.1) = (@Sp04.validF y16.1))) then (bif (decide ((@Sp04.validF y16.1) = (@Sp04.validF y16.1))) then (bif (!(decide ((Int.ofNat a4.length) > 100))) then (bif (!(decide ((Int.ofNat a4.length) > 100))) then (bif (!(decide ((Int.ofNat a4.length) > 100))) then (bif (!(decide ((Int.ofNat a4.length) > 100))) then (bif (!(decide ((Int.ofNat a4.length) > 100))) then (bif (decide ((@Sp04.validF y16.1) = (@Sp04.validF y16.1))) then (bif (!(decide ((Int.ofNat a4.length) > 100))) then (bif (decide ((@Sp04.validF y16.1) = (@Sp04.validF y16.1))) then (bif (decide ((@Sp04.validF (a4,(a5,(a6,(a7,(a8,(a9,(a10,(a11,(a12,(a13,(a14,())))))))))))) = (@Sp04.validF (a4,(a5,(a6,(a7,(a8,(a9,(a10,(a11,(a12,(a13,(a14,())))))))))))))) then (bif (decide ((@Sp04.validF (a4,(a5,(a6,(a7,(a8,(a9,(a10,(a11,(a12,(a13,(a14,())))))))))))) = (@Sp04.validF (a4,(a5,(a6,(a7,(a8,(a9,(a10,(a11,(a12,(a13,(a14,())))))))))))))) then (some (true,())) else none) else (bif (!(decide ((@Sp04.validF (a4,(a5,(a6,(a7,(a8,(a9,(a10,(a11,(a12,(a13,(a14,())))))))))))) = (@Sp04.validF (a4,(a5,(a6,(a7,(a8,(a9,(a10,(a11,(a12,(a13,(a14,()))))))))))))))) then (some (false,())) else none)) else none) else none) else none) else none) else none) else none) else none) else (bif (decide ((Int.ofNat a4.length) > 100)) then (bif (decide ((Int.ofNat a4.length) > 100)) then (bif (decide ((Int.ofNat a4.length) > 100)) then (bif (decide ((Int.ofNat a4.length) > 100)) then (bif (decide ((@Sp04.validF y16.1) = (@Sp04.validF y16.1))) then (bif (decide ((Int.ofNat a4.length) > 100)) then (bif (decide ((@Sp04.validF y16.1) = (@Sp04.validF y16.1))) then (some (true,())) else none) else none) else none) else none) else none) else none) else none)) else none) else none) else none) else none) else (bif (!(decide ((@Sp04.validF y16.1) = (@Sp04.validF y16.1)))) then (bif (!(decide ((@Sp04.validF y16.1) = (@Sp04.validF y16.1)))) then (bif (!(decide ((@Sp04.validF y16.1) = (@Sp04.validF y16.1)))) then (bif (!(decide ((@Sp04.validF y16.1) = (@Sp04.validF y16.1)))) then (bif (!(decide ((@Sp04.validF y16.1) = (@Sp04.validF y16.1)))) then (bif (!(decide ((@Sp04.validF y16.1) = (@Sp04.validF y16.1)))) then (some (false,())) else none) else none) else none) else none) else none) else none)) else none) else none) else none) else none) else none) else (bif (!(decide ((@Sp04.validL (a1,(a2,(a3,())))) = (@Sp04.validL (a1,(a2,(a3,()))))))) then (bif (!(decide ((@Sp04.validL (a1,(a2,(a3,())))) = (@Sp04.validL (a1,(a2,(a3,()))))))) then (bif (!(decide ((@Sp04.validL (a1,(a2,(a3,())))) = (@Sp04.validL (a1,(a2,(a3,()))))))) then (bif (!(decide ((@Sp04.validL (a1,(a2,(a3,())))) = (@Sp04.validL (a1,(a2,(a3,()))))))) then (bif (!(decide ((@Sp04.validL (a1,(a2,(a3,())))) = (@Sp04.validL (a1,(a2,(a3,()))))))) then (some (false,())) else none) else none) else none) else none) else none)) else none) else none) else none) else none) else none) else (bif (!(decide ((@Sp04.validL y15.1) = (@Sp04.validL y15.1)))) then (bif (!(decide ((@Sp04.validL y15.1) = (@Sp04.validL y15.1)))) then (bif (!(decide ((@Sp04.validL y15.1) = (@Sp04.validL y15.1)))) then (bif (!(decide ((@Sp04.validL y15.1) = (@Sp04.validL y15.1)))) then (bif (!(decide ((@Sp04.validL y15.1) = (@Sp04.validL y15.1)))) then (some (false,())) else none) else none) else none) else none) else none)) (fun (y17 : (Bool × Unit)) => (some y17)))))))
theorem g3_eq (a0 : (List Int)) (a1 : Int) (a2 : Int) (a3 : Int) (a4 : (List Int)) (a5 : Int) (a6 : Int) (a7 : Int) (a8 : Int) (a9 : Int) (a10 : Int) (a11 : Int) (a12 : Int) (a13 : Int) (a14 : (List Int)) : (evF (fun _ _ => Loop) E3 G3 Proofs.Try.f3 plan3 c3 ((),(a0,((a1,(a2,(a3,()))),((a4,(a5,(a6,(a7,(a8,(a9,(a10,(a11,(a12,(a13,(a14,()))))))))))),()))))).den = g3 a0 a1 a2 a3 a4 a5 a6 a7 a8 a9 a10 a11 a12 a13 a14 := by kernel_rfl
end Go.Abs.C04

namespace Sp04
open Go Go.Abs

theorem on_some {α : Type} {b : Bool} {x y : α} (h : on b x = some y) : b = true ∧ x = y := by
  unfold on at h
  cases b with
  | false => cases h
  | true => exact ⟨rfl, Option.some.inj h⟩
theorem on_true {α : Type} {b : Bool} {x : α} (h : b = true) : on b x = some x := by rw [h]; rfl

def bytesOk (l : List Int) : Prop := ∀ x ∈ l, 0 ≤ x ∧ x < 256

theorem bitOf_testBit {x : Int} (h : 0 ≤ x) (j : Nat) : bitOf x j = x.toNat.testBit j := by
  unfold bitOf
  rw [Nat.testBit_eq_decide_div_mod_eq, ← toNat_div_pow h]
  have h2 : 0 ≤ x / 2 ^ j := Int.ediv_nonneg h (Int.le_of_lt (pow2_pos j))
  congr 1
  apply propext
  omega
theorem bitOf_zero (j : Nat) : bitOf 0 j = false := by rw [bitOf_testBit (by omega)]; simp

theorem byte_self : ∀ n : Fin 256, n.val = byteOf (fun j => n.val.testBit (7 - j)) := by decide +kernel
theorem ext_byte {x y : Int} (hx : 0 ≤ x ∧ x < 256) (hy : 0 ≤ y ∧ y < 256) (h : ∀ j, j < 8 → bitOf x j = bitOf y j) : x = y := by
  have k : ∀ j, j < 8 → x.toNat.testBit j = y.toNat.testBit j := fun j hj => by
    rw [← bitOf_testBit hx.1, ← bitOf_testBit hy.1]; exact h j hj
  have e1 := byte_self ⟨x.toNat, by omega⟩
  have e2 := byte_self ⟨y.toNat, by omega⟩
  simp only at e1 e2
  have : x.toNat = y.toNat := by
    rw [e1, e2]
    simp only [byteOf, k 0 (by omega), k 1 (by omega), k 2 (by omega), k 3 (by omega), k 4 (by omega), k 5 (by omega), k 6 (by omega), k 7 (by omega), Nat.sub_self, Nat.sub_zero, Nat.reduceSub]
  omega
theorem byteOf_lt (f : Nat → Bool) : byteOf f < 256 := by
  unfold byteOf
  have (b : Bool) : b.toNat ≤ 1 := by cases b <;> decide
  have h0 := this (f 0); have h1 := this (f 1); have h2 := this (f 2); have h3 := this (f 3)
  have h4 := this (f 4); have h5 := this (f 5); have h6 := this (f 6); have h7 := this (f 7)
  omega
theorem bitOf_byteOf (f : Nat → Bool) (j : Nat) (h : j < 8) : bitOf (byteOf f : Nat) (7 - j) = f j := by
  rw [bitOf_testBit (by omega)]
  have key : ∀ b0 b1 b2 b3 b4 b5 b6 b7 : Bool, ∀ j : Fin 8, (b0.toNat * 128 + b1.toNat * 64 + b2.toNat * 32 + b3.toNat * 16 + b4.toNat * 8 + b5.toNat * 4 + b6.toNat * 2 + b7.toNat).testBit (7 - j.val) =
    (match j with | 0 => b0 | 1 => b1 | 2 => b2 | 3 => b3 | 4 => b4 | 5 => b5 | 6 => b6 | 7 => b7) := by decide +kernel
  have := key (f 0) (f 1) (f 2) (f 3) (f 4) (f 5) (f 6) (f 7) ⟨j, h⟩
  rw [show ((byteOf f : Nat) : Int).toNat = byteOf f from rfl]
  unfold byteOf
  rw [this]
  match j, h with
  | 0, _ => rfl
  | 1, _ => rfl
  | 2, _ => rfl
  | 3, _ => rfl
  | 4, _ => rfl
  | 5, _ => rfl
  | 6, _ => rfl
  | 7, _ => rfl

theorem bitAt_ge {l : List Int} {i : Nat} (h : 8 * l.length ≤ i) : bitAt l i = false := by
  unfold bitAt
  rw [getD_ge (by omega), bitOf_zero]
theorem bitAt_app0 (l : List Int) (i : Nat) : bitAt (l ++ [0]) i = bitAt l i := by
  unfold bitAt
  rw [getD_append0]
theorem bitAt_set {l : List Int} {k : Nat} {v : Int} (h : k < l.length) (i : Nat) : bitAt (l.set k v) i = if k = i / 8 then bitOf v (7 - i % 8) else bitAt l i := by
  unfold bitAt
  rw [getD_set h]
  split <;> rfl
theorem list_ext {l l' : List Int} (hl : l.length = l'.length) (h1 : bytesOk l) (h2 : bytesOk l') (h : ∀ i, i < 8 * l.length → bitAt l i = bitAt l' i) : l = l' := by
  refine List.ext_getElem hl fun i hi hi' => ?_
  refine ext_byte (h1 _ (List.getElem_mem hi)) (h2 _ (List.getElem_mem hi')) fun j hj => ?_
  have := h (8 * i + (7 - j)) (by omega)
  unfold bitAt at this
  have e1 : (8 * i + (7 - j)) / 8 = i := by omega
  have e2 : 7 - (8 * i + (7 - j)) % 8 = j := by omega
  rw [e1, e2] at this
  simpa [List.getD_eq_getElem?_getD, hi, hi'] using this

theorem pack_length (bs : List Bool) : (pack bs).length = (bs.length + 7) / 8 := by simp [pack]
theorem pack_ok (bs : List Bool) : bytesOk (pack bs) := by
  intro x hx
  simp only [pack, List.mem_map] at hx
  obtain ⟨i, _, rfl⟩ := hx
  have := byteOf_lt (fun j => bs.getD (8 * i + j) false)
  omega
theorem bitAt_pack (bs : List Bool) (i : Nat) : bitAt (pack bs) i = bs.getD i false := by
  by_cases h : i / 8 < (bs.length + 7) / 8
  · unfold bitAt
    have : (pack bs).getD (i / 8) 0 = (byteOf fun j => bs.getD (8 * (i / 8) + j) false : Nat) := by
      simp [pack, List.getD_eq_getElem?_getD, List.getElem?_map, List.getElem?_range h]
    rw [this, bitOf_byteOf _ _ (by omega)]
    congr 1
    omega
  · rw [bitAt_ge (by rw [pack_length]; omega), getD_ge (by omega)]

theorem bitsR_length (l : List Int) (i n : Nat) : (bitsR l i n).length = n := by simp [bitsR]
theorem bitsR_getD (l : List Int) (i n j : Nat) : (bitsR l i n).getD j false = if j < n then bitAt l (i + j) else false := by
  by_cases h : j < n
  · simp [bitsR, List.getD_eq_getElem?_getD, h]
  · rw [getD_ge (by rw [bitsR_length]; omega)]; simp [h]
theorem bits_length (s : S) : (bits s).length = s.2.1.toNat := bitsR_length ..
theorem bits_getD (s : S) (j : Nat) : (bits s).getD j false = if j < s.2.1.toNat then bitAt s.1 j else false := by
  unfold bits
  rw [bitsR_getD, Nat.zero_add]
theorem getD_append {α : Type} (a b : List α) (i : Nat) (d : α) : (a ++ b).getD i d = if i < a.length then a.getD i d else b.getD (i - a.length) d := by
  simp only [List.getD_eq_getElem?_getD]
  split
  · rw [List.getElem?_append_left (by assumption)]
  · rw [List.getElem?_append_right (by omega)]
theorem vbits_length (v n : Nat) : (vbits v n).length = n := by simp [vbits]
theorem vbits_getD (v n i : Nat) : (vbits v n).getD i false = if i < n then v.testBit (n - 1 - i) else false := by
  by_cases h : i < n
  · simp [vbits, List.getD_eq_getElem?_getD, h]
  · rw [getD_ge (by rw [vbits_length]; omega)]; simp [h]
theorem bools_ext {a b : List Bool} (h : a.length = b.length) (k : ∀ i, i < a.length → a.getD i false = b.getD i false) : a = b := by
  refine List.ext_getElem h fun i hi hi' => ?_
  have := k i hi
  simpa [List.getD_eq_getElem?_getD, hi, hi'] using this
theorem bits_enc (bs : List Bool) : bits (enc bs) = bs := by
  refine bools_ext (by rw [bits_length]; rfl) fun i hi => ?_
  rw [bits_length] at hi
  rw [bits_getD, if_pos hi]
  exact bitAt_pack bs i

theorem tail_iff {l : List Int} {n : Nat} (h : 8 * l.length < n + 8) : tail l n = true ↔ ∀ i, n ≤ i → bitAt l i = false := by
  simp only [tail, List.all_eq_true, List.mem_range, Bool.or_eq_true, decide_eq_true_eq, Bool.not_eq_true']
  constructor
  · intro k i hi
    by_cases h8 : 8 * l.length ≤ i
    · exact bitAt_ge h8
    · rcases k (i - n) (by omega) with k | k
      · omega
      · rwa [show n + (i - n) = i by omega] at k
  · intro k j _
    exact .inr (k _ (by omega))
theorem shape_iff {s : S} : shape s = true ↔ 0 ≤ s.2.1 ∧ s.2.1 ≤ 8192 ∧ (s.1.length : Int) = (s.2.1 + 7) / 8 := by
  simp [shape, and_assoc]
theorem valid_iff {s : S} : valid s = true ↔ 0 ≤ s.2.1 ∧ s.2.1 ≤ 8192 ∧ (s.1.length : Int) = (s.2.1 + 7) / 8 ∧ ∀ i, s.2.1.toNat ≤ i → bitAt s.1 i = false := by
  unfold valid
  rw [Bool.and_eq_true, shape_iff]
  constructor
  · rintro ⟨⟨h1, h2, h3⟩, h4⟩
    exact ⟨h1, h2, h3, (tail_iff (by omega)).1 h4⟩
  · rintro ⟨h1, h2, h3, h4⟩
    exact ⟨⟨h1, h2, h3⟩, (tail_iff (by omega)).2 h4⟩
theorem valid_enc {bs : List Bool} (h : bs.length ≤ 8192) : valid (enc bs) = true := by
  refine valid_iff.2 ⟨by simp [enc], by simp [enc]; omega, by simp [enc, pack_length], fun i hi => ?_⟩
  show bitAt (pack bs) i = false
  rw [bitAt_pack, getD_ge (by simpa [enc] using hi)]
theorem eq_enc {l : List Int} {n : Int} {bs : List Bool} (h1 : bytesOk l) (hn : n = bs.length) (hl : (l.length : Int) = (n + 7) / 8) (hb : ∀ i, i < 8 * l.length → bitAt l i = bs.getD i false) : ((l, n, ()) : S) = enc bs := by
  have : l = pack bs := list_ext (by rw [pack_length]; omega) h1 (pack_ok bs) fun i hi => by rw [bitAt_pack]; exact hb i hi
  unfold enc
  rw [this, hn]
theorem enc_bits {s : S} (h : valid s = true) (hb : bytesOk s.1) : enc (bits s) = s := by
  obtain ⟨l, n, ⟨⟩⟩ := s
  obtain ⟨h1, h2, h3, h4⟩ := valid_iff.1 h
  simp only at h1 h2 h3 h4 hb
  refine (eq_enc hb (by rw [bits_length]; simp only; omega) h3 fun i _ => ?_).symm
  rw [bits_getD]
  split
  · rfl
  · rename_i k; exact h4 i (by simp only at k; omega)
theorem enc_ok (bs : List Bool) : bytesOk (enc bs).1 := pack_ok bs
theorem bytesOk_app {l m : List Int} (h : bytesOk l) (h2 : bytesOk m) : bytesOk (l ++ m) := fun x hx => by
  rcases List.mem_append.1 hx with k | k
  · exact h x k
  · exact h2 x k
theorem bytesOk_one {x : Int} (h : 0 ≤ x ∧ x < 256) : bytesOk [x] := fun y hy => by
  simp only [List.mem_singleton] at hy; subst hy; exact h
theorem bytesOk_set {l : List Int} (h : bytesOk l) {i : Nat} {x : Int} (hx : 0 ≤ x ∧ x < 256) : bytesOk (l.set i x) := fun y hy => by
  rcases List.mem_or_eq_of_mem_set hy with k | k
  · exact h y k
  · subst k; exact hx
theorem bytesOk_getD {l : List Int} (h : bytesOk l) (i : Nat) : 0 ≤ l.getD i 0 ∧ l.getD i 0 < 256 := by
  by_cases hi : i < l.length
  · exact h _ (getD_mem hi)
  · rw [getD_ge (by omega)]; omega

theorem valOf_snoc (bs : List Bool) (b : Bool) : valOf (bs ++ [b]) = 2 * valOf bs + b.toNat := by simp [valOf]
theorem valOf_lt (bs : List Bool) : valOf bs < 2 ^ bs.length := by
  suffices h : ∀ n (bs : List Bool), bs.length = n → valOf bs < 2 ^ n from h _ bs rfl
  intro n
  induction n with
  | zero => intro bs h; rw [List.length_eq_zero_iff.1 h]; decide
  | succ n ih =>
    intro bs h
    obtain ⟨l, b, rfl⟩ : ∃ l b, bs = l ++ [b] := by
      have hne : bs ≠ [] := by intro k; subst k; simp at h
      exact ⟨bs.dropLast, bs.getLast hne, (List.dropLast_concat_getLast hne).symm⟩
    rw [valOf_snoc]
    have := ih l (by simpa using h)
    have hb : b.toNat ≤ 1 := by cases b <;> decide
    rw [Nat.pow_succ]; omega
theorem vbits_snoc (v n : Nat) : vbits v (n + 1) = vbits (v / 2) n ++ [v.testBit 0] := by
  refine bools_ext (by simp [vbits_length]) fun i hi => ?_
  rw [vbits_length] at hi
  rw [vbits_getD, if_pos hi, getD_append, vbits_length]
  split
  · rename_i k
    rw [vbits_getD, if_pos k, Nat.testBit_div_two]
    congr 1; omega
  · have : i = n := by omega
    subst this
    simp
theorem vbits_valOf (bs : List Bool) : vbits (valOf bs) bs.length = bs := by
  suffices h : ∀ n (bs : List Bool), bs.length = n → vbits (valOf bs) n = bs from h _ bs rfl
  intro n
  induction n with
  | zero => intro bs h; rw [List.length_eq_zero_iff.1 h]; rfl
  | succ n ih =>
    intro bs h
    obtain ⟨l, b, rfl⟩ : ∃ l b, bs = l ++ [b] := by
      have hne : bs ≠ [] := by intro k; subst k; simp at h
      exact ⟨bs.dropLast, bs.getLast hne, (List.dropLast_concat_getLast hne).symm⟩
    rw [vbits_snoc, valOf_snoc]
    have e1 : (2 * valOf l + b.toNat) / 2 = valOf l := by cases b <;> simp <;> omega
    have e2 : (2 * valOf l + b.toNat).testBit 0 = b := by cases b <;> simp [Nat.testBit_zero]
    rw [e1, e2, ih l (by simpa using h)]
theorem valOf_vbits (v n : Nat) (h : v < 2 ^ n) : valOf (vbits v n) = v := by
  induction n generalizing v with
  | zero => have : v = 0 := by simpa using h
            subst this; rfl
  | succ n ih =>
    rw [vbits_snoc, valOf_snoc, ih (v / 2) (by rw [Nat.pow_succ] at h; omega), Nat.testBit_zero]
    by_cases hv : v % 2 = 1 <;> simp [hv] <;> omega
theorem bitsR_snoc (l : List Int) (i n : Nat) : bitsR l i (n + 1) = bitsR l i n ++ [bitAt l (i + n)] := by
  simp [bitsR, List.range_succ]
theorem bitsR_add (l : List Int) (i n m : Nat) : bitsR l i (n + m) = bitsR l i n ++ bitsR l (i + n) m := by
  simp [bitsR, List.range_add, Nat.add_assoc]
theorem vbits_split {v n k : Nat} (h : k ≤ n) : vbits v n = (vbits v n).take k ++ vbits v (n - k) := by
  refine bools_ext (by simp [vbits_length]; omega) fun i hi => ?_
  rw [vbits_length] at hi
  rw [vbits_getD, if_pos hi, getD_append]
  simp only [List.length_take, vbits_length]
  rw [Nat.min_eq_left h]
  split
  · rename_i hk
    simp [List.getD_eq_getElem?_getD, List.getElem?_take, hk]
    have := vbits_getD v n i
    rw [if_pos hi, List.getD_eq_getElem?_getD] at this
    exact this.symm
  · rw [vbits_getD, if_pos (by omega)]
    congr 1; omega
end Sp04

namespace Go.Abs.C04
open Go Go.Proofs Sp04

abbrev B : Env := mkE tab gl 0 false []
theorem glue {f : Nat} {fn : Func} {n : Nat} {hp : Bool} {md : List (Nat × Nat)} (L : List (Nat × Con)) (hL : ∀ g con, lookC L g = some con → FunOk Try.prog B (g % 1000000) con) (plan : Plan) {c : Con}
    (hf : Try.prog.funcs[f]? = some fn) (hck : fnCheck (mkE tab gl n hp md) fn c = true)
    (hF : ∀ x y, (Ty.cons (lfTy c.pre) (shTy c.ps)).ok x → c.F x = some y → (evF (fun _ _ => Loop) (mkE tab gl n hp md) (lookC L) fn plan c x).den = some y) : FunOk Try.prog B f c :=
  FunOk.env (E := mkE tab gl n hp md) rfl (fun_ok (pok n hp md) mix (fun g con h => FunOk.env (E := B) rfl (hL g con h)) plan hf hck hF)

theorem dat {l : List Int} (h : (Ty.sl (.int .u8)).ok l) : l.length ≤ 140737488355328 ∧ bytesOk l := by
  obtain ⟨h1, h2⟩ := h
  have h1 : l.length * 1 ≤ 140737488355328 := h1
  exact ⟨by omega, fun x hx => has_u8 (h2 x hx)⟩

theorem g106_ok (a0 : Int) (r0 : IntKind.i64.has a0) (h : (decide (0 ≤ a0) && decide (a0 ≤ 1099511627776)) = true) : g106 a0 = some ((a0 + 7) / 8, ()) := by
  simp only [Bool.and_eq_true, decide_eq_true_eq] at h
  have e1 : IntKind.wrap .i64 (a0 + 7) = a0 + 7 := wi64 (by omega) (by omega)
  have e2 : Int.tdiv (a0 + 7) 8 = (a0 + 7) / 8 := tdiv_nn (by omega)
  have e3 : IntKind.wrap .i64 ((a0 + 7) / 8) = (a0 + 7) / 8 := wi64 (by omega) (by omega)
  unfold g106
  rw [e1, e2, e3]

theorem and_bit {w : Nat} (hw : 8 ≤ w) {x : Int} (h1 : 0 ≤ x) (h2 : x < 256) (m : Nat) : (BitVec.and (BitVec.ofInt w (x / 2 ^ m)) (BitVec.ofInt w 1)).toNat = (b2i (bitOf x m)).toNat := by
  have k1 : 0 ≤ x / 2 ^ m := Int.ediv_nonneg h1 (Int.le_of_lt (pow2_pos m))
  have k2 : x / 2 ^ m ≤ x := Int.ediv_le_self _ h1
  have k3 : (256 : Int) ≤ 2 ^ w := by
    rw [pow_cast]
    have := Nat.pow_le_pow_right (show 0 < 2 by omega) hw
    omega
  rw [bvand k1 (by omega) (by omega) (by omega), show Int.toNat 1 = 1 from rfl, Nat.and_one_is_mod]
  unfold bitOf b2i
  have : (x / 2 ^ m) % 2 = 0 ∨ (x / 2 ^ m) % 2 = 1 := by omega
  rcases this with k | k
  · simp only [k]
    have : (x / 2 ^ m).toNat % 2 = 0 := by omega
    rw [this]; rfl
  · simp only [k]
    have : (x / 2 ^ m).toNat % 2 = 1 := by omega
    rw [this]; rfl
theorem b2i_u64 (b : Bool) : IntKind.wrap .u64 (((b2i b).toNat : Nat) : Int) = b2i b := by cases b <;> decide
theorem b2i_u8 (b : Bool) : IntKind.wrap .u8 (((b2i b).toNat : Nat) : Int) = (((b2i b).toNat : Nat) : Int) := by cases b <;> decide
theorem b2i_bound (b : Bool) : 0 ≤ b2i b ∧ b2i b ≤ 1 := by cases b <;> decide

theorem g103_ok (a0 : (List Int)) (a1 : Int) (r0 : (Ty.sl (.int .u8)).ok a0) (r1 : IntKind.i64.has a1) (h : (decide (0 ≤ a1) && decide (a1 < 8 * (a0.length : Int))) = true) : g103 a0 a1 = some (Sp04.b2i (Sp04.bitAt a0 a1.toNat), ()) := by
  simp only [Bool.and_eq_true, decide_eq_true_eq] at h
  obtain ⟨hl, hb⟩ := dat r0
  have e1 : Int.tdiv a1 8 = a1 / 8 := tdiv_nn h.1
  have e2 : Int.tmod a1 8 = a1 % 8 := tmod_nn h.1
  have e3 : IntKind.wrap .i64 (a1 / 8) = a1 / 8 := wi64 (by omega) (by omega)
  have e4 : IntKind.wrap .i64 (7 - a1 % 8) = 7 - a1 % 8 := wi64 (by omega) (by omega)
  have e5 : IntKind.wrap .u64 (7 - a1 % 8) = 7 - a1 % 8 := wu64 (by omega) (by omega)
  have e6 : min (7 - a1 % 8).toNat 8 = (7 - a1 % 8).toNat := by omega
  have hx := bytesOk_getD hb (a1 / 8).toNat
  have k2 : a0.getD (a1 / 8).toNat 0 / 2 ^ (7 - a1 % 8).toNat ≤ a0.getD (a1 / 8).toNat 0 := Int.ediv_le_self _ hx.1
  have k1 : 0 ≤ a0.getD (a1 / 8).toNat 0 / 2 ^ (7 - a1 % 8).toNat := Int.ediv_nonneg hx.1 (Int.le_of_lt (pow2_pos _))
  have e7 : IntKind.wrap .u64 (a0.getD (a1 / 8).toNat 0 / 2 ^ (7 - a1 % 8).toNat) = a0.getD (a1 / 8).toNat 0 / 2 ^ (7 - a1 % 8).toNat := wu64 k1 (by omega)
  have e8 := and_bit (w := 64) (by omega) hx.1 hx.2 (7 - a1 % 8).toNat
  have c1 : (0 : Int) ≤ a1 / 8 := by omega
  have c2 : a1 / 8 < (a0.length : Int) := by omega
  have c3 : (0 : Int) ≤ 7 - a1 % 8 := by omega
  unfold g103
  simp only [e1, e2, e3, e4, e5, e6, pow2, fdiv_pow, e7, e8, b2i_u64, c1, c2, c3, decide_true, cond_true, Bool.and_self, Int.ofNat_eq_natCast]
  unfold bitAt
  rw [show (a1 / 8).toNat = a1.toNat / 8 by omega, show (7 - a1 % 8).toNat = 7 - a1.toNat % 8 by omega]

theorem g100_ok (a0 : (List Int)) (a1 : Int) (a2 : Int) (r0 : (Ty.sl (.int .u8)).ok a0) (r1 : IntKind.i64.has a1) (r2 : IntKind.i64.has a2) (h : (decide (0 ≤ a2) && decide (a2 < 8 * (a0.length : Int))) = true) : g100 a0 a1 a2 = some (Sp04.b2i (Sp04.bitAt a0 a2.toNat), ()) := by
  simp only [Bool.and_eq_true, decide_eq_true_eq] at h
  obtain ⟨hl, hb⟩ := dat r0
  have e1 : Int.tdiv a2 8 = a2 / 8 := tdiv_nn h.1
  have e2 : Int.tmod a2 8 = a2 % 8 := tmod_nn h.1
  have e3 : IntKind.wrap .i64 (a2 / 8) = a2 / 8 := wi64 (by omega) (by omega)
  have e4 : IntKind.wrap .i64 (7 - a2 % 8) = 7 - a2 % 8 := wi64 (by omega) (by omega)
  have e6 : min (7 - a2 % 8).toNat 8 = (7 - a2 % 8).toNat := by omega
  have hx := bytesOk_getD hb (a2 / 8).toNat
  have e8 := and_bit (w := 8) (by omega) hx.1 hx.2 (7 - a2 % 8).toNat
  have c1 : (0 : Int) ≤ a2 / 8 := by omega
  have c2 : a2 / 8 < (a0.length : Int) := by omega
  have c3 : (0 : Int) ≤ 7 - a2 % 8 := by omega
  unfold g100
  simp only [e1, e2, e3, e4, e6, pow2, fdiv_pow, e8, b2i_u8, b2i_u64, c1, c2, c3, decide_true, cond_true, Bool.and_self, Int.ofNat_eq_natCast]
  unfold bitAt
  rw [show (a2 / 8).toNat = a2.toNat / 8 by omega, show (7 - a2 % 8).toNat = 7 - a2.toNat % 8 by omega]
end Go.Abs.C04

namespace Go.Abs.C04
open Go Go.Proofs Sp04

theorem valid_neg {l : List Int} {n : Int} (h : n < 0 ∨ 8192 < n ∨ (l.length : Int) ≠ (n + 7) / 8) : valid (l, n, ()) = false := by
  rw [Bool.eq_false_iff]
  intro k
  obtain ⟨h1, h2, h3, _⟩ := valid_iff.1 k
  simp only at h1 h2 h3
  omega
theorem shl_zero : ∀ x : Fin 256, ∀ f : Fin 8, 0 < f.val → ((x.val * 2 ^ (8 - f.val)) % 256 = 0 ↔ ∀ j : Fin 8, j.val < f.val → x.val.testBit j.val = false) := by decide +kernel
theorem tail_last {l : List Int} {n : Nat} (h1 : n ≤ 8 * l.length) (h2 : 8 * l.length < n + 8) : (∀ i, n ≤ i → bitAt l i = false) ↔ ∀ j, j < 8 * l.length - n → bitOf (l.getD (l.length - 1) 0) j = false := by
  constructor
  · intro k j hj
    have := k (8 * (l.length - 1) + (7 - j)) (by omega)
    unfold bitAt at this
    rwa [show (8 * (l.length - 1) + (7 - j)) / 8 = l.length - 1 by omega, show 7 - (8 * (l.length - 1) + (7 - j)) % 8 = j by omega] at this
  · intro k i hi
    by_cases h8 : 8 * l.length ≤ i
    · exact bitAt_ge h8
    · have := k (7 - i % 8) (by omega)
      unfold bitAt
      rwa [show i / 8 = l.length - 1 by omega]

theorem g97_ok (a0 : (List Int)) (a1 : Int) (r0 : (Ty.sl (.int .u8)).ok a0) (r1 : IntKind.i64.has a1) : g97 a0 a1 = some (Sp04.valid (a0, a1, ()), ()) := by
  obtain ⟨hl, hb⟩ := dat r0
  unfold g97
  by_cases h1 : a1 < 0
  · simp [h1, valid_neg (l := a0) (.inl h1)]
  by_cases h2 : 8192 < a1
  · simp [h1, h2, valid_neg (l := a0) (.inr (.inl h2)), GT.gt]
  have e0 : on (decide (0 ≤ a1) && decide (a1 ≤ 1099511627776)) (Int.ediv (a1 + 7) 8, ()) = some ((a1 + 7) / 8, ()) := on_true (by simp; omega)
  simp only [GT.gt, h1, h2, decide_false, decide_true, Bool.not_false, cond_true, e0, Option.bind_some, Int.ofNat_eq_natCast]
  by_cases h3 : (a0.length : Int) = (a1 + 7) / 8
  · simp only [h3, decide_true, Bool.not_true, cond_false]
    have e1 : IntKind.wrap .i64 (8 * ((a1 + 7) / 8)) = 8 * (a0.length : Int) := by rw [← h3]; exact wi64 (by omega) (by omega)
    have e2 : IntKind.wrap .i64 (8 * (a0.length : Int) - a1) = 8 * (a0.length : Int) - a1 := wi64 (by omega) (by omega)
    have hv : valid (a0, a1, ()) = true ↔ ∀ i, a1.toNat ≤ i → bitAt a0 i = false := by
      rw [valid_iff]
      exact ⟨fun k => k.2.2.2, fun k => ⟨by simp only; omega, by simp only; omega, h3, k⟩⟩
    simp only [e1, e2]
    by_cases h4 : 8 * (a0.length : Int) - a1 = 0
    · have : valid (a0, a1, ()) = true := hv.2 fun i hi => bitAt_ge (by omega)
      simp [h4, this]
    · have e3 : IntKind.wrap .i64 ((a1 + 7) / 8 - 1) = (a0.length : Int) - 1 := by rw [← h3]; exact wi64 (by omega) (by omega)
      have e4 : IntKind.wrap .i64 (8 - (8 * (a0.length : Int) - a1)) = 8 - (8 * (a0.length : Int) - a1) := wi64 (by omega) (by omega)
      have c1 : (0 : Int) ≤ (a0.length : Int) - 1 := by omega
      have c2 : (a0.length : Int) - 1 < (a1 + 7) / 8 := by omega
      have c3 : (0 : Int) ≤ 8 - (8 * (a0.length : Int) - a1) := by omega
      have e5 : min (8 - (8 * (a0.length : Int) - a1)).toNat 8 = 8 - (8 * a0.length - a1.toNat) := by omega
      simp only [h4, decide_false, Bool.not_false, cond_true, e3, e4, c1, c2, c3, decide_true, Bool.and_self, e5, pow2, wu8m, Option.bind_some]
      congr 2
      rw [tail_last (by omega) (by omega)] at hv
      have hx := bytesOk_getD hb (a0.length - 1)
      have key := shl_zero ⟨(a0.getD (a0.length - 1) 0).toNat, by omega⟩ ⟨8 * a0.length - a1.toNat, by omega⟩ (by simp only; omega)
      simp only at key
      have e6 : ((a0.length : Int) - 1).toNat = a0.length - 1 := by omega
      rw [e6]
      have e7 : (a0.getD (a0.length - 1) 0 * 2 ^ (8 - (8 * a0.length - a1.toNat)) % 256 = 0) ↔ ((a0.getD (a0.length - 1) 0).toNat * 2 ^ (8 - (8 * a0.length - a1.toNat)) % 256 = 0) := by
        rw [← toNat_mul_pow hx.1]
        have : 0 ≤ a0.getD (a0.length - 1) 0 * 2 ^ (8 - (8 * a0.length - a1.toNat)) := Int.mul_nonneg hx.1 (Int.le_of_lt (pow2_pos _))
        omega
      have : (a0.getD (a0.length - 1) 0 * 2 ^ (8 - (8 * a0.length - a1.toNat)) % 256 = 0) ↔ valid (a0, a1, ()) = true := by
        rw [e7, key, hv]
        constructor
        · intro k j hj
          rw [bitOf_testBit hx.1]
          exact k ⟨j, by omega⟩ hj
        · intro k j hj
          rw [← bitOf_testBit hx.1]
          exact k j.val hj
      by_cases hvv : valid (a0, a1, ()) = true
      · rw [hvv]; exact decide_eq_true (this.2 hvv)
      · rw [Bool.not_eq_true] at hvv
        rw [hvv]; exact decide_eq_false fun k => by rw [this.1 k] at hvv; cases hvv
  · simp [h3, valid_neg (l := a0) (.inr (.inr h3))]

open Classical in
theorem g101_loop (a0 : List Int) (a1 : Int) (h1 : 0 ≤ a1) (h2 : a1 ≤ 8 * (a0.length : Int)) (hl : a0.length ≤ 140737488355328) :
    Loop (g101_s0 a0) (a1, ()) = some (if ∀ k, a1.toNat ≤ k → bitAt a0 k = false then (false, (false, ()), ()) else (true, (false, ()), ())) := by
  refine Loop_inv (fun v : Int × Unit => 0 ≤ v.1 ∧ v.1 ≤ 8 * (a0.length : Int)) (fun v : Int × Unit => (8 * (a0.length : Int) - v.1).toNat)
    (fun v : Int × Unit => if ∀ k, v.1.toNat ≤ k → bitAt a0 k = false then (false, (false, ()), ()) else (true, (false, ()), ())) ?_ (v := (a1, ())) ⟨h1, h2⟩
  rintro ⟨i, ⟨⟩⟩ ⟨k1, k2⟩
  simp only at k1 k2
  have e1 : IntKind.wrap .i64 (8 * (a0.length : Int)) = 8 * (a0.length : Int) := wi64 (by omega) (by omega)
  have e2 : IntKind.wrap .i64 (i + 1) = i + 1 := wi64 (by omega) (by omega)
  unfold g101_s0
  simp only [Int.ofNat_eq_natCast, e1, e2]
  by_cases h3 : i < 8 * (a0.length : Int)
  · have e0 : on (decide (0 ≤ i) && decide (i < 8 * (a0.length : Int))) (b2i (bitAt a0 i.toNat), ()) = some (b2i (bitAt a0 i.toNat), ()) := on_true (by simp [k1, h3])
    simp only [h3, k1, decide_true, cond_true, Bool.and_self, on_true, Option.bind_some]
    cases hbit : bitAt a0 i.toNat with
    | true =>
      left
      have : ¬ ∀ k, i.toNat ≤ k → bitAt a0 k = false := fun k => by rw [k i.toNat (Nat.le_refl _)] at hbit; cases hbit
      rw [if_neg this]
      rfl
    | false =>
      right
      refine ⟨(i + 1, ()), rfl, ⟨by simp only; omega, by simp only; omega⟩, by simp only; omega, ?_⟩
      have : (∀ k, (i + 1).toNat ≤ k → bitAt a0 k = false) ↔ (∀ k, i.toNat ≤ k → bitAt a0 k = false) := by
        constructor
        · intro k j hj
          by_cases h : j = i.toNat
          · subst h; exact hbit
          · exact k j (by omega)
        · intro k j hj; exact k j (by omega)
      simp only [this]
  · left
    have : ∀ k, i.toNat ≤ k → bitAt a0 k = false := fun k hk => bitAt_ge (by omega)
    simp only [h3, decide_false, cond_false, if_pos this]

theorem g101_ok (a0 : (List Int)) (a1 : Int) (r0 : (Ty.sl (.int .u8)).ok a0) (r1 : IntKind.i64.has a1) : g101 a0 a1 = some (Sp04.valid (a0, a1, ()), ()) := by
  obtain ⟨hl, hb⟩ := dat r0
  unfold g101
  by_cases h1 : a1 < 0
  · simp [h1, valid_neg (l := a0) (.inl h1)]
  by_cases h2 : 8192 < a1
  · simp [h1, h2, valid_neg (l := a0) (.inr (.inl h2)), GT.gt]
  have e1 : IntKind.wrap .i64 (a1 + 7) = a1 + 7 := wi64 (by omega) (by omega)
  have e2 : Int.tdiv (a1 + 7) 8 = (a1 + 7) / 8 := tdiv_nn (by omega)
  have e3 : IntKind.wrap .i64 ((a1 + 7) / 8) = (a1 + 7) / 8 := wi64 (by omega) (by omega)
  simp only [GT.gt, h1, h2, decide_false, Bool.not_false, cond_true, e1, e2, e3, Option.bind_some, Int.ofNat_eq_natCast]
  by_cases h3 : (a0.length : Int) = (a1 + 7) / 8
  · have hv : valid (a0, a1, ()) = true ↔ ∀ i, a1.toNat ≤ i → bitAt a0 i = false := by
      rw [valid_iff]
      exact ⟨fun k => k.2.2.2, fun k => ⟨by simp only; omega, by simp only; omega, h3, k⟩⟩
    rw [g101_loop a0 a1 (by omega) (by omega) hl]
    simp only [h3, decide_true, Bool.not_true, cond_false, Option.bind_some]
    by_cases h4 : ∀ i, a1.toNat ≤ i → bitAt a0 i = false
    · rw [if_pos h4, hv.2 h4]; rfl
    · have : valid (a0, a1, ()) = false := by rw [Bool.eq_false_iff]; exact fun k => h4 (hv.1 k)
      rw [if_neg h4, this]; rfl
  · simp [h3, valid_neg (l := a0) (.inr (.inr h3))]

theorem or_byte {x y : Int} (h1 : 0 ≤ x) (h2 : x < 256) (h3 : 0 ≤ y) (h4 : y < 256) : IntKind.wrap .u8 ((BitVec.or (BitVec.ofInt 8 x) (BitVec.ofInt 8 y)).toNat : Int) = ((x.toNat ||| y.toNat : Nat) : Int) ∧ x.toNat ||| y.toNat < 256 := by
  have k : x.toNat ||| y.toNat < 2 ^ 8 := Nat.or_lt_two_pow (by omega) (by omega)
  rw [bvor h1 (by omega) h3 (by omega)]
  exact ⟨wu8 (by omega) (by omega), k⟩
theorem bitOf_or {x y : Int} (h1 : 0 ≤ x) (h3 : 0 ≤ y) (j : Nat) : bitOf ((x.toNat ||| y.toNat : Nat) : Int) j = (bitOf x j || bitOf y j) := by
  rw [bitOf_testBit (by omega), bitOf_testBit h1, bitOf_testBit h3, Int.toNat_natCast, Nat.testBit_or]
theorem bitOf_pow (m j : Nat) : bitOf (2 ^ m) j = decide (m = j) := by
  rw [bitOf_testBit (Int.le_of_lt (pow2_pos _)), pow_cast, Int.toNat_natCast, Nat.testBit_two_pow]

theorem g102_ok (a0 : (List Int)) (a1 : Int) (a2 : Int) (r0 : (Ty.sl (.int .u8)).ok a0) (r1 : IntKind.i64.has a1) (r2 : IntKind.u64.has a2) (h : (Sp04.valid (a0, a1, ())) = true) : g102 a0 a1 a2 = some (Sp04.enc (Sp04.bits (a0, a1, ()) ++ [decide (a2 = 1)]), ()) := by
  obtain ⟨hl, hb⟩ := dat r0
  obtain ⟨v1, v2, v3, v4⟩ := valid_iff.1 h
  simp only at v1 v2 v3 v4
  have e1 : Int.tdiv a1 8 = a1 / 8 := tdiv_nn v1
  have e2 : Int.tmod a1 8 = a1 % 8 := tmod_nn v1
  have e3 : IntKind.wrap .i64 (a1 / 8) = a1 / 8 := wi64 (by omega) (by omega)
  have e4 : IntKind.wrap .i64 (7 - a1 % 8) = 7 - a1 % 8 := wi64 (by omega) (by omega)
  have e5 : IntKind.wrap .u64 (7 - a1 % 8) = 7 - a1 % 8 := wu64 (by omega) (by omega)
  have e6 : min (7 - a1 % 8).toNat 8 = (7 - a1 % 8).toNat := by omega
  have e7 : IntKind.wrap .i64 (a1 + 1) = a1 + 1 := wi64 (by omega) (by omega)
  have p1 : (2 : Int) ^ (7 - a1 % 8).toNat < 256 := by
    have : (2 : Nat) ^ (7 - a1 % 8).toNat < 2 ^ 8 := Nat.pow_lt_pow_right (by omega) (by omega)
    rw [pow_cast]; omega
  have p0 := pow2_pos (7 - a1 % 8).toNat
  have e8 : IntKind.wrap .u8 (1 * 2 ^ (7 - a1 % 8).toNat) = 2 ^ (7 - a1 % 8).toNat := by rw [Int.one_mul]; exact wu8 (by omega) p1
  unfold g102
  rw [ble_t (by omega : (0 + a0.length) * 1 ≤ 140737488355328), cond_true]
  obtain ⟨l1, hX, l2, l3, l4⟩ : ∃ l1, (bif decide (Int.tmod a1 8 = 0) then (bif Nat.ble ((([] ++ a0).length + 1) * 1) 140737488355328 then some (([] ++ a0) ++ ((0 : Int) :: []), ()) else none) else some ([] ++ a0, ())) = some (l1, ()) ∧
      l1.length = (a1 / 8).toNat + 1 ∧ bytesOk l1 ∧ ∀ i, bitAt l1 i = bitAt a0 i := by
    rw [e2, List.nil_append, ble_t (by omega : (a0.length + 1) * 1 ≤ 140737488355328)]
    by_cases h8 : a1 % 8 = 0
    · exact ⟨a0 ++ [0], by simp [h8], by simp; omega, bytesOk_app hb (bytesOk_one (by omega)), bitAt_app0 a0⟩
    · exact ⟨a0, by simp [h8], by omega, hb, fun _ => rfl⟩
  rw [hX, Option.bind_some]
  have c1 : (0 : Int) ≤ a1 / 8 := by omega
  have c2 : a1 / 8 < (l1.length : Int) := by omega
  have c3 : (0 : Int) ≤ 7 - a1 % 8 := by omega
  have c4 : Nat.blt (a1 / 8).toNat l1.length = true := blt_t (by omega)
  have hx := bytesOk_getD l3 (a1 / 8).toNat
  obtain ⟨o1, o2⟩ := or_byte hx.1 hx.2 (Int.le_of_lt p0) p1
  simp only [e1, e2, e3, e4, e5, e6, e7, e8, pow2, c1, c2, c3, c4, decide_true, cond_true, Bool.and_self, Int.ofNat_eq_natCast, o1]
  have h0 : ∀ i, (Sp04.bits (a0, a1, ()) ++ [decide (a2 = 1)]).getD i false = if i < a1.toNat then bitAt a0 i else (decide (i = a1.toNat) && decide (a2 = 1)) := by
    intro i
    rw [getD_append, bits_length, bits_getD]
    simp only
    split
    · rfl
    · by_cases hi : i = a1.toNat
      · subst hi; simp
      · rw [getD_ge (by simp; omega)]; simp [hi]
  by_cases h1 : a2 = 1
  · simp only [h1, decide_true, cond_true, Option.bind_some]
    congr 2
    refine eq_enc (bytesOk_set l3 (by omega)) (by simp [bits_length]; omega) (by simp [l2]; omega) fun i hi => ?_
    rw [List.length_set] at hi
    rw [bitAt_set (by omega), bitOf_or hx.1 (Int.le_of_lt p0), bitOf_pow]
    have := h0 i
    rw [h1] at this
    simp only [decide_true, Bool.and_true] at this
    rw [this]
    by_cases hi1 : (a1 / 8).toNat = i / 8
    · rw [if_pos hi1]
      have hb1 : bitOf (l1.getD (a1 / 8).toNat 0) (7 - i % 8) = bitAt a0 i := by
        rw [← l4 i]; unfold bitAt; rw [hi1]
      rw [hb1]
      by_cases hi2 : i < a1.toNat
      · rw [if_pos hi2]
        have : ¬ (7 - a1 % 8).toNat = 7 - i % 8 := by omega
        simp [this]
      · rw [if_neg hi2, v4 i (by omega), Bool.false_or]
        congr 1; apply propext; omega
    · rw [if_neg hi1, l4]
      by_cases hi2 : i < a1.toNat
      · rw [if_pos hi2]
      · rw [if_neg hi2, v4 i (by omega)]
        symm; exact decide_eq_false (by omega)
  · simp only [h1, decide_false, cond_false, Option.bind_some]
    congr 2
    refine eq_enc l3 (by simp [bits_length]; omega) (by rw [l2]; omega) fun i hi => ?_
    have := h0 i
    simp only [h1, decide_false, Bool.and_false] at this
    rw [this, l4]
    by_cases hi2 : i < a1.toNat
    · rw [if_pos hi2]
    · rw [if_neg hi2, v4 i (by omega)]

theorem g98_ok (a0 : (List Int)) (a1 : Int) (r0 : (Ty.sl (.int .u8)).ok a0) (r1 : IntKind.i64.has a1) : g98 a0 a1 = some ((a0, a1, ()), ()) := by
  obtain ⟨hl, hb⟩ := dat r0
  unfold g98
  rw [ble_t (by omega), cond_true]
end Go.Abs.C04

namespace Go.Abs.C04
open Go Go.Proofs Sp04

theorem bitOf_mulpow {p : Nat} (m j : Nat) : bitOf ((p : Int) * 2 ^ m) j = (decide (m ≤ j) && p.testBit (j - m)) := by
  have h : 0 ≤ (p : Int) * 2 ^ m := Int.mul_nonneg (by omega) (Int.le_of_lt (pow2_pos m))
  rw [bitOf_testBit h, toNat_mul_pow (by omega), Int.toNat_natCast, Nat.testBit_mul_two_pow]

theorem chunk {l1 : List Int} {n b k f V : Nat} {bs : List Bool} (h1 : bytesOk l1) (hlen : 8 * l1.length = b + f) (hf : f ≤ 8) (hk : k ≤ f) (hn : k ≤ n) (hl : 0 < l1.length) (hbs : bs.length = b)
    (hb : ∀ i, bitAt l1 i = bs.getD i false) (hk8 : 0 < k) :
    ((l1.set (l1.length - 1) (((l1.getD (l1.length - 1) 0).toNat ||| ((((V / 2 ^ (n - k)) % 2 ^ k : Nat) : Int) * 2 ^ (f - k)).toNat : Nat) : Int), ((b + k : Nat) : Int), ()) : S) = Sp04.enc (bs ++ (vbits V n).take k) := by
  have hx := bytesOk_getD h1 (l1.length - 1)
  have hp : (V / 2 ^ (n - k)) % 2 ^ k < 2 ^ k := Nat.mod_lt _ (Nat.pos_of_ne_zero (by have := Nat.two_pow_pos k; omega))
  have hp2 : (V / 2 ^ (n - k)) % 2 ^ k * 2 ^ (f - k) < 2 ^ f := by
    have : 2 ^ f = 2 ^ k * 2 ^ (f - k) := by rw [← Nat.pow_add]; congr 1; omega
    rw [this]
    exact Nat.mul_lt_mul_of_pos_right hp (Nat.two_pow_pos _)
  have hf8 : 2 ^ f ≤ 2 ^ 8 := Nat.pow_le_pow_right (by omega) hf
  have hy0 : 0 ≤ (((V / 2 ^ (n - k)) % 2 ^ k : Nat) : Int) * 2 ^ (f - k) := Int.mul_nonneg (by omega) (Int.le_of_lt (pow2_pos _))
  have hyN : ((((V / 2 ^ (n - k)) % 2 ^ k : Nat) : Int) * 2 ^ (f - k)).toNat = (V / 2 ^ (n - k)) % 2 ^ k * 2 ^ (f - k) := by
    rw [toNat_mul_pow (by omega), Int.toNat_natCast]
  have hor : (l1.getD (l1.length - 1) 0).toNat ||| ((((V / 2 ^ (n - k)) % 2 ^ k : Nat) : Int) * 2 ^ (f - k)).toNat < 2 ^ 8 := Nat.or_lt_two_pow (by omega) (by rw [hyN]; omega)
  refine eq_enc (bytesOk_set h1 (by omega)) (by simp [hbs, vbits_length]; omega) (by simp; omega) fun i hi => ?_
  rw [List.length_set] at hi
  rw [bitAt_set (by omega), bitOf_or hx.1 hy0, bitOf_mulpow, getD_append, hbs]
  by_cases hi1 : l1.length - 1 = i / 8
  · rw [if_pos hi1]
    have hb1 : bitOf (l1.getD (l1.length - 1) 0) (7 - i % 8) = bs.getD i false := by
      rw [← hb i]; unfold bitAt; rw [hi1]
    rw [hb1]
    by_cases hi2 : i < b
    · rw [if_pos hi2]
      have : ((V / 2 ^ (n - k)) % 2 ^ k).testBit (7 - i % 8 - (f - k)) = false := by
        rw [Nat.testBit_mod_two_pow]
        have : ¬ 7 - i % 8 - (f - k) < k := by omega
        simp [this]
      rw [this, Bool.and_false, Bool.or_false]
    · rw [if_neg hi2, getD_ge (by omega : bs.length ≤ i), Bool.false_or]
      have hv := vbits_getD V n (i - b)
      by_cases hi3 : i - b < k
      · rw [if_pos (by omega)] at hv
        have ht : ((vbits V n).take k).getD (i - b) false = (vbits V n).getD (i - b) false := by
          simp [List.getD_eq_getElem?_getD, List.getElem?_take, hi3]
        rw [ht, hv, Nat.testBit_mod_two_pow, Nat.testBit_div_two_pow]
        have c1 : f - k ≤ 7 - i % 8 := by omega
        have c2 : 7 - i % 8 - (f - k) < k := by omega
        simp only [c1, c2, decide_true, Bool.true_and]
        congr 1; omega
      · have ht : ((vbits V n).take k).getD (i - b) false = false := getD_ge (by simp [vbits_length]; omega)
        rw [ht]
        have : ¬ f - k ≤ 7 - i % 8 := by omega
        simp [this]
  · rw [if_neg hi1, hb]
    rw [if_pos (by omega)]

theorem and_mask {V : Int} {n k : Nat} (h1 : 0 ≤ V) (h2 : V < 18446744073709551616) (hk : k ≤ 8) :
    (BitVec.and (BitVec.ofInt 64 (V / 2 ^ n)) (BitVec.ofInt 64 (IntKind.wrap .u64 (IntKind.wrap .u64 (1 * 2 ^ k) - 1)))).toNat = (V.toNat / 2 ^ n) % 2 ^ k := by
  have k1 : 0 ≤ V / 2 ^ n := Int.ediv_nonneg h1 (Int.le_of_lt (pow2_pos n))
  have k2 : V / 2 ^ n ≤ V := Int.ediv_le_self _ h1
  have p0 := pow2_pos k
  have p1 : (2 : Int) ^ k ≤ 256 := by
    have : (2 : Nat) ^ k ≤ 2 ^ 8 := Nat.pow_le_pow_right (by omega) hk
    rw [pow_cast]; omega
  rw [Int.one_mul, wu64 (n := 2 ^ k) (by omega) (by omega), wu64 (by omega) (by omega), bvand k1 (by omega) (by omega) (by omega), toNat_div_pow h1]
  have : ((2 : Int) ^ k - 1).toNat = 2 ^ k - 1 := by rw [pow_cast]; omega
  rw [this, Nat.and_two_pow_sub_one_eq_mod]

theorem g99_step (V : Int) (l : List Int) (b n : Int) (hv0 : 0 ≤ V) (hv1 : V < 18446744073709551616) (hb : bytesOk l) (hv : valid (l, b, ()) = true) (hn : 0 < n) (hn2 : n ≤ 64) (hbn : b + n ≤ 8192) :
    ∃ k : Nat, 0 < k ∧ k ≤ n.toNat ∧ g99_s0 V ((l, b, ()), n, ()) = some (.inl (Sp04.enc (Sp04.bits (l, b, ()) ++ (vbits V.toNat n.toNat).take k), n - k, ())) := by
  obtain ⟨v1, v2, v3, v4⟩ := valid_iff.1 hv
  simp only at v1 v2 v3 v4
  have e1 : IntKind.wrap .i64 (8 * (l.length : Int)) = 8 * (l.length : Int) := wi64 (by omega) (by omega)
  have e2 : IntKind.wrap .i64 (8 * (l.length : Int) - b) = 8 * (l.length : Int) - b := wi64 (by omega) (by omega)
  unfold g99_s0
  simp only [GT.gt, hn, decide_true, cond_true, Int.ofNat_eq_natCast, e1, e2]
  obtain ⟨l1, f, hX, l2, l3, l4, f1, f2⟩ : ∃ (l1 : List Int) (f : Nat), (bif decide (8 * (l.length : Int) - b = 0) then (bif Nat.ble ((l.length + 1) * 1) 140737488355328 then some ((l ++ ((0 : Int) :: []), b, ()), (8 : Int), ()) else none) else some ((l, b, ()), 8 * (l.length : Int) - b, ())) = some ((l1, b, ()), (f : Int), ()) ∧
      8 * l1.length = b.toNat + f ∧ bytesOk l1 ∧ (∀ i, bitAt l1 i = bitAt l i) ∧ 0 < f ∧ f ≤ 8 := by
    rw [ble_t (by omega : (l.length + 1) * 1 ≤ 140737488355328)]
    by_cases h8 : 8 * (l.length : Int) - b = 0
    · exact ⟨l ++ [0], 8, by simp [h8], by simp; omega, bytesOk_app hb (bytesOk_one (by omega)), bitAt_app0 l, by omega, by omega⟩
    · exact ⟨l, 8 * l.length - b.toNat, by simp [h8]; omega, by omega, hb, fun _ => rfl, by omega, by omega⟩
  rw [hX]
  simp only [Option.bind_some]
  obtain ⟨k, hk, k1, k2, k3⟩ : ∃ k : Nat, (bif decide ((f : Int) < n) then (f : Int) else n) = (k : Int) ∧ 0 < k ∧ k ≤ n.toNat ∧ k ≤ f := by
    by_cases hfn : (f : Int) < n
    · exact ⟨f, by simp [hfn], f1, by omega, Nat.le_refl _⟩
    · exact ⟨n.toNat, by simp [hfn]; omega, by omega, Nat.le_refl _, by omega⟩
  refine ⟨k, k1, k2, ?_⟩
  rw [hk]
  have e3 : IntKind.wrap .i64 (n - k) = n - k := wi64 (by omega) (by omega)
  have e4 : IntKind.wrap .i64 ((l1.length : Int) - 1) = (l1.length : Int) - 1 := wi64 (by omega) (by omega)
  have e5 : IntKind.wrap .i64 ((f : Int) - k) = (f : Int) - k := wi64 (by omega) (by omega)
  have e6 : IntKind.wrap .i64 (b + k) = b + k := wi64 (by omega) (by omega)
  have c1 : (0 : Int) ≤ n - k := by omega
  have c2 : (0 : Int) ≤ (k : Int) := by omega
  have c3 : (0 : Int) ≤ (l1.length : Int) - 1 := by omega
  have c4 : (l1.length : Int) - 1 < (l1.length : Int) := by omega
  have c5 : (0 : Int) ≤ (f : Int) - k := by omega
  have n1 : ((l1.length : Int) - 1).toNat = l1.length - 1 := by omega
  have c6 : Nat.blt (l1.length - 1) l1.length = true := blt_t (by omega)
  have m1 : min (n - (k : Int)).toNat 64 = n.toNat - k := by omega
  have m2 : min (k : Int).toNat 64 = k := by omega
  have m3 : min ((f : Int) - k).toNat 64 = f - k := by omega
  simp only [e3, e4, e5, e6, c1, c2, c3, c4, c5, n1, c6, m1, m2, m3, decide_true, cond_true, Bool.and_self, pow2, fdiv_pow]
  rw [and_mask hv0 hv1 (by omega)]
  have hp : (V.toNat / 2 ^ (n.toNat - k)) % 2 ^ k < 2 ^ k := Nat.mod_lt _ (Nat.pos_of_ne_zero (by have := Nat.two_pow_pos k; omega))
  have hk8 : 2 ^ k ≤ 2 ^ 8 := Nat.pow_le_pow_right (by omega) (by omega)
  have hp2 : (V.toNat / 2 ^ (n.toNat - k)) % 2 ^ k * 2 ^ (f - k) < 2 ^ f := by
    have : 2 ^ f = 2 ^ k * 2 ^ (f - k) := by rw [← Nat.pow_add]; congr 1; omega
    rw [this]
    exact Nat.mul_lt_mul_of_pos_right hp (Nat.two_pow_pos _)
  have hf8 : 2 ^ f ≤ 2 ^ 8 := Nat.pow_le_pow_right (by omega) f2
  have w1 : IntKind.wrap .u64 ((V.toNat / 2 ^ (n.toNat - k) % 2 ^ k : Nat) : Int) = ((V.toNat / 2 ^ (n.toNat - k) % 2 ^ k : Nat) : Int) := wu64 (by omega) (by omega)
  have hy : ((V.toNat / 2 ^ (n.toNat - k) % 2 ^ k : Nat) : Int) * 2 ^ (f - k) = ((V.toNat / 2 ^ (n.toNat - k) % 2 ^ k * 2 ^ (f - k) : Nat) : Int) := by rw [pow_cast]; simp
  have w2 : IntKind.wrap .u64 (((V.toNat / 2 ^ (n.toNat - k) % 2 ^ k : Nat) : Int) * 2 ^ (f - k)) = ((V.toNat / 2 ^ (n.toNat - k) % 2 ^ k : Nat) : Int) * 2 ^ (f - k) := by rw [hy]; exact wu64 (by omega) (by omega)
  have w3 : IntKind.wrap .u8 (((V.toNat / 2 ^ (n.toNat - k) % 2 ^ k : Nat) : Int) * 2 ^ (f - k)) = ((V.toNat / 2 ^ (n.toNat - k) % 2 ^ k : Nat) : Int) * 2 ^ (f - k) := by rw [hy]; exact wu8 (by omega) (by omega)
  rw [w1, w2, w3]
  have hx := bytesOk_getD l3 (l1.length - 1)
  obtain ⟨o1, o2⟩ := or_byte (x := l1.getD (l1.length - 1) 0) (y := ((V.toNat / 2 ^ (n.toNat - k) % 2 ^ k : Nat) : Int) * 2 ^ (f - k)) hx.1 hx.2 (by rw [hy]; omega) (by rw [hy]; omega)
  rw [o1]
  congr 3
  have := chunk (n := n.toNat) (V := V.toNat) (bs := Sp04.bits (l, b, ())) l3 l2 f2 k3 k2 (by omega) (bits_length _) (fun i => by
    rw [bits_getD, l4]
    simp only
    split
    · rfl
    · exact v4 i (by omega)) k1
  rw [← this]
  congr 2
  omega

theorem vbits0 (v : Nat) : vbits v 0 = [] := rfl
theorem write_loop (V : Int) (hv0 : 0 ≤ V) (hv1 : V < 18446744073709551616) (s : S) (n : Int) (hb : bytesOk s.1) (hv : valid s = true) (h0 : 0 ≤ n) (hn2 : n ≤ 64) (hbn : s.2.1 + n ≤ 8192) :
    Loop (g99_s0 V) (s, n, ()) = some (Sp04.enc (Sp04.bits s ++ vbits V.toNat n.toNat), ()) := by
  refine Loop_inv (fun v : S × Int × Unit => bytesOk v.1.1 ∧ valid v.1 = true ∧ 0 ≤ v.2.1 ∧ v.2.1 ≤ 64 ∧ v.1.2.1 + v.2.1 ≤ 8192) (fun v : S × Int × Unit => v.2.1.toNat)
    (fun v : S × Int × Unit => (Sp04.enc (Sp04.bits v.1 ++ vbits V.toNat v.2.1.toNat), ())) ?_ (v := (s, n, ())) ⟨hb, hv, h0, hn2, hbn⟩
  rintro ⟨⟨l, b, ⟨⟩⟩, n, ⟨⟩⟩ ⟨i1, i2, i3, i4, i5⟩
  simp only at i1 i2 i3 i4 i5
  by_cases hn : 0 < n
  · right
    obtain ⟨k, k1, k2, k3⟩ := g99_step V l b n hv0 hv1 i1 i2 hn i4 i5
    obtain ⟨v1, v2, v3, v4⟩ := valid_iff.1 i2
    simp only at v1 v2 v3 v4
    have hlen : (Sp04.bits (l, b, ()) ++ (vbits V.toNat n.toNat).take k).length = b.toNat + k := by simp [bits_length, vbits_length]; omega
    refine ⟨_, k3, ⟨enc_ok _, valid_enc (by omega), by simp only; omega, by simp only; omega, ?_⟩, by simp only; omega, ?_⟩
    · show ((Sp04.bits (l, b, ()) ++ (vbits V.toNat n.toNat).take k).length : Int) + (n - k) ≤ 8192
      rw [hlen]; omega
    · simp only
      rw [bits_enc, show (n - (k : Int)).toNat = n.toNat - k by omega, List.append_assoc, ← vbits_split k2]
  · left
    have : n = 0 := by omega
    subst this
    simp only [Int.toNat_zero, vbits0, List.append_nil]
    rw [enc_bits i2 i1]
    rfl

theorem g99_ok (a0 : (List Int)) (a1 : Int) (a2 : Int) (a3 : Int) (r0 : (Ty.sl (.int .u8)).ok a0) (r1 : IntKind.i64.has a1) (r2 : IntKind.u64.has a2) (r3 : IntKind.i64.has a3) (h : (Sp04.valid (a0, a1, ()) && decide (0 ≤ a3) && decide (a3 ≤ 64) && decide (a1 + a3 ≤ 8192)) = true) : g99 a0 a1 a2 a3 = some ((), Sp04.enc (Sp04.bits (a0, a1, ()) ++ Sp04.vbits a2.toNat a3.toNat)) := by
  simp only [Bool.and_eq_true, decide_eq_true_eq] at h
  obtain ⟨hl, hb⟩ := dat r0
  have hv := has_u64 r2
  unfold g99
  rw [write_loop a2 hv.1 hv.2 (a0, a1, ()) a3 hb h.1.1.1 h.1.1.2 h.1.2 h.2]
  rfl

theorem or_snoc {a : Nat} {b : Bool} (h : a < 9223372036854775808) : IntKind.wrap .u64 ((BitVec.or (BitVec.ofInt 64 (IntKind.wrap .u64 ((a : Int) * 2))) (BitVec.ofInt 64 (b2i b))).toNat : Int) = ((2 * a + b.toNat : Nat) : Int) := by
  have hb := b2i_bound b
  rw [wu64 (n := (a : Int) * 2) (by omega) (by omega), bvor (by omega) (by omega) (by omega) (by omega)]
  have e1 : ((a : Int) * 2).toNat = 2 * a := by omega
  have e2 : (b2i b).toNat = b.toNat := by cases b <;> rfl
  have e3 : 2 * a ||| b.toNat = 2 * a + b.toNat := by
    have := Nat.two_pow_add_eq_or_of_lt (i := 1) (b := b.toNat) (by cases b <;> decide) a
    rw [Nat.pow_one] at this
    exact this.symm
  rw [e1, e2, e3]
  have : b.toNat ≤ 1 := by cases b <;> decide
  exact wu64 (by omega) (by omega)

theorem g104_ok (a0 : (List Int)) (a1 : Int) (a2 : Int) (a3 : Int) (r0 : (Ty.sl (.int .u8)).ok a0) (r1 : IntKind.i64.has a1) (r2 : IntKind.i64.has a2) (r3 : IntKind.i64.has a3) (h : (decide (0 ≤ a2) && decide (0 ≤ a3) && decide (a3 ≤ 64) && decide (a2 + a3 ≤ 8 * (a0.length : Int))) = true) : g104 a0 a1 a2 a3 = some ((Sp04.valOf (Sp04.bitsR a0 a2.toNat a3.toNat) : Int), ()) := by
  simp only [Bool.and_eq_true, decide_eq_true_eq] at h
  obtain ⟨⟨⟨h1, h2⟩, h3⟩, h4⟩ := h
  obtain ⟨hl, hb⟩ := dat r0
  have key : Loop (g104_s0 a0 a1 a2 a3) ((0 : Int), (0 : Int), ()) = some (((Sp04.valOf (bitsR a0 a2.toNat a3.toNat) : Nat) : Int), ()) := by
    refine Loop_inv (fun v : Int × Int × Unit => 0 ≤ v.1 ∧ v.1 ≤ a3 ∧ v.2.1 = ((Sp04.valOf (bitsR a0 a2.toNat v.1.toNat) : Nat) : Int)) (fun v : Int × Int × Unit => (a3 - v.1).toNat)
      (fun _ => (((Sp04.valOf (bitsR a0 a2.toNat a3.toNat) : Nat) : Int), ())) ?_ (v := (0, 0, ())) ⟨by simp, h2, rfl⟩
    rintro ⟨i, x, ⟨⟩⟩ ⟨k1, k2, k3⟩
    simp only at k1 k2 k3
    subst k3
    have e1 : IntKind.wrap .i64 (a2 + i) = a2 + i := wi64 (by omega) (by omega)
    have e2 : IntKind.wrap .i64 (i + 1) = i + 1 := wi64 (by omega) (by omega)
    unfold g104_s0
    simp only [Int.ofNat_eq_natCast, e1, e2]
    by_cases h5 : i < a3
    · right
      have c1 : (0 : Int) ≤ a2 + i := by omega
      have c2 : a2 + i < 8 * (a0.length : Int) := by omega
      have hlt := valOf_lt (bitsR a0 a2.toNat i.toNat)
      rw [bitsR_length] at hlt
      have hp : 2 ^ i.toNat ≤ 2 ^ 63 := Nat.pow_le_pow_right (by omega) (by omega)
      simp only [h5, c1, c2, decide_true, cond_true, Bool.and_self, on_true, Option.bind_some]
      rw [or_snoc (by omega)]
      refine ⟨_, rfl, ⟨by simp only; omega, by simp only; omega, ?_⟩, by simp only; omega, trivial⟩
      simp only
      rw [show (i + 1).toNat = i.toNat + 1 by omega, bitsR_snoc, valOf_snoc, show (a2 + i).toNat = a2.toNat + i.toNat by omega]
    · left
      have : i = a3 := by omega
      subst this
      simp only [h5, decide_false, cond_false]
  unfold g104
  rw [key]
  rfl
end Go.Abs.C04

namespace Go.Abs.C04
open Go Go.Proofs Sp04

theorem wf_iff {t : Tp} : wf t = true ↔ 0 ≤ t.2.1 ∧ t.2.1 ≤ t.1.length ∧ t.1.length ≤ 600 := by
  simp [wf, and_assoc]
theorem small_iff {n : Int} : small n = true ↔ -2305843009213693952 ≤ n ∧ n ≤ 2305843009213693952 := by
  simp [small]
theorem raw_wf {t : Tp} (h : wf t = true) : wf (raw t).2 = true := by
  obtain ⟨l, a, ⟨⟩⟩ := t
  obtain ⟨h1, h2, h3⟩ := wf_iff.1 h
  simp only at h1 h2 h3
  unfold raw
  by_cases h4 : a < l.length
  · simp only [h4, decide_true, cond_true]
    exact wf_iff.2 ⟨by simp only; omega, by simp only; omega, h3⟩
  · simp only [h4, decide_false, cond_false]
    exact h
theorem next_wf {t : Tp} {n : Int} (h : wf t = true) : wf (next t n).2 = true := raw_wf h
theorem cut_nonneg {x n : Int} : 0 ≤ cut x n := by
  unfold cut
  by_cases h : n < 1
  · simp [h]
  · simp only [h, decide_false, cond_false]
    exact Int.emod_nonneg x (by omega)
theorem cut_lt {x n : Int} (h : 1 ≤ n) : cut x n < n := by
  unfold cut
  have h' : ¬ n < 1 := by omega
  simp only [h', decide_false, cond_false]
  exact Int.emod_lt_of_pos x (by omega)
theorem next_range {t : Tp} {n : Int} (h : 1 ≤ n) : 0 ≤ (next t n).1 ∧ (next t n).1 < n := ⟨cut_nonneg, cut_lt h⟩
theorem range_wf {t : Tp} {a b : Int} (h : wf t = true) : wf (range t a b).2 = true := next_wf (n := b - a + 1) h
theorem range_in {t : Tp} {a b : Int} (h : a ≤ b) : a ≤ (range t a b).1 ∧ (range t a b).1 ≤ b := by
  have := next_range (t := t) (n := b - a + 1) (by omega)
  unfold range
  simp only
  omega
theorem next_bound {t : Tp} {n : Int} : 0 ≤ (next t n).1 ∧ ((next t n).1 < n ∨ (next t n).1 = 0) := by
  by_cases h : 1 ≤ n
  · have := next_range (t := t) h
    exact ⟨this.1, .inl this.2⟩
  · refine ⟨cut_nonneg, .inr ?_⟩
    show cut (raw t).1 n = 0
    unfold cut
    have : n < 1 := by omega
    simp [this]
theorem one_wf {t : Tp} {n : Int} (h : wf t = true) : wf (one t n).2 = true := next_wf (n := n) h
theorem wild_wf {t : Tp} (h : wf t = true) : wf (wild t).2 = true := next_wf (n := (wilds.length : Int)) h
theorem tape_wf (l : List Int) : wf (Sp04.tape l) = true := wf_iff.2 ⟨by simp [Sp04.tape], by simp [Sp04.tape], by simp [Sp04.tape]; omega⟩

theorem g48_ok (a0 : (List Int)) (a1 : Int) (r0 : (Ty.sl (.int .i64)).ok a0) (r1 : IntKind.i64.has a1) (h : (Sp04.wf (a0, a1, ())) = true) : g48 a0 a1 = some (Sp04.raw (a0, a1, ())) := by
  obtain ⟨h1, h2, h3⟩ := wf_iff.1 h
  simp only at h1 h2 h3
  unfold g48 Sp04.raw
  by_cases h4 : a1 < a0.length
  · have h5 : ¬ a1 ≥ (a0.length : Int) := by omega
    have e1 : IntKind.wrap .i64 (a1 + 1) = a1 + 1 := wi64 (by omega) (by omega)
    have e2 : IntKind.wrap .i64 (a1 + 1 - 1) = a1 := by rw [show a1 + 1 - 1 = a1 by omega]; exact wi64 (by omega) (by omega)
    simp only [Int.ofNat_eq_natCast, e1, e2, h5, h4, h1, decide_true, decide_false, cond_true, cond_false, Bool.and_self]
  · have h5 : a1 ≥ (a0.length : Int) := by omega
    simp only [Int.ofNat_eq_natCast, h5, h4, decide_true, decide_false, cond_true, cond_false]

theorem g47_ok (a0 : Int) (a1 : Int) (r0 : IntKind.i64.has a0) (r1 : IntKind.i64.has a1) : g47 a0 a1 = some (Sp04.cut a0 a1, ()) := by
  have hm := (has_i64 r1).2
  unfold g47 Sp04.cut
  by_cases h : a1 < 1
  · simp [h]
  · have h0 : ¬ a1 = 0 := by omega
    have hp : 0 < a1 := by omega
    have e1 := Int.emod_nonneg a0 h0
    have e2 := Int.emod_lt_of_pos a0 hp
    have e3 : a0.tmod a1 = if 0 ≤ a0 ∨ a1 ∣ a0 then a0 % a1 else a0 % a1 - a1 := by
      rw [Int.tmod_eq_emod]
      split <;> rename_i h <;> simp [h]
      omega
    by_cases h5 : 0 ≤ a0 ∨ a1 ∣ a0
    · rw [if_pos h5] at e3
      have : ¬ a0 % a1 < 0 := by omega
      simp [h, h0, e3, this]
      rfl
    · rw [if_neg h5] at e3
      have h6 : a0 % a1 - a1 < 0 := by omega
      have h7 : a0 % a1 - a1 + a1 = a0 % a1 := by omega
      have h8 : IntKind.wrap .i64 (a0 % a1) = a0 % a1 := wi64 (by omega) (by omega)
      simp only [h, h0, e3, h6, h7, h8, decide_true, decide_false, cond_true, cond_false, Bool.not_false, Option.bind]
      rfl

theorem g19_ok (a0 : (List Int)) (a1 : Int) (a2 : Int) (r0 : (Ty.sl (.int .i64)).ok a0) (r1 : IntKind.i64.has a1) (r2 : IntKind.i64.has a2) (h : (Sp04.wf (a0, a1, ())) = true) : g19 a0 a1 a2 = some (Sp04.next (a0, a1, ()) a2) := by
  unfold g19
  rw [on_true h]
  rfl

theorem g59_ok (a0 : (List Int)) (a1 : Int) (a2 : Int) (a3 : Int) (r0 : (Ty.sl (.int .i64)).ok a0) (r1 : IntKind.i64.has a1) (r2 : IntKind.i64.has a2) (r3 : IntKind.i64.has a3) (h : (Sp04.wf (a0, a1, ()) && Sp04.small a2 && Sp04.small a3) = true) : g59 a0 a1 a2 a3 = some (Sp04.range (a0, a1, ()) a2 a3) := by
  simp only [Bool.and_eq_true] at h
  have k2 := small_iff.1 h.1.2
  have k3 := small_iff.1 h.2
  unfold g59 Sp04.range
  rw [on_true h.1.1]
  have e1 : IntKind.wrap .i64 (a3 - a2) = a3 - a2 := wi64 (by omega) (by omega)
  have e2 : IntKind.wrap .i64 (a3 - a2 + 1) = a3 - a2 + 1 := wi64 (by omega) (by omega)
  have hb := next_bound (t := (a0, a1, ())) (n := a3 - a2 + 1)
  have e3 : IntKind.wrap .i64 (a2 + (next (a0, a1, ()) (a3 - a2 + 1)).1) = a2 + (next (a0, a1, ()) (a3 - a2 + 1)).1 := wi64 (by omega) (by omega)
  simp only [e1, e2, Option.bind, e3]

theorem g18_ok (a0 : (List Int)) (a1 : Int) (a2 : Int) (r0 : (Ty.sl (.int .i64)).ok a0) (r1 : IntKind.i64.has a1) (r2 : IntKind.i64.has a2) (h : (Sp04.wf (a0, a1, ()) && Sp04.small a2) = true) : g18 a0 a1 a2 = some (Sp04.one (a0, a1, ()) a2) := by
  simp only [Bool.and_eq_true] at h
  have k2 := small_iff.1 h.2
  unfold g18 Sp04.one
  rw [on_true h.1]
  have e1 : IntKind.wrap .i64 (a2 - 1) = a2 - 1 := wi64 (by omega) (by omega)
  simp only [e1, Option.bind]

theorem g17_ok (a0 : (List Int)) (a1 : Int) (a2 : (List Int)) (r0 : (Ty.sl (.int .i64)).ok a0) (r1 : IntKind.i64.has a1) (r2 : (Ty.sl (.int .i64)).ok a2) (h : (Sp04.wf (a0, a1, ()) && decide (0 < a2.length) && decide (a2.length ≤ 1000)) = true) : g17 a0 a1 a2 = some (Sp04.pick (a0, a1, ()) a2) := by
  simp only [Bool.and_eq_true, decide_eq_true_eq] at h
  unfold g17 Sp04.pick
  rw [on_true h.1.1]
  have hb := next_range (t := (a0, a1, ())) (n := (a2.length : Int)) (by omega)
  simp only [Int.ofNat_eq_natCast, Option.bind, hb.1, hb.2, decide_true, Bool.and_self, cond_true]

theorem g31_ok (a0 : List Int) (a1 : Int) (r0 : (Ty.sl (.int .i64)).ok a0) (r1 : IntKind.i64.has a1) (h : (Sp04.wf (a0, a1, ())) = true) : g31 a0 a1 = some (Sp04.wild (a0, a1, ())) := by
  unfold g31
  rw [show (wf (a0, a1, ()) && true && true) = true by rw [h]; rfl]
  rfl

theorem g9_ok (a0 : (List Int)) (r0 : (Ty.sl (.int .i64)).ok a0) : g9 a0 = some (Sp04.tape a0, ()) := by
  unfold g9 Sp04.tape
  by_cases h : (600 : Int) < a0.length
  · have h2 : (600 : Int) ≤ a0.length := by omega
    simp [GT.gt, h, h2]
  · have : a0.take 600 = a0 := List.take_of_length_le (by omega)
    simp [GT.gt, h, this]

end Go.Abs.C04
