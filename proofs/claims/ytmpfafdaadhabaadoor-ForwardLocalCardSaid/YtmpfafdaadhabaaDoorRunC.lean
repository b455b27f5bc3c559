/- Chapter 13 (forward): proved is, of more functions, that the evaluator comes to the printed term, and that the functions on the tape and the checks keep their contracts; no conditions but those that each theorem states. -/
import Derived.Test.YtmpfafdaadhabaaDoorRunB
set_option linter.unusedVariables false
set_option linter.unusedSimpArgs false
namespace Go.Abs.C13
open Go Go.Abs
set_option maxRecDepth 20000
set_option linter.unusedVariables false
noncomputable def g23_s0 (a0 : (Sp13.Pk × Unit)) : (Option (Sum (Sp13.Pk × Unit) (Sp13.Pk × Unit))) :=
  (bif (decide ((Int.ofNat a0.1.2.2.2.2.2.2.2.2.2.1.length) < 62)) then (bif (@Nat.ble (a0.1.2.2.2.2.2.2.2.2.2.1.length + 3) 9223372036854775807) then (some (.inl ((a0.1.1, (a0.1.2.1, (a0.1.2.2.1, (a0.1.2.2.2.1, (a0.1.2.2.2.2.1, (a0.1.2.2.2.2.2.1, (a0.1.2.2.2.2.2.2.1, (a0.1.2.2.2.2.2.2.2.1, (a0.1.2.2.2.2.2.2.2.2.1, ((a0.1.2.2.2.2.2.2.2.2.2.1 ++ (97 :: (98 :: (99 :: [])))), ())))))))))), ()))) else none) else (some (.inr a0)))
noncomputable def g23 (a0 : (List Int)) (a1 : Int) (a2 : Int) : (Option (Sp13.Pk × Sp13.Tp)) :=
  (Option.bind (Sp13.on (Sp13.wf (a0, (a1, ()))) (Sp13.length (a0, (a1, ())))) (fun y3 => (Option.bind (Sp13.on (((Sp13.wf y3.2) && (Sp13.small 1)) && (Sp13.small 3)) (Sp13.range y3.2 1 3)) (fun y4 => (Option.bind (Sp13.on (((Sp13.wf y4.2) && (Sp13.small 0)) && (Sp13.small 7)) (Sp13.range y4.2 0 7)) (fun y5 => (Option.bind (Sp13.on (((Sp13.wf y5.2) && (decide (0 < 5))) && (decide (5 ≤ 1000))) (Sp13.pick y5.2 (0 :: (0 :: (1 :: (2 :: (31 :: []))))))) (fun y6 => (Option.bind (Sp13.on (((Sp13.wf y6.2) && (decide (0 < 5))) && (decide (5 ≤ 1000))) (Sp13.pick y6.2 (0 :: (1 :: (2 :: (5 :: (63 :: []))))))) (fun y7 => (Option.bind (Sp13.on (Sp13.wf y7.2) (Sp13.next y7.2 1024)) (fun y8 => (Option.bind (Sp13.on (((Sp13.wf y8.2) && (decide (0 < 5))) && (decide (5 ≤ 1000))) (Sp13.pick y8.2 (0 :: (1 :: (8 :: (255 :: (256 :: []))))))) (fun y9 => (Option.bind (Sp13.on (Sp13.wf y9.2) (Sp13.next y9.2 8)) (fun y10 => (Option.bind (Sp13.on (Sp13.wf y10.2) (Sp13.Bt.bits y10.2 y3.1)) (fun y11 => (Option.bind (Sp13.on (((Sp13.wf y11.2) && (decide ((0 : Int) ≤ (6 : Int)))) && (decide ((6 : Int) ≤ (1000 : Int)))) (Sp13.text y11.2 6)) (fun y12 => (Option.bind (bif (decide (a2 > 0)) then (Option.bind (Sp13.on ((Sp13.wf y12.2) && (Sp13.small a2)) (Sp13.one y12.2 a2)) (fun y13 => (some (y13.2, (y13.1, ()))))) else (some (y12.2, (false, ())))) (fun y13 => (Option.bind (bif y13.2.1 then (Option.bind (Sp13.on (Sp13.wf y13.1) (Sp13.next y13.1 9)) (fun y14 => (Option.bind (bif (decide (y14.1 = 0)) then (Option.bind (Sp13.on (Sp13.wf y14.2) (Sp13.wild y14.2)) (fun y15 => (some (y15.2, ((y15.1, (y5.1, (y6.1, (y3.1, (y7.1, (y8.1, (y9.1, (y10.1, (y11.1, (y12.1, ())))))))))), ()))))) else (Option.bind (bif (decide (y14.1 = 1)) then (Option.bind (Sp13.on (Sp13.wf y14.2) (Sp13.wild y14.2)) (fun y15 => (some ((y4.1, (y15.1, (y6.1, (y3.1, (y7.1, (y8.1, (y9.1, (y10.1, (y11.1, (y12.1, ())))))))))), (y15.2, ()))))) else (Option.bind (bif (decide (y14.1 = 2)) then (Option.bind (Sp13.on (Sp13.wf y14.2) (Sp13.wild y14.2)) (fun y15 => (some (y15.2, ((y4.1, (y5.1, (y15.1, (y3.1, (y7.1, (y8.1, (y9.1, (y10.1, (y11.1, (y12.1, ())))))))))), ()))))) else (Option.bind (bif (decide (y14.1 = 3)) then (Option.bind (Sp13.on (((Sp13.wf y14.2) && (decide (0 < 8))) && (decide (8 ≤ 1000))) (Sp13.pick y14.2 (0 :: (8 :: (16 :: (24 :: (63 :: (64 :: (65 :: ((-8 : Int) :: [])))))))))) (fun y15 => (some ((y4.1, (y5.1, (y6.1, (y15.1, (y7.1, (y8.1, (y9.1, (y10.1, (y11.1, (y12.1, ())))))))))), (y15.2, ()))))) else (Option.bind (bif (decide (y14.1 = 4)) then (Option.bind (Sp13.on (Sp13.wf y14.2) (Sp13.wild y14.2)) (fun y15 => (some (y15.2, ((y4.1, (y5.1, (y6.1, (y3.1, (y15.1, (y8.1, (y9.1, (y10.1, (y11.1, (y12.1, ())))))))))), ()))))) else (Option.bind (bif (decide (y14.1 = 5)) then (Option.bind (Sp13.on (Sp13.wf y14.2) (Sp13.wild y14.2)) (fun y15 => (some ((y4.1, (y5.1, (y6.1, (y3.1, (y7.1, (y15.1, (y9.1, (y10.1, (y11.1, (y12.1, ())))))))))), (y15.2, ()))))) else (Option.bind (bif (decide (y14.1 = 6)) then (Option.bind (Sp13.on (Sp13.wf y14.2) (Sp13.wild y14.2)) (fun y15 => (some (y15.2, ((y4.1, (y5.1, (y6.1, (y3.1, (y7.1, (y8.1, (y15.1, (y10.1, (y11.1, (y12.1, ())))))))))), ()))))) else (Option.bind (bif (decide (y14.1 = 7)) then (Option.bind (Sp13.on (Sp13.wf y14.2) (Sp13.wild y14.2)) (fun y15 => (some ((y4.1, (y5.1, (y6.1, (y3.1, (y7.1, (y8.1, (y9.1, (y15.1, (y11.1, (y12.1, ())))))))))), (y15.2, ()))))) else (Option.bind (Loop g23_s0 ((y4.1, (y5.1, (y6.1, (y3.1, (y7.1, (y8.1, (y9.1, (y10.1, (y11.1, (y12.1, ())))))))))), ())) (fun y15 => (Option.bind (Sp13.on (((Sp13.wf y14.2) && (decide ((0 : Int) ≤ (4 : Int)))) && (decide ((4 : Int) ≤ (1000 : Int)))) (Sp13.text y14.2 4)) (fun y16 => (bif (@Nat.ble (y15.1.2.2.2.2.2.2.2.2.2.1.length + y16.1.length) 9223372036854775807) then (some ((y15.1.1, (y15.1.2.1, (y15.1.2.2.1, (y15.1.2.2.2.1, (y15.1.2.2.2.2.1, (y15.1.2.2.2.2.2.1, (y15.1.2.2.2.2.2.2.1, (y15.1.2.2.2.2.2.2.2.1, (y15.1.2.2.2.2.2.2.2.2.1, ((y15.1.2.2.2.2.2.2.2.2.2.1 ++ y16.1), ())))))))))), (y16.2, ()))) else none)))))) (fun y15 => (some (y15.2.1, (y15.1, ())))))) (fun y15 => (some (y15.2.1, (y15.1, ())))))) (fun y15 => (some (y15.2.1, (y15.1, ())))))) (fun y15 => (some (y15.2.1, (y15.1, ())))))) (fun y15 => (some (y15.2.1, (y15.1, ())))))) (fun y15 => (some (y15.2.1, (y15.1, ())))))) (fun y15 => (some (y15.2.1, (y15.1, ())))))) (fun y15 => (some y15))))) else (some (y13.1, ((y4.1, (y5.1, (y6.1, (y3.1, (y7.1, (y8.1, (y9.1, (y10.1, (y11.1, (y12.1, ())))))))))), ())))) (fun y14 => (some (y14.2.1, y14.1))))))))))))))))))))))))))
theorem g23_eq (a0 : (List Int)) (a1 : Int) (a2 : Int) : (evF (fun _ _ => Loop) E23 G23 Go.Proofs.Tryd.f23 plan23 c23 ((a0, (a1, ())), (a2, ()))).den = g23 a0 a1 a2 := by kernel_rfl

noncomputable def g10_s0 (a0 : Int) (a1 : Int) (a2 : Int) (a3 : (@List (Int × ((List Int) × Unit)))) (a4 : Int) (a5 : Int) (a6 : Int) (a7 : Int) (a8 : Int) (a9 : Int) (a10 : Int) (a11 : Int) (a12 : Int) (a13 : (List Int)) (a14 : (Sp13.Oc × (Int × Unit))) : (Option (Sum (Sp13.Oc × (Int × Unit)) (Sp13.Oc × Unit))) :=
  (bif (!(decide (a14.2.1 = 0))) then (bif (decide (0 ≤ (Sp13.Bt.nth a14.2.1 0))) then (bif (decide ((bif (Sp13.validM (a0, (a1, (a2, (a3, ())))) (Sp13.plane (a4, (a5, (a6, (a7, (a8, (a9, (a10, (a11, (a12, (a13, ()))))))))))) 0) then (Sp13.nextW (Sp13.findW (a0, (a1, (a2, (a3, ())))) (Sp13.at_ a6 (Sp13.Bt.nth a14.2.1 0) a7).1).1 (Sp13.plane (a4, (a5, (a6, (a7, (a8, (a9, (a10, (a11, (a12, (a13, ())))))))))))) else 0) = 0)) then (some (.inl ((a14.1.1, ((IntKind.wrap .u64 (Int.ofNat (BitVec.toNat (BitVec.or (BitVec.ofInt 64 a14.1.2.1) (BitVec.ofInt 64 (IntKind.wrap .u64 (1 * (@Int.pow 2 (@Min.min Nat instMinNat (Int.toNat (Sp13.Bt.nth a14.2.1 0)) 64))))))))), a14.1.2.2)), ((IntKind.wrap .u64 (Int.ofNat (BitVec.toNat (BitVec.and (BitVec.ofInt 64 a14.2.1) (BitVec.not (BitVec.ofInt 64 (IntKind.wrap .u64 (1 * (@Int.pow 2 (@Min.min Nat instMinNat (Int.toNat (Sp13.Bt.nth a14.2.1 0)) 64)))))))))), ())))) else (bif (decide ((bif (Sp13.validM (a0, (a1, (a2, (a3, ())))) (Sp13.plane (a4, (a5, (a6, (a7, (a8, (a9, (a10, (a11, (a12, (a13, ()))))))))))) 0) then (Sp13.nextW (Sp13.findW (a0, (a1, (a2, (a3, ())))) (Sp13.at_ a6 (Sp13.Bt.nth a14.2.1 0) a7).1).1 (Sp13.plane (a4, (a5, (a6, (a7, (a8, (a9, (a10, (a11, (a12, (a13, ())))))))))))) else 0) = a0)) then (some (.inl (((IntKind.wrap .u64 (Int.ofNat (BitVec.toNat (BitVec.or (BitVec.ofInt 64 a14.1.1) (BitVec.ofInt 64 (IntKind.wrap .u64 (1 * (@Int.pow 2 (@Min.min Nat instMinNat (Int.toNat (Sp13.Bt.nth a14.2.1 0)) 64))))))))), a14.1.2), ((IntKind.wrap .u64 (Int.ofNat (BitVec.toNat (BitVec.and (BitVec.ofInt 64 a14.2.1) (BitVec.not (BitVec.ofInt 64 (IntKind.wrap .u64 (1 * (@Int.pow 2 (@Min.min Nat instMinNat (Int.toNat (Sp13.Bt.nth a14.2.1 0)) 64)))))))))), ())))) else (Option.bind (bif (Sp13.masked (a4, (a5, (a6, (a7, (a8, (a9, (a10, (a11, (a14.2.1, (a13, ())))))))))) (IntKind.wrap .u64 (Int.ofNat (BitVec.toNat (BitVec.and (BitVec.ofInt 64 a14.2.1) (BitVec.ofInt 64 (Sp13.maskF (a0, (a1, (a2, (a3, ())))) (Sp13.plane (a4, (a5, (a6, (a7, (a8, (a9, (a10, (a11, (a12, (a13, ()))))))))))) a6 (bif (Sp13.validM (a0, (a1, (a2, (a3, ())))) (Sp13.plane (a4, (a5, (a6, (a7, (a8, (a9, (a10, (a11, (a12, (a13, ()))))))))))) 0) then (Sp13.nextW (Sp13.findW (a0, (a1, (a2, (a3, ())))) (Sp13.at_ a6 (Sp13.Bt.nth a14.2.1 0) a7).1).1 (Sp13.plane (a4, (a5, (a6, (a7, (a8, (a9, (a10, (a11, (a12, (a13, ())))))))))))) else 0)))))))).2.1 then (bif (@Nat.ble ((a14.1.2.2.1.length + 1) * 120) 140737488355328) then (some ((a14.1.1, (a14.1.2.1, ((a14.1.2.2.1 ++ (((bif (Sp13.validM (a0, (a1, (a2, (a3, ())))) (Sp13.plane (a4, (a5, (a6, (a7, (a8, (a9, (a10, (a11, (a12, (a13, ()))))))))))) 0) then (Sp13.nextW (Sp13.findW (a0, (a1, (a2, (a3, ())))) (Sp13.at_ a6 (Sp13.Bt.nth a14.2.1 0) a7).1).1 (Sp13.plane (a4, (a5, (a6, (a7, (a8, (a9, (a10, (a11, (a12, (a13, ())))))))))))) else 0), (([], ((Sp13.masked (a4, (a5, (a6, (a7, (a8, (a9, (a10, (a11, (a14.2.1, (a13, ())))))))))) (IntKind.wrap .u64 (Int.ofNat (BitVec.toNat (BitVec.and (BitVec.ofInt 64 a14.2.1) (BitVec.ofInt 64 (Sp13.maskF (a0, (a1, (a2, (a3, ())))) (Sp13.plane (a4, (a5, (a6, (a7, (a8, (a9, (a10, (a11, (a12, (a13, ()))))))))))) a6 (bif (Sp13.validM (a0, (a1, (a2, (a3, ())))) (Sp13.plane (a4, (a5, (a6, (a7, (a8, (a9, (a10, (a11, (a12, (a13, ()))))))))))) 0) then (Sp13.nextW (Sp13.findW (a0, (a1, (a2, (a3, ())))) (Sp13.at_ a6 (Sp13.Bt.nth a14.2.1 0) a7).1).1 (Sp13.plane (a4, (a5, (a6, (a7, (a8, (a9, (a10, (a11, (a12, (a13, ())))))))))))) else 0)))))))).1, ())), ())) :: [])), ()))), ())) else none) else (some ((a14.1.1, ((IntKind.wrap .u64 (Int.ofNat (BitVec.toNat (BitVec.or (BitVec.ofInt 64 a14.1.2.1) (BitVec.ofInt 64 (IntKind.wrap .u64 (Int.ofNat (BitVec.toNat (BitVec.and (BitVec.ofInt 64 a14.2.1) (BitVec.ofInt 64 (Sp13.maskF (a0, (a1, (a2, (a3, ())))) (Sp13.plane (a4, (a5, (a6, (a7, (a8, (a9, (a10, (a11, (a12, (a13, ()))))))))))) a6 (bif (Sp13.validM (a0, (a1, (a2, (a3, ())))) (Sp13.plane (a4, (a5, (a6, (a7, (a8, (a9, (a10, (a11, (a12, (a13, ()))))))))))) 0) then (Sp13.nextW (Sp13.findW (a0, (a1, (a2, (a3, ())))) (Sp13.at_ a6 (Sp13.Bt.nth a14.2.1 0) a7).1).1 (Sp13.plane (a4, (a5, (a6, (a7, (a8, (a9, (a10, (a11, (a12, (a13, ())))))))))))) else 0)))))))))))), a14.1.2.2)), ()))) (fun y15 => (some (.inl (y15.1, ((IntKind.wrap .u64 (Int.ofNat (BitVec.toNat (BitVec.and (BitVec.ofInt 64 a14.2.1) (BitVec.not (BitVec.ofInt 64 (IntKind.wrap .u64 (Int.ofNat (BitVec.toNat (BitVec.and (BitVec.ofInt 64 a14.2.1) (BitVec.ofInt 64 (Sp13.maskF (a0, (a1, (a2, (a3, ())))) (Sp13.plane (a4, (a5, (a6, (a7, (a8, (a9, (a10, (a11, (a12, (a13, ()))))))))))) a6 (bif (Sp13.validM (a0, (a1, (a2, (a3, ())))) (Sp13.plane (a4, (a5, (a6, (a7, (a8, (a9, (a10, (a11, (a12, (a13, ()))))))))))) 0) then (Sp13.nextW (Sp13.findW (a0, (a1, (a2, (a3, ())))) (Sp13.at_ a6 (Sp13.Bt.nth a14.2.1 0) a7).1).1 (Sp13.plane (a4, (a5, (a6, (a7, (a8, (a9, (a10, (a11, (a12, (a13, ())))))))))))) else 0))))))))))))), ())))))))) else none) else (some (.inr (a14.1, ()))))
noncomputable def g10 (a0 : Int) (a1 : Int) (a2 : Int) (a3 : (@List (Int × ((List Int) × Unit)))) (a4 : Int) (a5 : Int) (a6 : Int) (a7 : Int) (a8 : Int) (a9 : Int) (a10 : Int) (a11 : Int) (a12 : Int) (a13 : (List Int)) : (Option ((Sp13.Oc × (Int × Unit)) × Unit)) :=
  (Option.bind (bif (!(!(decide ((Sp13.chkB (a0, (a1, (a2, (a3, ()))))) = 0)))) then (some ((!(Sp13.validK (a4, (a5, (a6, (a7, (a8, (a9, (a10, (a11, (a12, (a13, ())))))))))))), ())) else (some (true, ()))) (fun y14 => (bif y14.1 then (some (((0, (0, ([], ()))), (1, ())), ())) else (bif (decide (a4 = 2)) then (some (((0, (0, ([], ()))), (7, ())), ())) else (Option.bind (bif (!(!(decide (a1 = a5)))) then (some ((!(decide (a2 = a7))), ())) else (some (true, ()))) (fun y15 => (bif y15.1 then (some (((0, (0, ([], ()))), (8, ())), ())) else (Option.bind (Loop (@g10_s0 a0 a1 a2 a3 a4 a5 a6 a7 a8 a9 a10 a11 a12 a13) ((0, (0, ([], ()))), (a12, ()))) (fun y16 => (some ((y16.1, (0, ())), ())))))))))))
theorem g10_eq (a0 : Int) (a1 : Int) (a2 : Int) (a3 : (@List (Int × ((List Int) × Unit)))) (a4 : Int) (a5 : Int) (a6 : Int) (a7 : Int) (a8 : Int) (a9 : Int) (a10 : Int) (a11 : Int) (a12 : Int) (a13 : (List Int)) : (evF (fun _ _ => Loop) E10 G10 Go.Proofs.Tryd.f10 plan10 c10 ((), ((a0, (a1, (a2, (a3, ())))), ((a4, (a5, (a6, (a7, (a8, (a9, (a10, (a11, (a12, (a13, ())))))))))), ())))).den = g10 a0 a1 a2 a3 a4 a5 a6 a7 a8 a9 a10 a11 a12 a13 := by kernel_rfl

noncomputable def g34_s0 (a0 : (@List (Int × ((List Int) × Unit)))) (a1 : (Int × Unit)) : (Option (Sum (Int × Unit) (Bool × ((Int × Unit) × Unit)))) :=
  (bif (decide (a1.1 < (Int.ofNat a0.length))) then (bif ((decide (0 ≤ a1.1)) && (decide (a1.1 < (Int.ofNat a0.length)))) then (Option.bind (bif (!(!(Sp13.upI (List.getD a0 (Int.toNat a1.1) (0, ([], ()))).2.1))) then (bif (!(!(Sp13.upI (List.getD a0 (Int.toNat a1.1) (0, ([], ()))).2.1))) then (bif (!(!(Sp13.upI (List.getD a0 (Int.toNat a1.1) (0, ([], ()))).2.1))) then (bif (decide (a1.1 > 0)) then (bif (decide (a1.1 > 0)) then (bif (decide (a1.1 > 0)) then (bif (decide (a1.1 > 0)) then (bif (decide (a1.1 > 0)) then (bif ((decide (0 ≤ (IntKind.wrap .i64 (a1.1 - 1)))) && (decide ((IntKind.wrap .i64 (a1.1 - 1)) < (Int.ofNat a0.length)))) then (bif (decide (a1.1 > 0)) then (bif (decide (a1.1 > 0)) then (bif (decide (a1.1 > 0)) then (bif (decide (a1.1 > 0)) then (bif (decide (a1.1 > 0)) then (bif (!(!(Sp13.upI (List.getD a0 (Int.toNat a1.1) (0, ([], ()))).2.1))) then (bif (decide (a1.1 > 0)) then (bif (!(!(Sp13.upI (List.getD a0 (Int.toNat a1.1) (0, ([], ()))).2.1))) then (some ((decide ((List.getD a0 (Int.toNat (IntKind.wrap .i64 (a1.1 - 1))) (0, ([], ()))).1 ≥ (List.getD a0 (Int.toNat a1.1) (0, ([], ()))).1)), ())) else none) else none) else none) else none) else none) else none) else none) else none) else none) else none) else none) else none) else none) else (bif (!(decide (a1.1 > 0))) then (bif (!(decide (a1.1 > 0))) then (bif (!(decide (a1.1 > 0))) then (bif (!(decide (a1.1 > 0))) then (bif (!(decide (a1.1 > 0))) then (bif (!(decide (a1.1 > 0))) then (bif (!(decide (a1.1 > 0))) then (bif (!(decide (a1.1 > 0))) then (bif (!(decide (a1.1 > 0))) then (bif (!(!(Sp13.upI (List.getD a0 (Int.toNat a1.1) (0, ([], ()))).2.1))) then (bif (!(decide (a1.1 > 0))) then (bif (!(!(Sp13.upI (List.getD a0 (Int.toNat a1.1) (0, ([], ()))).2.1))) then (some (false, ())) else none) else none) else none) else none) else none) else none) else none) else none) else none) else none) else none) else none)) else none) else none) else (bif (!(Sp13.upI (List.getD a0 (Int.toNat a1.1) (0, ([], ()))).2.1)) then (bif (!(Sp13.upI (List.getD a0 (Int.toNat a1.1) (0, ([], ()))).2.1)) then (bif (!(Sp13.upI (List.getD a0 (Int.toNat a1.1) (0, ([], ()))).2.1)) then (bif (!(Sp13.upI (List.getD a0 (Int.toNat a1.1) (0, ([], ()))).2.1)) then (some (true, ())) else none) else none) else none) else none)) (fun y2 => (bif y2.1 then (some (.inr (true, ((25, ()), ())))) else (some (.inl ((IntKind.wrap .i64 (a1.1 + 1)), ())))))) else none) else (some (.inr (false, ((0, ()), ())))))
noncomputable def g34 (a0 : Int) (a1 : Int) (a2 : Int) (a3 : (@List (Int × ((List Int) × Unit)))) : (Option (Int × Unit)) :=
  (Option.bind (bif (decide (a2 = 0)) then (some ((decide ((Int.ofNat a3.length) = 0)), ())) else (some (false, ()))) (fun y4 => (Option.bind (bif (!(!(Sp13.inside a0 1 99))) then (bif (!(!(Sp13.inside a1 0 7))) then (bif (!(Sp13.vlen a2)) then (bif (!(!y4.1)) then (some ((@List.any (Int × ((List Int) × Unit)) a3 Sp13.badW), ())) else (some (true, ()))) else (some ((@List.any (Int × ((List Int) × Unit)) a3 Sp13.badW), ()))) else (some (true, ()))) else (some (true, ()))) (fun y5 => (bif y5.1 then (some (2, ())) else (Option.bind (bif (!(decide ((Int.ofNat a3.length) > 256))) then (some ((@List.any (Int × ((List Int) × Unit)) a3 (fun y6 => (decide (24 < y6.2.1.length)))), ())) else (some (true, ()))) (fun y6 => (bif y6.1 then (some (3, ())) else (Option.bind (Loop (@g34_s0 a3) (0, ())) (fun y7 => (bif y7.1 then (some y7.2.1) else (bif (@List.any (Int × ((List Int) × Unit)) a3 (Sp13.selfW a0)) then (some (8, ())) else (some (0, ()))))))))))))))
theorem g34_eq (a0 : Int) (a1 : Int) (a2 : Int) (a3 : (@List (Int × ((List Int) × Unit)))) : (evF (fun _ _ => Loop) E34 G34 Go.Proofs.Tryd.f34 plan34 c34 ((), ((a0, (a1, (a2, (a3, ())))), ()))).den = g34 a0 a1 a2 a3 := by kernel_rfl

noncomputable def g28_s0 (a0 : (Int × (Sp13.Tp × (((@List (Int × (Bool × Unit))) × ((@List Sp13.Lk) × Unit)) × Unit)))) : (Option (Sum (Int × (Sp13.Tp × (((@List (Int × (Bool × Unit))) × ((@List Sp13.Lk) × Unit)) × Unit))) (Sp13.Tp × (((@List (Int × (Bool × Unit))) × ((@List Sp13.Lk) × Unit)) × Unit)))) :=
  (bif (decide (a0.1 < (Int.ofNat a0.2.2.1.1.length))) then (Option.bind (Sp13.on ((Sp13.wf a0.2.1) && (Sp13.small 3)) (Sp13.one a0.2.1 3)) (fun y1 => (bif ((decide (0 ≤ a0.1)) && (decide (a0.1 < (Int.ofNat a0.2.2.1.1.length)))) then (bif (@Nat.blt (Int.toNat a0.1) a0.2.2.1.1.length) then (some (.inl ((IntKind.wrap .i64 (a0.1 + 1)), (y1.2, (((List.set a0.2.2.1.1 (Int.toNat a0.1) ((List.getD a0.2.2.1.1 (Int.toNat a0.1) (0, (false, ()))).1, ((!y1.1), ()))), a0.2.2.1.2), ()))))) else none) else none))) else (some (.inr a0.2)))
noncomputable def g28 (a0 : (List Int)) (a1 : Int) (a2 : Int) : (Option (((@List (Int × (Bool × Unit))) × ((@List Sp13.Lk) × Unit)) × Sp13.Tp)) :=
  (Option.bind (Sp13.on (((Sp13.wf (a0, (a1, ()))) && (Sp13.inside a2 1 50)) && (Sp13.small 0)) (Sp13.topo (a0, (a1, ())) a2 0)) (fun y3 => (Option.bind (Loop g28_s0 (0, (y3.2, (y3.1, ())))) (fun y4 => (some (y4.2.1, y4.1))))))
theorem g28_eq (a0 : (List Int)) (a1 : Int) (a2 : Int) : (evF (fun _ _ => Loop) E28 G28 Go.Proofs.Tryd.f28 plan28 c28 ((a0, (a1, ())), (a2, ()))).den = g28 a0 a1 a2 := by kernel_rfl

noncomputable def g56 (a0 : Int) (a1 : Int) (a2 : Int) (a3 : Int) (a4 : Int) (a5 : Int) (a6 : Int) (a7 : Int) (a8 : Int) (a9 : (List Int)) (a10 : Int) : (Option (Sp13.Pk × Unit)) :=
  (Option.bind (bif (!(!(Sp13.validK (a0, (a1, (a2, (a3, (a4, (a5, (a6, (a7, (a8, (a9, ()))))))))))))) then (bif (!(decide (a10 < 0))) then (bif (!(decide (a10 > 63))) then (bif (decide (0 ≤ a10)) then (some ((decide ((IntKind.wrap .u64 (Int.ofNat (BitVec.toNat (BitVec.and (BitVec.ofInt 64 (@Int.fdiv a8 (@Int.pow 2 (@Min.min Nat instMinNat (Int.toNat a10) 64)))) (BitVec.ofInt 64 1))))) = 0)), ())) else none) else (some (true, ()))) else (some (true, ()))) else (some (true, ()))) (fun y11 => (bif y11.1 then (some ((0, (0, (0, (0, (0, (0, (0, (0, (0, ([], ())))))))))), ())) else (bif (decide (0 ≤ a10)) then (some ((a0, (a1, (a2, (a3, (a4, (a5, (a6, (a7, ((IntKind.wrap .u64 (1 * (@Int.pow 2 (@Min.min Nat instMinNat (Int.toNat a10) 64)))), (a9, ())))))))))), ())) else none))))
theorem g56_eq (a0 : Int) (a1 : Int) (a2 : Int) (a3 : Int) (a4 : Int) (a5 : Int) (a6 : Int) (a7 : Int) (a8 : Int) (a9 : (List Int)) (a10 : Int) : (evF (fun _ _ => Loop) E56 G56 Go.Proofs.Tryd.f56 plan56 c56 ((), ((a0, (a1, (a2, (a3, (a4, (a5, (a6, (a7, (a8, (a9, ())))))))))), (a10, ())))).den = g56 a0 a1 a2 a3 a4 a5 a6 a7 a8 a9 a10 := by kernel_rfl

noncomputable def g100_s0 (a0 : (List Int)) (a1 : (Int × Unit)) (a2 : (Int × Unit)) : (Option (Sum (Int × Unit) (Bool × ((Bool × Unit) × Unit)))) :=
  (bif (decide (a2.1 < a1.1)) then (bif ((decide (0 ≤ a1.1)) && (decide (a1.1 < (Int.ofNat a0.length)))) then (bif ((decide (0 ≤ a2.1)) && (decide (a2.1 < (Int.ofNat a0.length)))) then (bif (decide ((List.getD a0 (Int.toNat a1.1) 0) = (List.getD a0 (Int.toNat a2.1) 0))) then (some (.inr (true, ((true, ()), ())))) else (some (.inl ((IntKind.wrap .i64 (a2.1 + 1)), ())))) else none) else none) else (some (.inr (false, ((false, ()), ())))))
noncomputable def g100_s1 (a0 : (List Int)) (a1 : (Int × Unit)) : (Option (Sum (Int × Unit) (Bool × ((Bool × Unit) × Unit)))) :=
  (bif (decide (a1.1 < (Int.ofNat a0.length))) then (Option.bind (Loop (@g100_s0 a0 a1) (0, ())) (fun y2 => (bif y2.1 then (some (.inr (true, y2.2))) else (some (.inl ((IntKind.wrap .i64 (a1.1 + 1)), ())))))) else (some (.inr (false, ((false, ()), ())))))
noncomputable def g100 (a0 : (List Int)) : (Option (Bool × Unit)) :=
  (Option.bind (Loop (@g100_s1 a0) (0, ())) (fun y1 => (bif y1.1 then (some y1.2.1) else (some (false, ())))))
theorem g100_eq (a0 : (List Int)) : (evF (fun _ _ => Loop) E100 G100 Go.Proofs.Tryd.f100 plan100 c100 ((), (a0, ()))).den = g100 a0 := by kernel_rfl

noncomputable def g46 (a0 : Int) (a1 : Int) (a2 : Int) (a3 : Int) (a4 : Int) (a5 : Int) (a6 : Int) (a7 : Int) (a8 : Int) (a9 : (List Int)) : (Option (Bool × Unit)) :=
  (Option.bind (bif (decide (a0 ≥ 1)) then (bif (decide (a0 ≤ 3)) then (bif (Sp13.inside a1 0 7) then (bif (Sp13.inside a2 0 31) then (bif (Sp13.validB a8 a3) then (bif (Sp13.inside a4 0 63) then (bif (Sp13.inside a5 0 1023) then (bif (Sp13.inside a6 0 256) then (bif (Sp13.inside a7 0 7) then (some ((decide ((Int.ofNat a9.length) ≤ 64)), ())) else (some (false, ()))) else (some (false, ()))) else (some (false, ()))) else (some (false, ()))) else (some (false, ()))) else (some (false, ()))) else (some (false, ()))) else (some (false, ()))) else (some (false, ()))) (fun y10 => (some y10)))
theorem g46_eq (a0 : Int) (a1 : Int) (a2 : Int) (a3 : Int) (a4 : Int) (a5 : Int) (a6 : Int) (a7 : Int) (a8 : Int) (a9 : (List Int)) : (evF (fun _ _ => Loop) E46 G46 Go.Proofs.Tryd.f46 plan46 c46 ((), ((a0, (a1, (a2, (a3, (a4, (a5, (a6, (a7, (a8, (a9, ())))))))))), ()))).den = g46 a0 a1 a2 a3 a4 a5 a6 a7 a8 a9 := by kernel_rfl

noncomputable def g18 (a0 : Int) (a1 : Int) (a2 : Int) (a3 : Int) (a4 : Int) (a5 : Int) (a6 : Int) (a7 : Int) (a8 : Int) (a9 : (List Int)) (a10 : Int) : (Option (Sp13.Pk × Unit)) :=
  (Option.bind (bif (!(!(Sp13.validK (a0, (a1, (a2, (a3, (a4, (a5, (a6, (a7, (a8, (a9, ()))))))))))))) then (some ((!(Sp13.Bt.has a8 a10)), ())) else (some (true, ()))) (fun y11 => (bif y11.1 then (some ((0, (0, (0, (0, (0, (0, (0, (0, (0, ([], ())))))))))), ())) else (some ((a0, (a1, (a2, (a3, (a4, (a5, (a6, (a7, ((Sp13.Bt.bit1 a10), (a9, ())))))))))), ())))))
theorem g18_eq (a0 : Int) (a1 : Int) (a2 : Int) (a3 : Int) (a4 : Int) (a5 : Int) (a6 : Int) (a7 : Int) (a8 : Int) (a9 : (List Int)) (a10 : Int) : (evF (fun _ _ => Loop) E18 G18 Go.Proofs.Tryd.f18 plan18 c18 ((), ((a0, (a1, (a2, (a3, (a4, (a5, (a6, (a7, (a8, (a9, ())))))))))), (a10, ())))).den = g18 a0 a1 a2 a3 a4 a5 a6 a7 a8 a9 a10 := by kernel_rfl

noncomputable def g93_s0 (a0 : (List Int)) (a1 : Int) (a2 : (Int × Unit)) : (Option (Sum (Int × Unit) (Bool × ((Int × Unit) × Unit)))) :=
  (bif (decide (a2.1 < (Int.ofNat a0.length))) then (bif ((decide (0 ≤ a2.1)) && (decide (a2.1 < (Int.ofNat a0.length)))) then (bif (decide (a1 = (List.getD a0 (Int.toNat a2.1) 0))) then (some (.inr (true, (a2, ())))) else (some (.inl ((IntKind.wrap .i64 (a2.1 + 1)), ())))) else none) else (some (.inr (false, ((0, ()), ())))))
noncomputable def g93 (a0 : (List Int)) (a1 : Int) : (Option (Int × Unit)) :=
  (Option.bind (Loop (@g93_s0 a0 a1) (0, ())) (fun y2 => (bif y2.1 then (some y2.2.1) else (some ((-1 : Int), ())))))
theorem g93_eq (a0 : (List Int)) (a1 : Int) : (evF (fun _ _ => Loop) E93 G93 Go.Proofs.Tryd.f93 plan93 c93 ((), (a0, (a1, ())))).den = g93 a0 a1 := by kernel_rfl

noncomputable def g75 (a0 : Int) (a1 : Int) (a2 : Int) (a3 : (@List (Int × ((List Int) × Unit)))) (a4 : Int) (a5 : Int) : (Option (Bool × Unit)) :=
  (Option.bind (bif (decide ((Sp13.chkB (a0, (a1, (a2, (a3, ()))))) = 0)) then (bif (decide (a4 ≥ 0)) then (bif (decide (a4 < 8)) then (bif (decide (a5 ≥ 0)) then (some ((decide (a5 ≤ 31)), ())) else (some (false, ()))) else (some (false, ()))) else (some (false, ()))) else (some (false, ()))) (fun y6 => (some y6)))
theorem g75_eq (a0 : Int) (a1 : Int) (a2 : Int) (a3 : (@List (Int × ((List Int) × Unit)))) (a4 : Int) (a5 : Int) : (evF (fun _ _ => Loop) E75 G75 Go.Proofs.Tryd.f75 plan75 c75 ((), ((a0, (a1, (a2, (a3, ())))), (a4, (a5, ()))))).den = g75 a0 a1 a2 a3 a4 a5 := by kernel_rfl

noncomputable def g54_s0 (a0 : Int) (a1 : (Int × (Int × Unit))) : (Option (Sum (Int × (Int × Unit)) (Int × Unit))) :=
  (bif (decide (a1.1 < a0)) then (some (.inl ((IntKind.wrap .i64 (a1.1 + 1)), ((IntKind.wrap .u64 (Int.ofNat (BitVec.toNat (BitVec.or (BitVec.ofInt 64 a1.2.1) (BitVec.ofInt 64 (Sp13.Bt.bit1 a1.1)))))), ())))) else (some (.inr a1.2)))
noncomputable def g54 (a0 : Int) : (Option (Int × Unit)) :=
  (bif (!(Sp13.vlen a0)) then (some (0, ())) else (Option.bind (Loop (@g54_s0 a0) (0, (0, ()))) (fun y1 => (some y1))))
theorem g54_eq (a0 : Int) : (evF (fun _ _ => Loop) E54 G54 Go.Proofs.Tryd.f54 plan54 c54 ((), (a0, ()))).den = g54 a0 := by kernel_rfl

noncomputable def g87 (a0 : (@List (Int × (Bool × Unit)))) (a1 : (@List Sp13.Lk)) (a2 : Int) (a3 : Int) (a4 : (@List (Int × (Int × Unit)))) (a5 : Int) : (Option (Sp13.Tb × Unit)) :=
  Sp13.r87 a0 a1 a2 a3 a4 a5
theorem g87_eq (a0 : (@List (Int × (Bool × Unit)))) (a1 : (@List Sp13.Lk)) (a2 : Int) (a3 : Int) (a4 : (@List (Int × (Int × Unit)))) (a5 : Int) : (evF (fun _ _ => Loop) E87 G87 Go.Proofs.Tryd.f87 plan87 c87 ((), ((a0, (a1, ())), ((a2, (a3, (a4, ()))), (a5, ()))))).den = g87 a0 a1 a2 a3 a4 a5 := by kernel_rfl

noncomputable def g49 (a0 : (List Int)) (a1 : Int) (a2 : Int) (a3 : Int) : (Option (Int × Sp13.Tp)) :=
  (Option.bind (Sp13.on (Sp13.wf (a0, (a1, ()))) (Sp13.next (a0, (a1, ())) (IntKind.wrap .i64 ((IntKind.wrap .i64 (a3 - a2)) + 1)))) (fun y4 => (some ((IntKind.wrap .i64 (a2 + y4.1)), y4.2))))
theorem g49_eq (a0 : (List Int)) (a1 : Int) (a2 : Int) (a3 : Int) : (evF (fun _ _ => Loop) E49 G49 Go.Proofs.Tryd.f49 plan49 c49 ((a0, (a1, ())), (a2, (a3, ())))).den = g49 a0 a1 a2 a3 := by kernel_rfl

noncomputable def g50 (a0 : Int) (a1 : Int) : (Option (Int × Unit)) :=
  (bif (decide (a1 < 1)) then (some (0, ())) else (bif (!(decide (a1 = 0))) then (Option.bind (bif (decide ((@Int.tmod a0 a1) < 0)) then (some ((IntKind.wrap .i64 ((@Int.tmod a0 a1) + a1)), ())) else (some ((@Int.tmod a0 a1), ()))) (fun y2 => (some y2))) else none))
theorem g50_eq (a0 : Int) (a1 : Int) : (evF (fun _ _ => Loop) E50 G50 Go.Proofs.Tryd.f50 plan50 c50 ((), (a0, (a1, ())))).den = g50 a0 a1 := by kernel_rfl

noncomputable def g84 (a0 : Int) (a1 : Int) : (Option (Bool × Unit)) :=
  (Option.bind (bif (Sp13.vlen a1) then (some ((decide ((IntKind.wrap .u64 (Int.ofNat (BitVec.toNat (BitVec.and (BitVec.ofInt 64 a0) (BitVec.not (BitVec.ofInt 64 (Sp13.Bt.full a1))))))) = 0)), ())) else (some (false, ()))) (fun y2 => (some y2)))
theorem g84_eq (a0 : Int) (a1 : Int) : (evF (fun _ _ => Loop) E84 G84 Go.Proofs.Tryd.f84 plan84 c84 ((), (a0, (a1, ())))).den = g84 a0 a1 := by kernel_rfl

noncomputable def g20 (a0 : (List Int)) (a1 : Int) (a2 : Int) : (Option (Int × Sp13.Tp)) :=
  (Option.bind (Sp13.on (Sp13.wf (a0, (a1, ()))) (Sp13.raw (a0, (a1, ())))) (fun y3 => (some ((Sp13.cut y3.1 a2), y3.2))))
theorem g20_eq (a0 : (List Int)) (a1 : Int) (a2 : Int) : (evF (fun _ _ => Loop) E20 G20 Go.Proofs.Tryd.f20 plan20 c20 ((a0, (a1, ())), (a2, ()))).den = g20 a0 a1 a2 := by kernel_rfl

noncomputable def g80 (a0 : Int) : (Option (Bool × Unit)) :=
  (Option.bind (bif (!(decide (a0 = 8))) then (bif (!(decide (a0 = 16))) then (bif (!(decide (a0 = 32))) then (some ((decide (a0 = 64)), ())) else (some (true, ()))) else (some (true, ()))) else (some (true, ()))) (fun y1 => (some y1)))
theorem g80_eq (a0 : Int) : (evF (fun _ _ => Loop) E80 G80 Go.Proofs.Tryd.f80 plan80 c80 ((), (a0, ()))).den = g80 a0 := by kernel_rfl

noncomputable def g58 (a0 : Int) (a1 : Int) (a2 : Int) (a3 : (@List (Int × ((List Int) × Unit)))) : (Option (Sp13.Tb × Unit)) :=
  Sp13.r58 a0 a1 a2 a3
theorem g58_eq (a0 : Int) (a1 : Int) (a2 : Int) (a3 : (@List (Int × ((List Int) × Unit)))) : (evF (fun _ _ => Loop) E58 G58 Go.Proofs.Tryd.f58 plan58 c58 ((), ((a0, (a1, (a2, (a3, ())))), ()))).den = g58 a0 a1 a2 a3 := by kernel_rfl

noncomputable def g74 (a0 : Int) (a1 : Int) (a2 : Int) : (Option (Bool × Unit)) :=
  (Option.bind (bif (decide (a0 ≥ a1)) then (some ((decide (a0 ≤ a2)), ())) else (some (false, ()))) (fun y3 => (some y3)))
theorem g74_eq (a0 : Int) (a1 : Int) (a2 : Int) : (evF (fun _ _ => Loop) E74 G74 Go.Proofs.Tryd.f74 plan74 c74 ((), (a0, (a1, (a2, ()))))).den = g74 a0 a1 a2 := by kernel_rfl

noncomputable def g42 : (Option (Sp13.Tb × Unit)) :=
  (some ((1, (0, (8, (((1, ((2 :: (3 :: [])), ())) :: ((2, ((3 :: []), ())) :: [])), ())))), ()))
theorem g42_eq : (evF (fun _ _ => Loop) E42 G42 Go.Proofs.Tryd.f42 plan42 c42 ((), ())).den = g42  := by kernel_rfl

noncomputable def g65 (a0 : (@List (Int × ((List Int) × Unit)))) : (Option (Bool × Unit)) :=
  (some ((decide ((Sp13.idx Sp13.badW a0) ≥ 0)), ()))
theorem g65_eq (a0 : (@List (Int × ((List Int) × Unit)))) : (evF (fun _ _ => Loop) E65 G65 Go.Proofs.Tryd.f65 plan65 c65 ((), (a0, ((), ())))).den = g65 a0 := by kernel_rfl

noncomputable def g107 (a0 : (List Int)) (a1 : Int) : (Option ((List Int) × Unit)) :=
  Sp13.r107 a0 a1
theorem g107_eq (a0 : (List Int)) (a1 : Int) : (evF (fun _ _ => Loop) E107 G107 Go.Proofs.Tryd.f107 plan107 c107 ((), (a0, (a1, ())))).den = g107 a0 a1 := by kernel_rfl
end Go.Abs.C13

namespace Sp13
open Go Go.Abs

theorem on_some {α : Type} {b : Bool} {x y : α} (h : on b x = some y) : b = true ∧ x = y := by
  unfold on at h
  cases b with
  | false => cases h
  | true => exact ⟨rfl, Option.some.inj h⟩
theorem on_true {α : Type} {b : Bool} {x : α} (h : b = true) : on b x = some x := by rw [h]; rfl
end Sp13

namespace Go.Abs.C13
open Go Go.Proofs Sp13

abbrev B : Env := mkE tab gl 0 false []
theorem glue {f : Nat} {fn : Func} {n : Nat} {hp : Bool} {md : List (Nat × Nat)} (L : List (Nat × Con)) (hL : ∀ g con, lookC L g = some con → FunOk Tryd.prog B (g % 1000000) con) (plan : Plan) {c : Con}
    (hf : Tryd.prog.funcs[f]? = some fn) (hck : fnCheck (mkE tab gl n hp md) fn c = true)
    (hF : ∀ x y, c.okV x → c.F x = some y → (evF (fun _ _ => Loop) (mkE tab gl n hp md) (lookC L) fn plan c x).den = some y) : FunOk Tryd.prog B f c :=
  FunOk.env (E := mkE tab gl n hp md) rfl (fun_ok (pok n hp md) mix (fun g con h => FunOk.env (E := B) rfl (hL g con h)) plan hf hck hF)
theorem orI (a b : Bool) : (bif a then (some (b, ()) : Option (Bool × Unit)) else some (false, ())) = some (a && b, ()) := by cases a <;> rfl
theorem inside_iff {n a b : Int} : inside n a b = true ↔ a ≤ n ∧ n ≤ b := by simp [inside]
theorem len_ed {l : List Ed} (h : (Ty.sl edT).ok l) : l.length ≤ 8796093022208 := by
  have h : l.length * 16 ≤ 140737488355328 := h.1
  omega
theorem len_i {l : List Int} (h : (Ty.sl (.int .i64)).ok l) : l.length ≤ 17592186044416 := by
  have h : l.length * 8 ≤ 140737488355328 := h.1
  omega
theorem g64_ok (a0 : Int) (r0 : IntKind.i64.has a0) : g64 a0 = some (Sp13.vlen a0, ()) := by
  unfold g64 Sp13.vlen
  cases decide (a0 = 8) <;> cases decide (a0 = 16) <;> cases decide (a0 = 32) <;> rfl
theorem g80_ok (a0 : Int) (r0 : IntKind.i64.has a0) : g80 a0 = some (Sp13.vlen a0, ()) := by
  unfold g80 Sp13.vlen
  cases decide (a0 = 8) <;> cases decide (a0 = 16) <;> cases decide (a0 = 32) <;> rfl
theorem g74_ok (a0 : Int) (a1 : Int) (a2 : Int) (r0 : IntKind.i64.has a0) (r1 : IntKind.i64.has a1) (r2 : IntKind.i64.has a2) : g74 a0 a1 a2 = some (Sp13.inside a0 a1 a2, ()) := by
  unfold g74 Sp13.inside
  rw [orI]
  rfl
theorem g89_ok (a0 : Int) (a1 : Int) (a2 : Int) (r0 : IntKind.i64.has a0) (r1 : IntKind.i64.has a1) (r2 : IntKind.i64.has a2) : g89 a0 a1 a2 = some (Sp13.inside a0 a1 a2, ()) := by
  unfold g89 Sp13.inside
  rw [orI]
  rfl
end Go.Abs.C13

namespace Go.Abs.C13
open Go Go.Proofs Sp13

theorem wf_iff {t : Tp} : wf t = true ↔ 0 ≤ t.2.1 ∧ t.2.1 ≤ t.1.length ∧ t.1.length ≤ 600 := by
  simp [wf, and_assoc]
theorem small_iff {n : Int} : small n = true ↔ -2305843009213693952 ≤ n ∧ n ≤ 2305843009213693952 := by
  simp [small]
theorem raw_wf {t : Tp} (h : wf t = true) : wf (raw t).2 = true := by
  obtain ⟨l, a, ⟨⟩⟩ := t
  obtain ⟨h1, h2, h3⟩ := wf_iff.1 h
  simp only at h1 h2 h3
  unfold raw
  by_cases h4 : a < l.length
  · simp only [h4, decide_true, cond_true]
    exact wf_iff.2 ⟨by simp only; omega, by simp only; omega, h3⟩
  · simp only [h4, decide_false, cond_false]
    exact h
theorem next_wf {t : Tp} {n : Int} (h : wf t = true) : wf (next t n).2 = true := raw_wf h
theorem cut_nonneg {x n : Int} : 0 ≤ cut x n := by
  unfold cut
  by_cases h : n < 1
  · simp [h]
  · simp only [h, decide_false, cond_false]
    exact Int.emod_nonneg x (by omega)
theorem cut_lt {x n : Int} (h : 1 ≤ n) : cut x n < n := by
  unfold cut
  have h' : ¬ n < 1 := by omega
  simp only [h', decide_false, cond_false]
  exact Int.emod_lt_of_pos x (by omega)
theorem next_range {t : Tp} {n : Int} (h : 1 ≤ n) : 0 ≤ (next t n).1 ∧ (next t n).1 < n := ⟨cut_nonneg, cut_lt h⟩
theorem range_wf {t : Tp} {a b : Int} (h : wf t = true) : wf (range t a b).2 = true := next_wf (n := b - a + 1) h
theorem range_in {t : Tp} {a b : Int} (h : a ≤ b) : a ≤ (range t a b).1 ∧ (range t a b).1 ≤ b := by
  have := next_range (t := t) (n := b - a + 1) (by omega)
  unfold range
  simp only
  omega
theorem next_bound {t : Tp} {n : Int} : 0 ≤ (next t n).1 ∧ ((next t n).1 < n ∨ (next t n).1 = 0) := by
  by_cases h : 1 ≤ n
  · have := next_range (t := t) h
    exact ⟨this.1, .inl this.2⟩
  · refine ⟨cut_nonneg, .inr ?_⟩
    show cut (raw t).1 n = 0
    unfold cut
    have : n < 1 := by omega
    simp [this]
theorem one_wf {t : Tp} {n : Int} (h : wf t = true) : wf (one t n).2 = true := next_wf (n := n) h
theorem wild_wf {t : Tp} (h : wf t = true) : wf (wild t).2 = true := next_wf (n := (wilds.length : Int)) h
theorem tape_wf (l : List Int) : wf (Sp13.tape l) = true := wf_iff.2 ⟨by simp [Sp13.tape], by simp [Sp13.tape], by simp [Sp13.tape]; omega⟩

theorem g51_ok (a0 : (List Int)) (a1 : Int) (r0 : (Ty.sl (.int .i64)).ok a0) (r1 : IntKind.i64.has a1) (h : (Sp13.wf (a0, a1, ())) = true) : g51 a0 a1 = some (Sp13.raw (a0, a1, ())) := by
  obtain ⟨h1, h2, h3⟩ := wf_iff.1 h
  simp only at h1 h2 h3
  unfold g51 Sp13.raw
  by_cases h4 : a1 < a0.length
  · have h5 : ¬ a1 ≥ (a0.length : Int) := by omega
    have e1 : IntKind.wrap .i64 (a1 + 1) = a1 + 1 := wi64 (by omega) (by omega)
    have e2 : IntKind.wrap .i64 (a1 + 1 - 1) = a1 := by rw [show a1 + 1 - 1 = a1 by omega]; exact wi64 (by omega) (by omega)
    simp only [Int.ofNat_eq_natCast, e1, e2, h5, h4, h1, decide_true, decide_false, cond_true, cond_false, Bool.and_self]
  · have h5 : a1 ≥ (a0.length : Int) := by omega
    simp only [Int.ofNat_eq_natCast, h5, h4, decide_true, decide_false, cond_true, cond_false]

theorem g50_ok (a0 : Int) (a1 : Int) (r0 : IntKind.i64.has a0) (r1 : IntKind.i64.has a1) : g50 a0 a1 = some (Sp13.cut a0 a1, ()) := by
  have hm := (has_i64 r1).2
  unfold g50 Sp13.cut
  by_cases h : a1 < 1
  · simp [h]
  · have h0 : ¬ a1 = 0 := by omega
    have hp : 0 < a1 := by omega
    have e1 := Int.emod_nonneg a0 h0
    have e2 := Int.emod_lt_of_pos a0 hp
    have e3 : a0.tmod a1 = if 0 ≤ a0 ∨ a1 ∣ a0 then a0 % a1 else a0 % a1 - a1 := by
      rw [Int.tmod_eq_emod]
      split <;> rename_i h <;> simp [h]
      omega
    by_cases h5 : 0 ≤ a0 ∨ a1 ∣ a0
    · rw [if_pos h5] at e3
      have : ¬ a0 % a1 < 0 := by omega
      simp [h, h0, e3, this]
      rfl
    · rw [if_neg h5] at e3
      have h6 : a0 % a1 - a1 < 0 := by omega
      have h7 : a0 % a1 - a1 + a1 = a0 % a1 := by omega
      have h8 : IntKind.wrap .i64 (a0 % a1) = a0 % a1 := wi64 (by omega) (by omega)
      simp only [h, h0, e3, h6, h7, h8, decide_true, decide_false, cond_true, cond_false, Bool.not_false, Option.bind]
      rfl

theorem g20_ok (a0 : (List Int)) (a1 : Int) (a2 : Int) (r0 : (Ty.sl (.int .i64)).ok a0) (r1 : IntKind.i64.has a1) (r2 : IntKind.i64.has a2) (h : (Sp13.wf (a0, a1, ())) = true) : g20 a0 a1 a2 = some (Sp13.next (a0, a1, ()) a2) := by
  unfold g20
  rw [on_true h]
  rfl

theorem g49_ok (a0 : (List Int)) (a1 : Int) (a2 : Int) (a3 : Int) (r0 : (Ty.sl (.int .i64)).ok a0) (r1 : IntKind.i64.has a1) (r2 : IntKind.i64.has a2) (r3 : IntKind.i64.has a3) (h : (Sp13.wf (a0, a1, ()) && Sp13.small a2 && Sp13.small a3) = true) : g49 a0 a1 a2 a3 = some (Sp13.range (a0, a1, ()) a2 a3) := by
  simp only [Bool.and_eq_true] at h
  have k2 := small_iff.1 h.1.2
  have k3 := small_iff.1 h.2
  unfold g49 Sp13.range
  rw [on_true h.1.1]
  have e1 : IntKind.wrap .i64 (a3 - a2) = a3 - a2 := wi64 (by omega) (by omega)
  have e2 : IntKind.wrap .i64 (a3 - a2 + 1) = a3 - a2 + 1 := wi64 (by omega) (by omega)
  have hb := next_bound (t := (a0, a1, ())) (n := a3 - a2 + 1)
  have e3 : IntKind.wrap .i64 (a2 + (next (a0, a1, ()) (a3 - a2 + 1)).1) = a2 + (next (a0, a1, ()) (a3 - a2 + 1)).1 := wi64 (by omega) (by omega)
  simp only [e1, e2, Option.bind, e3]

theorem g33_ok (a0 : (List Int)) (a1 : Int) (a2 : Int) (r0 : (Ty.sl (.int .i64)).ok a0) (r1 : IntKind.i64.has a1) (r2 : IntKind.i64.has a2) (h : (Sp13.wf (a0, a1, ()) && Sp13.small a2) = true) : g33 a0 a1 a2 = some (Sp13.one (a0, a1, ()) a2) := by
  simp only [Bool.and_eq_true] at h
  have k2 := small_iff.1 h.2
  unfold g33 Sp13.one
  rw [on_true h.1]
  have e1 : IntKind.wrap .i64 (a2 - 1) = a2 - 1 := wi64 (by omega) (by omega)
  simp only [e1, Option.bind]

theorem g31_ok (a0 : (List Int)) (a1 : Int) (a2 : (List Int)) (r0 : (Ty.sl (.int .i64)).ok a0) (r1 : IntKind.i64.has a1) (r2 : (Ty.sl (.int .i64)).ok a2) (h : (Sp13.wf (a0, a1, ()) && decide (0 < a2.length) && decide (a2.length ≤ 1000)) = true) : g31 a0 a1 a2 = some (Sp13.pick (a0, a1, ()) a2) := by
  simp only [Bool.and_eq_true, decide_eq_true_eq] at h
  unfold g31 Sp13.pick
  rw [on_true h.1.1]
  have hb := next_range (t := (a0, a1, ())) (n := (a2.length : Int)) (by omega)
  simp only [Int.ofNat_eq_natCast, Option.bind, hb.1, hb.2, decide_true, Bool.and_self, cond_true]

theorem g53_ok (a0 : List Int) (a1 : Int) (r0 : (Ty.sl (.int .i64)).ok a0) (r1 : IntKind.i64.has a1) (h : (Sp13.wf (a0, a1, ())) = true) : g53 a0 a1 = some (Sp13.wild (a0, a1, ())) := by
  unfold g53
  rw [show (wf (a0, a1, ()) && true && true) = true by rw [h]; rfl]
  rfl

theorem g8_ok (a0 : (List Int)) (r0 : (Ty.sl (.int .i64)).ok a0) : g8 a0 = some (Sp13.tape a0, ()) := by
  unfold g8 Sp13.tape
  by_cases h : (600 : Int) < a0.length
  · have h2 : (600 : Int) ≤ a0.length := by omega
    simp [GT.gt, h, h2]
  · have : a0.take 600 = a0 := List.take_of_length_le (by omega)
    simp [GT.gt, h, this]

theorem pick_wf {t : Tp} {l : List Int} (h : wf t = true) : wf (Sp13.pick t l).2 = true := next_wf (n := (l.length : Int)) h
theorem g52_ok (a0 : (List Int)) (a1 : Int) (r0 : (Ty.sl (.int .i64)).ok a0) (r1 : IntKind.i64.has a1) (h : (Sp13.wf (a0, a1, ())) = true) : g52 a0 a1 = some (Sp13.length (a0, a1, ())) := by
  unfold g52 Sp13.length
  rw [on_true (by rw [h]; rfl)]
  rfl
theorem length_wf {t : Tp} (h : wf t = true) : wf (Sp13.length t).2 = true := pick_wf h
end Go.Abs.C13

namespace Go.Abs.C13
open Go Go.Proofs Sp13
set_option maxRecDepth 100000

theorem idx_any {α : Type} (p : α → Bool) (l : List α) : decide (idx p l ≥ 0) = l.any p := by
  unfold idx
  cases l.any p with
  | true => exact decide_eq_true (by show (0 : Int) ≤ ((_ : Nat) : Int); omega)
  | false => exact decide_eq_false (by show ¬ (-1 : Int) ≥ 0; decide)
theorem find_loop {α : Type} (f : (Int × Unit) → Option (Sum (Int × Unit) (Bool × ((Int × Unit) × Unit)))) (l : List α) (p : α → Bool) (d : α)
    (hs : ∀ i : Nat, i < l.length → f ((i : Int), ()) = bif p (l.getD i d) then some (.inr (true, (((i : Int), ()), ()))) else some (.inl (((i + 1 : Nat) : Int), ())))
    (he : f ((l.length : Int), ()) = some (.inr (false, ((0, ()), ())))) : Option.bind (Loop f ((0 : Int), ())) (fun y1 => bif y1.1 then some y1.2.1 else some ((-1 : Int), ())) = some (idx p l, ()) := by
  have key : ∀ j k, k + j = l.length → (∀ i, i < k → p (l.getD i d) = false) → Option.bind (Loop f ((k : Int), ())) (fun y1 => bif y1.1 then some y1.2.1 else some ((-1 : Int), ())) = some (idx p l, ()) := by
    intro j
    induction j with
    | zero =>
      intro k hk hn
      have hk : k = l.length := by omega
      subst hk
      have ha : l.any p = false := by
        rw [Bool.eq_false_iff]
        intro h
        obtain ⟨x, hx, hp⟩ := List.any_eq_true.1 h
        obtain ⟨i, hi, rfl⟩ := List.getElem_of_mem hx
        have := hn i hi
        rw [List.getD_eq_getElem?_getD, List.getElem?_eq_getElem hi] at this
        have this : p l[i] = false := this
        rw [hp] at this
        cases this
      rw [Loop_step, he]
      unfold idx
      rw [ha]
      rfl
    | succ j ih =>
      intro k hk hn
      rw [Loop_step, hs k (by omega)]
      cases hp : p (l.getD k d) with
      | true =>
        have hlt : k < l.length := by omega
        have e : l.getD k d = l[k] := by rw [List.getD_eq_getElem?_getD, List.getElem?_eq_getElem hlt]; rfl
        have ha : l.any p = true := List.any_eq_true.2 ⟨l[k], List.getElem_mem _, by rw [← e]; exact hp⟩
        have hf : l.findIdx p = k := by
          rw [List.findIdx_eq hlt]
          refine ⟨by rw [← e]; exact hp, fun i hi => ?_⟩
          have := hn i hi
          rw [List.getD_eq_getElem?_getD, List.getElem?_eq_getElem (by omega)] at this
          simpa using this
        unfold idx
        rw [ha, hf]
        rfl
      | false =>
        refine ih (k + 1) (by omega) fun i hi => ?_
        by_cases h : i = k
        · rw [h]; exact hp
        · exact hn i (by omega)
  exact key l.length 0 (by omega) (fun i hi => absurd hi (by omega))
end Go.Abs.C13

namespace Go.Abs.C13
open Go Go.Proofs Sp13
set_option maxRecDepth 100000

end Go.Abs.C13

namespace Go.Abs.C13
open Go Go.Proofs Sp13
set_option maxRecDepth 100000

theorem rep_iff : ∀ l : List Int, repeats l = true ↔ ∃ i j, i < j ∧ j < l.length ∧ l.getD i 0 = l.getD j 0
  | [] => ⟨fun h => (by cases h), fun ⟨i, j, _, h, _⟩ => absurd h (by simp)⟩
  | x :: r => by
    rw [repeats, Bool.or_eq_true, rep_iff r, List.any_eq_true]
    constructor
    · rintro (⟨y, hy, h⟩ | ⟨i, j, h1, h2, h3⟩)
      · obtain ⟨j, hj, rfl⟩ := List.getElem_of_mem hy
        refine ⟨0, j + 1, by omega, by simp; omega, ?_⟩
        rw [List.getD_cons_succ, getD_ix hj]
        exact (of_decide_eq_true h).symm
      · exact ⟨i + 1, j + 1, by omega, by simp; omega, by simpa using h3⟩
    · rintro ⟨i, j, h1, h2, h3⟩
      obtain ⟨j, rfl⟩ : ∃ k, j = k + 1 := ⟨j - 1, by omega⟩
      have hj : j < r.length := by simpa using h2
      cases i with
      | zero =>
        left
        rw [List.getD_cons_succ, getD_ix hj] at h3
        exact ⟨r[j], List.getElem_mem _, decide_eq_true h3.symm⟩
      | succ i => exact .inr ⟨i, j, by omega, hj, by simpa using h3⟩
theorem rep_any (l : List Int) : repeats l = (List.range l.length).any fun i => (List.range i).any fun k => decide (l.getD i 0 = l.getD k 0) := by
  rw [Bool.eq_iff_iff, rep_iff]
  simp only [List.any_eq_true, List.mem_range, decide_eq_true_eq]
  constructor
  · rintro ⟨i, j, h1, h2, h3⟩; exact ⟨j, h2, i, h1, h3.symm⟩
  · rintro ⟨j, h2, i, h1, h3⟩; exact ⟨i, j, h1, h2, h3.symm⟩
theorem g100_ok (a0 : (List Int)) (r0 : (Ty.sl (.int .i64)).ok a0) : g100 a0 = some (Sp13.repeats a0, ()) := by
  have hl := len_i r0
  have hin : ∀ i : Nat, i < a0.length → Loop (g100_s0 a0 ((i : Int), ())) ((0 : Int), ()) = some (bif (List.range i).any (fun k => decide (a0.getD i 0 = a0.getD k 0)) then (true, ((true, ()), ())) else (false, ((false, ()), ()))) := by
    intro i hi
    refine scanN _ i (fun k => decide (a0.getD i 0 = a0.getD k 0)) _ _ (fun k hk => ?_) ?_
    · unfold g100_s0
      simp only [Int.ofNat_eq_natCast, Int.toNat_natCast]
      rw [dT (show (k : Int) < (i : Int) by omega), dT (show (0 : Int) ≤ (i : Int) by omega), dT (show (i : Int) < (a0.length : Int) by omega), dT (show (0 : Int) ≤ (k : Int) by omega), dT (show (k : Int) < (a0.length : Int) by omega), wi64n (by omega)]
      cases decide (a0.getD i 0 = a0.getD k 0) <;> rfl
    · unfold g100_s0
      rw [dF (show ¬ ((i : Int), ()).1 < ((i : Int), ()).1 by simp only; omega)]
      rfl
  have hout : Loop (g100_s1 a0) ((0 : Int), ()) = some (bif repeats a0 then (true, ((true, ()), ())) else (false, ((false, ()), ()))) := by
    rw [rep_any]
    refine scanN _ a0.length _ _ _ (fun i hi => ?_) ?_
    · unfold g100_s1
      rw [hin i hi]
      simp only [Int.ofNat_eq_natCast]
      rw [dT (show (i : Int) < (a0.length : Int) by omega), wi64n (by omega)]
      cases (List.range i).any (fun k => decide (a0.getD i 0 = a0.getD k 0)) <;> rfl
    · unfold g100_s1
      simp only [Int.ofNat_eq_natCast]
      rw [dF (show ¬ (a0.length : Int) < (a0.length : Int) by omega)]
      rfl
  unfold g100
  rw [hout]
  cases repeats a0 <;> rfl
def badE (l : List Ed) (i : Nat) : Bool := !inside (l.getD i zE).2.1 1 256 || !inside (l.getD i zE).1 1 99 || (decide (0 < i) && decide ((l.getD i zE).2.1 ≤ (l.getD (i - 1) zE).2.1))
theorem badE_any (l : List Ed) : (List.range l.length).any (badE l) = !((l.all fun e => inside e.2.1 1 256 && inside e.1 1 99) && upE l) := by
  rw [Bool.eq_iff_iff, List.any_eq_true, Bool.not_eq_true', Bool.and_eq_false_iff, List.all_eq_false]
  unfold upE badE
  rw [List.all_eq_false]
  constructor
  · rintro ⟨i, hi, h⟩
    have hi := List.mem_range.1 hi
    rw [Bool.or_eq_true, Bool.or_eq_true] at h
    rcases h with (h | h) | h
    · refine .inl ⟨l[i], List.getElem_mem _, ?_⟩
      rw [← getD_ix (d := zE) hi]
      rw [Bool.not_eq_true'] at h
      rw [h, Bool.false_and]
      exact Bool.false_ne_true
    · refine .inl ⟨l[i], List.getElem_mem _, ?_⟩
      rw [← getD_ix (d := zE) hi]
      rw [Bool.not_eq_true'] at h
      rw [h, Bool.and_false]
      exact Bool.false_ne_true
    · rw [Bool.and_eq_true, decide_eq_true_eq, decide_eq_true_eq] at h
      refine .inr ⟨i - 1, List.mem_range.2 (by omega), ?_⟩
      rw [show i - 1 + 1 = i by omega, decide_eq_true_eq]
      omega
  · rintro (⟨x, hx, h⟩ | ⟨i, hi, h⟩)
    · obtain ⟨i, hi, rfl⟩ := List.getElem_of_mem hx
      refine ⟨i, List.mem_range.2 hi, ?_⟩
      rw [getD_ix hi]
      rw [Bool.not_eq_true, Bool.and_eq_false_iff] at h
      rcases h with h | h <;> rw [h] <;> simp
    · have hi := List.mem_range.1 hi
      refine ⟨i + 1, List.mem_range.2 (by omega), ?_⟩
      rw [decide_eq_true_eq] at h
      rw [show i + 1 - 1 = i by omega, dT (show 0 < i + 1 by omega), dT (show (l.getD (i + 1) zE).2.1 ≤ (l.getD i zE).2.1 by omega)]
      simp
theorem any_or {α : Type} (l : List α) (p q : α → Bool) : l.any (fun x => p x || q x) = (l.any p || l.any q) := by
  induction l with
  | nil => rfl
  | cons x r ih => simp only [List.any_cons, ih]; cases p x <;> cases q x <;> simp
end Go.Abs.C13

namespace Go.Abs.C13
open Go Go.Proofs Sp13
set_option maxRecDepth 100000
theorem g86_ok (a0 : Int) (a1 : Int) (a2 : (List (Int × (Int × Unit)))) (r0 : IntKind.i64.has a0) (r1 : IntKind.i64.has a1) (r2 : (Ty.sl (edT)).ok a2) : g86 a0 a1 a2 = some (Sp13.validP (a0, a1, a2, ()), ()) := by
  have hl := len_ed r2
  have hL : Loop (g86_s0 a2) ((0 : Int), (([] : List Int), ())) = some (bif (List.range a2.length).any (badE a2) then (true, ((false, ()), (([] : List Int), ()))) else (false, ((false, ()), ((a2.map fun e => e.1), ())))) := by
    refine Loop_seqB (fun k => ((k : Int), (((a2.take k).map fun e => e.1), ()))) a2.length _ (badE a2) _ (fun i hi => ?_) ?_
    · have hm : ((List.map (fun e : Ed => e.1) (List.take (i + 1) a2))) = (a2.take i).map (fun e : Ed => e.1) ++ ((a2.getD i (0, 0, ())).1 :: []) := by
        rw [take_succ_getD a2 i (0, 0, ()) hi, List.map_append]; rfl
      rw [hm]
      unfold g86_s0 badE
      simp only [Int.ofNat_eq_natCast, Int.toNat_natCast]
      rw [dT (show (i : Int) < (a2.length : Int) by omega), dT (show (0 : Int) ≤ (i : Int) by omega), wi64n (by omega), ble_t (show ((List.map (fun e : Ed => e.1) (List.take i a2)).length + 1) * 8 ≤ 140737488355328 by rw [List.length_map, List.length_take]; omega)]
      cases Sp13.inside (a2.getD i (0, 0, ())).2.1 1 256 <;> cases Sp13.inside (a2.getD i (0, 0, ())).1 1 99 <;> first | rfl | skip
      by_cases h0 : 0 < i
      · rw [dT (show (i : Int) > 0 by omega), dT h0, wi64p h0 (by omega), dT (show (0 : Int) ≤ ((i - 1 : Nat) : Int) by omega), dT (show ((i - 1 : Nat) : Int) < (a2.length : Int) by omega)]
        simp only [Int.toNat_natCast]
        by_cases h1 : (a2.getD i (0, 0, ())).2.1 ≤ (a2.getD (i - 1) (0, 0, ())).2.1
        · rw [dT (show (a2.getD (i - 1) (0, 0, ())).2.1 ≥ (a2.getD i (0, 0, ())).2.1 from h1)]; first | rfl | (rw [dT h1]; rfl)
        · rw [dF (show ¬ (a2.getD (i - 1) (0, 0, ())).2.1 ≥ (a2.getD i (0, 0, ())).2.1 from h1)]; first | rfl | (rw [dF h1]; rfl)
      · rw [dF (show ¬ (i : Int) > 0 by omega), dF h0]; rfl
    · unfold g86_s0
      simp only [Int.ofNat_eq_natCast]
      rw [dF (show ¬ (a2.length : Int) < (a2.length : Int) by omega), List.take_length]
      rfl
  unfold g86 validP
  rw [hL, badE_any]
  simp only [Int.ofNat_eq_natCast]
  by_cases q1 : a1 = 0
  · rw [dT q1]
    by_cases q2 : a2.length = 0
    · rw [dF (show ¬ (a2.length : Int) > 0 by omega), dT q2, dF (show ¬ (a2.length : Int) > 24 by omega), dT (show a2.length ≤ 24 by omega)]
      cases Sp13.inside a0 0 7 <;> cases vlen a1 <;> cases a2.all (fun e => Sp13.inside e.2.1 1 256 && Sp13.inside e.1 1 99) <;> cases upE a2 <;> rfl
    · rw [dT (show (a2.length : Int) > 0 by omega), dF q2]
      by_cases q3 : a2.length ≤ 24
      · rw [dF (show ¬ (a2.length : Int) > 24 by omega), dT q3]
        cases Sp13.inside a0 0 7 <;> cases vlen a1 <;> cases a2.all (fun e => Sp13.inside e.2.1 1 256 && Sp13.inside e.1 1 99) <;> cases upE a2 <;> rfl
      · rw [dT (show (a2.length : Int) > 24 by omega), dF q3]
        cases Sp13.inside a0 0 7 <;> cases vlen a1 <;> rfl
  · rw [dF q1]
    by_cases q3 : a2.length ≤ 24
    · rw [dF (show ¬ (a2.length : Int) > 24 by omega), dT q3]
      cases Sp13.inside a0 0 7 <;> cases vlen a1 <;> cases a2.all (fun e => Sp13.inside e.2.1 1 256 && Sp13.inside e.1 1 99) <;> cases upE a2 <;> rfl
    · rw [dT (show (a2.length : Int) > 24 by omega), dF q3]
      cases Sp13.inside a0 0 7 <;> cases vlen a1 <;> rfl
theorem vlen_iff {n : Int} : vlen n = true ↔ n = 8 ∨ n = 16 ∨ n = 32 ∨ n = 64 := by
  simp [vlen, or_assoc]
theorem place_eq (a0 a1 : Int) : (Option.bind (bif (!(!(vlen a1))) then (some ((!(Sp13.inside a0 1 256)), ())) else (some (true, ()))) (fun (y2 : (Bool × Unit)) => (bif y2.1 then (some ((0, (0, (false, ()))), ())) else (bif (!(decide (a1 = 0))) then (bif (!(decide (a1 = 0))) then (some (((IntKind.wrap .i64 (Int.tdiv (IntKind.wrap .i64 (a0 - 1)) a1)), ((Int.tmod (IntKind.wrap .i64 (a0 - 1)) a1), (true, ()))), ())) else none) else none)))) = some (place a0 a1, ()) := by
  unfold place
  cases hv : vlen a1 with
  | false => rfl
  | true =>
    cases hi : Sp13.inside a0 1 256 with
    | false => rfl
    | true =>
      have h1 := vlen_iff.1 hv
      have h2 := inside_iff.1 hi
      have e1 : IntKind.wrap .i64 (a0 - 1) = a0 - 1 := wi64 (by omega) (by omega)
      have e2 : Int.tdiv (a0 - 1) a1 = (a0 - 1) / a1 := tdiv_nn (by omega)
      have e3 : Int.tmod (a0 - 1) a1 = (a0 - 1) % a1 := tmod_nn (by omega)
      have e4 : IntKind.wrap .i64 ((a0 - 1) / a1) = (a0 - 1) / a1 := by
        rcases h1 with h | h | h | h <;> subst h <;> exact wi64 (by omega) (by omega)
      have e5 : ¬ a1 = 0 := by omega
      rw [e1, e2, e3, e4, dF e5]
      rfl
theorem g96_ok (a0 : Int) (a1 : Int) (r0 : IntKind.i64.has a0) (r1 : IntKind.i64.has a1) : g96 a0 a1 = some (Sp13.place a0 a1, ()) := by
  unfold g96
  exact place_eq a0 a1
theorem at_eq (a0 a1 a2 : Int) : (Option.bind (bif (!(!(vlen a2))) then (bif (!(!(Sp13.inside a1 0 (IntKind.wrap .i64 (a2 - 1))))) then (some ((!(Sp13.inside a0 0 31)), ())) else (some (true, ()))) else (some (true, ()))) (fun (y3 : (Bool × Unit)) => (bif y3.1 then (some ((0, (false, ())), ())) else (bif (decide ((IntKind.wrap .i64 ((IntKind.wrap .i64 ((IntKind.wrap .i64 (a0 * a2)) + a1)) + 1)) > 256)) then (some ((0, (false, ())), ())) else (some (((IntKind.wrap .i64 ((IntKind.wrap .i64 ((IntKind.wrap .i64 (a0 * a2)) + a1)) + 1)), (true, ())), ())))))) = some (at_ a0 a1 a2, ()) := by
  unfold at_
  cases hv : vlen a2 with
  | false => rfl
  | true =>
    have h1 := vlen_iff.1 hv
    have e1 : IntKind.wrap .i64 (a2 - 1) = a2 - 1 := wi64 (by omega) (by omega)
    rw [e1]
    cases hi : Sp13.inside a1 0 (a2 - 1) with
    | false => rfl
    | true =>
      cases hs : Sp13.inside a0 0 31 with
      | false => rfl
      | true =>
        have h2 := inside_iff.1 hi
        have h3 := inside_iff.1 hs
        have hm : 0 ≤ a0 * a2 ∧ a0 * a2 ≤ 1984 := by rcases h1 with h | h | h | h <;> subst h <;> omega
        have e2 : IntKind.wrap .i64 (a0 * a2) = a0 * a2 := wi64 (by omega) (by omega)
        have e3 : IntKind.wrap .i64 (a0 * a2 + a1) = a0 * a2 + a1 := wi64 (by omega) (by omega)
        have e4 : IntKind.wrap .i64 (a0 * a2 + a1 + 1) = a0 * a2 + a1 + 1 := wi64 (by omega) (by omega)
        rw [e2, e3, e4]
        by_cases q : 256 < a0 * a2 + a1 + 1
        · rw [dT q]; first | rfl | (rw [dT (show a0 * a2 + a1 + 1 > 256 from q)]; rfl)
        · rw [dF q]; first | rfl | (rw [dF (show ¬ a0 * a2 + a1 + 1 > 256 from q)]; rfl)
theorem g38_ok (a0 : Int) (a1 : Int) (a2 : Int) (r0 : IntKind.i64.has a0) (r1 : IntKind.i64.has a1) (r2 : IntKind.i64.has a2) : g38 a0 a1 a2 = some (Sp13.at_ a0 a1 a2, ()) := by
  unfold g38
  exact at_eq a0 a1 a2
end Go.Abs.C13

namespace Go.Abs.C13
open Go Go.Proofs Sp13
set_option maxRecDepth 100000

theorem take_tw {α : Type} (p : α → Bool) : ∀ l : List α, l.take (l.takeWhile p).length = l.takeWhile p
  | [] => rfl
  | x :: r => by
    rw [List.takeWhile_cons]
    cases p x with
    | true => 
      simp only [if_true, List.length_cons, List.take_succ_cons]
      rw [take_tw p r]
    | false => rfl
theorem drop_tw {α : Type} (p : α → Bool) : ∀ l : List α, l.drop (l.takeWhile p).length = l.dropWhile p
  | [] => rfl
  | x :: r => by
    rw [List.takeWhile_cons, List.dropWhile_cons]
    cases p x with
    | true =>
      simp only [if_true, List.length_cons, List.drop_succ_cons]
      rw [drop_tw p r]
    | false => rfl
theorem tw_le {α : Type} (p : α → Bool) (l : List α) : (l.takeWhile p).length ≤ l.length := by
  have := congrArg List.length (take_tw p l)
  rw [List.length_take] at this
  omega
theorem at_loop (a0 : List Lk) (i : Nat) (hi : i < a0.length) (out : List Lk) (ho : out.length ≤ 20000) (z : List Lk × Unit) : ∀ j k, k + j = out.length →
    Loop (g88_s0 a0 ((i : Int), z)) ((k : Int), (out, ())) = some (((k + ((out.drop k).takeWhile (fun y => lessL y (a0.getD i zL))).length : Nat) : Int), (out, ()))
  | 0, k, hk => by
    have hk : k = out.length := by omega
    subst hk
    rw [Loop_step, List.drop_length]
    unfold g88_s0
    simp only [Int.ofNat_eq_natCast]
    rw [decide_eq_false (show ¬ (out.length : Int) < (out.length : Int) by omega)]
    rfl
  | j + 1, k, hk => by
    have hlt : k < out.length := by omega
    have e2 : IntKind.wrap .i64 ((k : Int) + 1) = ((k + 1 : Nat) : Int) := by rw [wi64 (by omega) (by omega)]; omega
    have hs : g88_s0 a0 ((i : Int), z) ((k : Int), (out, ())) = bif lessL (out.getD k zL) (a0.getD i zL) then some (.inl (((k + 1 : Nat) : Int), (out, ()))) else some (.inr ((k : Int), (out, ()))) := by
      unfold g88_s0 lessL
      simp only [Int.ofNat_eq_natCast, Int.toNat_natCast, e2]
      rw [decide_eq_true (show (k : Int) < (out.length : Int) by omega), decide_eq_true (show (0 : Int) ≤ (k : Int) by omega), decide_eq_true (show (0 : Int) ≤ (i : Int) by omega), decide_eq_true (show (i : Int) < (a0.length : Int) by omega), show Nat.blt k out.length = true from Nat.ble_eq_true_of_le hlt]
      have d1 : decide ((out.getD k (0, 0, 0, 0, 0, ())).1 < (a0.getD i (0, 0, 0, 0, 0, ())).1) = decide ((out.getD k zL).1 < (a0.getD i zL).1) := rfl
      have d2 : decide ((out.getD k (0, 0, 0, 0, 0, ())).1 = (a0.getD i (0, 0, 0, 0, 0, ())).1) = decide ((out.getD k zL).1 = (a0.getD i zL).1) := rfl
      have d3 : decide ((out.getD k (0, 0, 0, 0, 0, ())).2.1 < (a0.getD i (0, 0, 0, 0, 0, ())).2.1) = decide ((out.getD k zL).2.1 < (a0.getD i zL).2.1) := rfl
      rw [d1, d2, d3]
      cases decide ((out.getD k zL).1 < (a0.getD i zL).1) with
      | true => rfl
      | false =>
        cases decide ((out.getD k zL).1 = (a0.getD i zL).1) with
        | false => rfl
        | true => cases decide ((out.getD k zL).2.1 < (a0.getD i zL).2.1) <;> rfl
    rw [Loop_step, hs, List.drop_eq_getElem_cons hlt, List.takeWhile_cons, getD_ix hlt]
    cases lessL out[k] (a0.getD i zL) with
    | false => rfl
    | true =>
      have ih := at_loop a0 i hi out ho z j (k + 1) (by omega)
      simp only [cond_true, if_true, List.length_cons]
      rw [ih]
      congr 2
      omega
theorem ins_len (x : Lk) (l : List Lk) : (ins x l).length = l.length + 1 := by
  unfold ins
  rw [List.length_append, List.length_cons, ← take_tw, ← drop_tw, List.length_take, List.length_drop]
  have := tw_le (fun y => lessL y x) l
  omega
theorem ordN_len (l : List Lk) : ∀ k, (ordN l k).length = k
  | 0 => rfl
  | k + 1 => by rw [ordN, ins_len, ordN_len l k]
theorem ord_len (l : List Lk) : (ord l).length = l.length := ordN_len l _
theorem g88_ok (a0 : (List Sp13.Lk)) (r0 : (Ty.sl (lkT)).ok a0) (h : (decide (a0.length ≤ 10000)) = true) : g88 a0 = some (Sp13.ord a0, ()) := by
  have hl : a0.length ≤ 10000 := of_decide_eq_true h
  have key : ∀ j k, k + j = a0.length → Loop (g88_s1 a0) ((k : Int), (ordN a0 k, ())) = some (ord a0, ()) := by
    intro j
    induction j with
    | zero =>
      intro k hk
      have hk : k = a0.length := by omega
      subst hk
      rw [Loop_step]
      unfold g88_s1
      simp only [Int.ofNat_eq_natCast]
      rw [decide_eq_false (show ¬ (a0.length : Int) < (a0.length : Int) by omega)]
      rfl
    | succ j ih =>
      intro k hk
      have hlt : k < a0.length := by omega
      have e2 : IntKind.wrap .i64 ((k : Int) + 1) = ((k + 1 : Nat) : Int) := by rw [wi64 (by omega) (by omega)]; omega
      have hol := ordN_len a0 k
      have hs : g88_s1 a0 ((k : Int), (ordN a0 k, ())) = some (.inl (((k + 1 : Nat) : Int), (ordN a0 (k + 1), ()))) := by
        have hat := at_loop a0 k hlt (ordN a0 k) (by omega) (ordN a0 k, ()) (ordN a0 k).length 0 (by omega)
        have hat : Loop (g88_s0 a0 ((k : Int), (ordN a0 k, ()))) ((0 : Int), (ordN a0 k, ())) = some ((((((ordN a0 k).drop 0).takeWhile (fun y => lessL y (a0.getD k zL))).length + 0 : Nat) : Int), (ordN a0 k, ())) := by
          rw [Nat.add_comm]; exact hat
        rw [List.drop_zero, Nat.add_zero] at hat
        have hle := tw_le (fun y => lessL y (a0.getD k zL)) (ordN a0 k)
        have ht := take_tw (fun y => lessL y (a0.getD k zL)) (ordN a0 k)
        have hd := drop_tw (fun y => lessL y (a0.getD k zL)) (ordN a0 k)
        rw [ordN]
        unfold ins
        rw [← ht, ← hd]
        generalize ((ordN a0 k).takeWhile (fun y => lessL y (a0.getD k zL))).length = m at hat hle
        generalize ordN a0 k = out at hat hle hol ⊢
        unfold g88_s1
        simp only [Int.ofNat_eq_natCast, Int.toNat_natCast, e2]
        rw [decide_eq_true (show (k : Int) < (a0.length : Int) by omega), hat]
        simp only [Option.bind_some, Int.toNat_natCast, List.drop_zero, List.take_length, List.nil_append]
        rw [decide_eq_true (show (0 : Int) ≤ (m : Int) by omega), decide_eq_true (show (m : Int) ≤ (out.length : Int) by omega), decide_eq_true (show (0 : Int) ≤ (k : Int) by omega), decide_eq_true (show (out.length : Int) ≤ (out.length : Int) from Int.le_refl _),
          show Nat.ble ((0 + (out.take m).length) * 40) 140737488355328 = true from Nat.ble_eq_true_of_le (by rw [List.length_take]; omega), show Nat.ble (((out.take m).length + 1) * 40) 140737488355328 = true from Nat.ble_eq_true_of_le (by rw [List.length_take]; omega),
          show Nat.ble (((out.take m ++ [a0.getD k (0, 0, 0, 0, 0, ())]).length + (out.drop m).length) * 40) 140737488355328 = true from Nat.ble_eq_true_of_le (by rw [List.length_append, List.length_take, List.length_drop]; show (min m out.length + 1 + (out.length - m)) * 40 ≤ _; omega)]
        simp only [Bool.and_self, cond_true, List.append_assoc]
        rfl
      rw [Loop_step, hs]
      exact ih (k + 1) (by omega)
  have hk := key a0.length 0 (by omega)
  have hk : Loop (g88_s1 a0) (0, ([], ())) = _ := hk
  unfold g88
  rw [hk]
  rfl
theorem lkIn_wf {cost tree : Int} {skip : Bool} {b a : Int} {s : List Lk × Tp} (h : wf s.2 = true) : wf (linkIn cost tree skip b a s).2 = true ∧ (linkIn cost tree skip b a s).1.length ≤ s.1.length + 1 := by
  unfold linkIn
  simp only
  have hc : wf (bif decide (a = tree) && !skip then (true, s.2) else one s.2 3).2 = true := by
    cases (decide (a = tree) && !skip) with
    | true => exact h
    | false => exact one_wf (n := 3) h
  generalize (bif decide (a = tree) && !skip then (true, s.2) else one s.2 3) = c at hc ⊢
  cases c.1 with
  | true => exact ⟨next_wf (n := 4) (range_wf (a := 1) (b := cost) (range_wf (a := 1) (b := cost) hc)), by simp only [cond_true, List.length_append, List.length_cons, List.length_nil]; omega⟩
  | false => exact ⟨hc, by simp only [cond_false]; omega⟩
theorem row_wf {cost tree : Int} {skip : Bool} {b : Int} {s : List Lk × Tp} (h : wf s.2 = true) : ∀ k, wf (linksRow cost tree skip b s k).2 = true ∧ (linksRow cost tree skip b s k).1.length ≤ s.1.length + k
  | 0 => ⟨h, Nat.le_refl _⟩
  | k + 1 => by
    obtain ⟨h1, h2⟩ := row_wf (cost := cost) (tree := tree) (skip := skip) (b := b) h k
    obtain ⟨h3, h4⟩ := lkIn_wf (cost := cost) (tree := tree) (skip := skip) (b := b) (a := (k : Int) + 1) h1
    exact ⟨h3, Nat.le_trans h4 (by omega)⟩
theorem all_wf {cost : Int} {t : Tp} (h : wf t = true) : ∀ k, wf (linksAll cost t k).2 = true ∧ (linksAll cost t k).1.length ≤ k * (k + 1)
  | 0 => ⟨h, Nat.le_refl _⟩
  | k + 1 => by
    obtain ⟨h1, h2⟩ := all_wf (cost := cost) h k
    rw [linksAll]
    have h3 := one_wf (n := 9) (range_wf (a := 1) (b := (k : Int) + 1) h1)
    obtain ⟨h4, h5⟩ := row_wf (cost := cost) (tree := (range (linksAll cost t k).2 1 ((k : Int) + 1)).1) (skip := (one (range (linksAll cost t k).2 1 ((k : Int) + 1)).2 9).1) (b := (k : Int) + 2) (s := ((linksAll cost t k).1, (one (range (linksAll cost t k).2 1 ((k : Int) + 1)).2 9).2)) h3 (k + 1)
    refine ⟨h4, Nat.le_trans h5 ?_⟩
    simp only
    have : (k + 1) * (k + 1 + 1) = k * (k + 1) + 2 * (k + 1) := by rw [Nat.add_mul, Nat.mul_add k (k + 1) 1]; omega
    omega
end Go.Abs.C13

namespace Go.Abs.C13
open Go Go.Proofs Sp13
set_option maxRecDepth 100000

theorem on_w {α : Type} {t : Tp} (h : wf t = true) (x : α) : Sp13.on (wf t) x = some x := on_true h
theorem on_ws {α : Type} {t : Tp} (h : wf t = true) {n : Int} (hn : -2305843009213693952 ≤ n ∧ n ≤ 2305843009213693952) (x : α) : Sp13.on (wf t && small n) x = some x := on_true (by rw [h, small_iff.2 hn]; rfl)
theorem on_wss {α : Type} {t : Tp} (h : wf t = true) {a n : Int} (ha : -2305843009213693952 ≤ a ∧ a ≤ 2305843009213693952) (hn : -2305843009213693952 ≤ n ∧ n ≤ 2305843009213693952) (x : α) : Sp13.on (wf t && small a && small n) x = some x := on_true (by rw [h, small_iff.2 ha, small_iff.2 hn]; rfl)
theorem pick_mem (t : Tp) {l : List Int} (hl : 0 < l.length) : (Sp13.pick t l).1 ∈ l := by
  have hb := next_range (t := t) (n := (l.length : Int)) (by omega)
  show l.getD (next t l.length).1.toNat 0 ∈ l
  exact getD_mem (by omega)
theorem pick_cost (t : Tp) : 1 ≤ (Sp13.pick t [1, 2, 2, 5]).1 ∧ (Sp13.pick t [1, 2, 2, 5]).1 ≤ 5 := by
  have h := pick_mem t (l := [1, 2, 2, 5]) (by decide)
  simp only [List.mem_cons, List.not_mem_nil, or_false] at h
  omega
theorem routersN_succ (k : Nat) : routersN (k + 1) = routersN k ++ [((k : Int) + 1, true, ())] := by
  unfold routersN
  rw [List.range_succ, List.map_append]
  rfl
theorem routersN_len (k : Nat) : (routersN k).length = k := by
  unfold routersN; rw [List.length_map, List.length_range]

theorem loop30_0 (y4 : Int × Tp) (N : Nat) (hN : y4.1 = (N : Int)) (hle : N ≤ 50) (ls : List Lk × Unit) : ∀ j k, k + j = N →
    Loop (g60_s0 y4) ((routersN k, ls), (k : Int) + 1, ()) = some ((routersN N, ls), ())
  | 0, k, hk => by
    have hk : k = N := by omega
    subst hk
    rw [Loop_step]
    unfold g60_s0
    simp only [hN]
    rw [decide_eq_false (show ¬ (k : Int) + 1 ≤ (k : Int) by omega)]
    rfl
  | j + 1, k, hk => by
    have ih := loop30_0 y4 N hN hle ls j (k + 1) (by omega)
    have e2 : IntKind.wrap .i64 ((k : Int) + 1 + 1) = ((k + 1 : Nat) : Int) + 1 := by rw [wi64 (by omega) (by omega)]; omega
    rw [routersN_succ] at ih
    have hs : g60_s0 y4 ((routersN k, ls), (k : Int) + 1, ()) = some (.inl ((routersN k ++ [((k : Int) + 1, true, ())], ls), ((k + 1 : Nat) : Int) + 1, ())) := by
      unfold g60_s0
      simp only [hN, e2, routersN_len]
      rw [decide_eq_true (show (k : Int) + 1 ≤ (N : Int) by omega), show Nat.ble ((k + 1) * 16) 140737488355328 = true from Nat.ble_eq_true_of_le (by omega)]
      rfl
    rw [Loop_step, hs]
    exact ih

theorem step30_1 (c : Int × Tp) (st : Int × Tp × To × Unit) (tr : Int × Tp) (sk : Bool × Tp) (rs : List Rt) (hc : 1 ≤ c.1 ∧ c.1 ≤ 5) {a : Int} (ha : 0 ≤ a) (hab : a < st.1) (hb : st.1 ≤ 100)
    (s : List Lk × Tp) (hs : wf s.2 = true) (hl : s.1.length ≤ 20000) :
    g60_s1 c st tr sk (a, s.2, (rs, s.1, ()), ()) = some (.inl (a + 1, (linkIn c.1 tr.1 sk.1 st.1 a s).2, (rs, (linkIn c.1 tr.1 sk.1 st.1 a s).1, ()), ())) := by
  have e2 : IntKind.wrap .i64 (a + 1) = a + 1 := wi64 (by omega) (by omega)
  unfold g60_s1 linkIn
  simp only [e2]
  rw [decide_eq_true hab, on_ws hs (by decide)]
  have key : ∀ o : Bool × Tp, wf o.2 = true → (Option.bind (bif o.1 then (Option.bind (Sp13.on (wf o.2 && small 1 && small c.1) (range o.2 1 c.1)) fun y6 =>
        Option.bind (Sp13.on (wf y6.2 && small 1 && small c.1) (range y6.2 1 c.1)) fun y7 => Option.bind (Sp13.on (wf y7.2) (next y7.2 4)) fun y8 =>
        bif Nat.ble ((s.1.length + 1) * 40) 140737488355328 then some (y8.2, (rs, s.1 ++ [(a, st.1, y6.1, y7.1, y8.1, ())], ()), ()) else none) else some (o.2, (rs, s.1, ()), ()))
        fun y6 : Tp × To × Unit => some (Sum.inl (a + 1, y6)) : Option (Sum (Int × Tp × To × Unit) (Tp × To × Unit))) =
      some (.inl (a + 1, (bif o.1 then (s.1 ++ [(a, st.1, (range o.2 1 c.1).1, (range (range o.2 1 c.1).2 1 c.1).1, (next (range (range o.2 1 c.1).2 1 c.1).2 4).1, ())], (next (range (range o.2 1 c.1).2 1 c.1).2 4).2) else (s.1, o.2)).2,
        (rs, (bif o.1 then (s.1 ++ [(a, st.1, (range o.2 1 c.1).1, (range (range o.2 1 c.1).2 1 c.1).1, (next (range (range o.2 1 c.1).2 1 c.1).2 4).1, ())], (next (range (range o.2 1 c.1).2 1 c.1).2 4).2) else (s.1, o.2)).1, ()), ())) := by
    intro o ho
    have w1 := range_wf (a := 1) (b := c.1) ho
    have w2 := range_wf (a := 1) (b := c.1) w1
    cases o.1 with
    | false => rfl
    | true =>
      rw [on_wss ho (by decide) (by omega)]
      simp only [Option.bind_some, cond_true]
      rw [on_wss w1 (by decide) (by omega)]
      simp only [Option.bind_some, cond_true]
      rw [on_w w2, show Nat.ble ((s.1.length + 1) * 40) 140737488355328 = true from Nat.ble_eq_true_of_le (by omega)]
      rfl
  cases decide (a = tr.1) with
  | false => 
    have := key (one s.2 3) (one_wf (n := 3) hs)
    exact this
  | true =>
    cases sk.1 with
    | true =>
      have := key (one s.2 3) (one_wf (n := 3) hs)
      exact this
    | false =>
      have := key (true, s.2) hs
      exact this
theorem loop30_1 (c : Int × Tp) (st : Int × Tp × To × Unit) (tr : Int × Tp) (sk : Bool × Tp) (rs : List Rt) (hc : 1 ≤ c.1 ∧ c.1 ≤ 5) (m : Nat) (hm : st.1 = (m : Int) + 1) (hb : m ≤ 99)
    (s : List Lk × Tp) (hs : wf s.2 = true) (hl : s.1.length ≤ 10000) : ∀ j k, k + j = m →
    Loop (g60_s1 c st tr sk) ((k : Int) + 1, (linksRow c.1 tr.1 sk.1 st.1 s k).2, (rs, (linksRow c.1 tr.1 sk.1 st.1 s k).1, ()), ()) = some ((linksRow c.1 tr.1 sk.1 st.1 s m).2, (rs, (linksRow c.1 tr.1 sk.1 st.1 s m).1, ()), ())
  | 0, k, hk => by
    have hk : k = m := by omega
    subst hk
    rw [Loop_step]
    unfold g60_s1
    simp only
    rw [decide_eq_false (show ¬ (k : Int) + 1 < st.1 by omega)]
    rfl
  | j + 1, k, hk => by
    obtain ⟨w, l⟩ := row_wf (cost := c.1) (tree := tr.1) (skip := sk.1) (b := st.1) hs k
    rw [Loop_step, step30_1 c st tr sk rs hc (a := (k : Int) + 1) (by omega) (by omega) (by omega) _ w (by omega)]
    exact loop30_1 c st tr sk rs hc m hm hb s hs hl j (k + 1) (by omega)
theorem loop30_2 (y4 y6 : Int × Tp) (rs : List Rt) (hc : 1 ≤ y6.1 ∧ y6.1 ≤ 5) (N : Nat) (hN : y4.1 = (N : Int) + 1) (hle : N ≤ 49) (t : Tp) (ht : wf t = true) : ∀ j k, k + j = N →
    Loop (g60_s2 y4 y6) ((k : Int) + 2, (linksAll y6.1 t k).2, (rs, (linksAll y6.1 t k).1, ()), ()) = some ((linksAll y6.1 t N).2, (rs, (linksAll y6.1 t N).1, ()), ())
  | 0, k, hk => by
    have hk : k = N := by omega
    subst hk
    rw [Loop_step]
    unfold g60_s2
    simp only
    rw [decide_eq_false (show ¬ (k : Int) + 2 ≤ y4.1 by omega)]
    rfl
  | j + 1, k, hk => by
    have ih := loop30_2 y4 y6 rs hc N hN hle t ht j (k + 1) (by omega)
    obtain ⟨w, l⟩ := all_wf (cost := y6.1) ht k
    have hk2 : k * (k + 1) ≤ 49 * 50 := Nat.mul_le_mul (by omega) (by omega)
    have e1 : IntKind.wrap .i64 ((k : Int) + 2 - 1) = (k : Int) + 1 := by rw [wi64 (by omega) (by omega)]; omega
    have e2 : IntKind.wrap .i64 ((k : Int) + 2 + 1) = ((k + 1 : Nat) : Int) + 2 := by rw [wi64 (by omega) (by omega)]; omega
    have w1 := range_wf (a := 1) (b := (k : Int) + 1) w
    have w2 := one_wf (n := 9) w1
    have h1 := loop30_1 y6 ((k : Int) + 2, (linksAll y6.1 t k).2, (rs, (linksAll y6.1 t k).1, ()), ()) (range (linksAll y6.1 t k).2 1 ((k : Int) + 1)) (one (range (linksAll y6.1 t k).2 1 ((k : Int) + 1)).2 9) rs hc (k + 1) (by simp only; omega) (by omega)
      ((linksAll y6.1 t k).1, (one (range (linksAll y6.1 t k).2 1 ((k : Int) + 1)).2 9).2) w2 (by simp only; omega) (k + 1) 0 (by omega)
    rw [linksRow] at h1
    have h1' : Loop _ ((1 : Int), _) = _ := h1
    have hs : g60_s2 y4 y6 ((k : Int) + 2, (linksAll y6.1 t k).2, (rs, (linksAll y6.1 t k).1, ()), ()) = some (.inl (((k + 1 : Nat) : Int) + 2, (linksAll y6.1 t (k + 1)).2, (rs, (linksAll y6.1 t (k + 1)).1, ()), ())) := by
      unfold g60_s2
      simp only [e1, e2]
      rw [decide_eq_true (show (k : Int) + 2 ≤ y4.1 by omega), on_wss w (by decide) (by omega)]
      simp only [Option.bind_some, cond_true]
      rw [on_ws w1 (by decide)]
      simp only [Option.bind_some]
      rw [h1']
      rfl
    rw [Loop_step, hs]
    exact ih
end Go.Abs.C13

namespace Go.Abs.C13
open Go Go.Proofs Sp13
set_option maxRecDepth 100000

theorem manyR_len (l : List Rt) : ∀ k, (manyR k l).length = l.length + k
  | 0 => rfl
  | k + 1 => by rw [manyR, List.length_append, manyR_len l k]; rfl
theorem loop30_3 (l : List Rt) (hl : l.length ≤ 1000) (ls : List Lk × Unit) : ∀ j k, k + j = 25 →
    Loop g60_s3 ((manyR k l, ls), (50 : Int) + k, ()) = some ((manyR 25 l, ls), ())
  | 0, k, hk => by
    have hk : k = 25 := by omega
    subst hk
    rw [Loop_step]
    rfl
  | j + 1, k, hk => by
    have ih := loop30_3 l hl ls j (k + 1) (by omega)
    have e2 : IntKind.wrap .i64 ((50 : Int) + k + 1) = (50 : Int) + ((k + 1 : Nat) : Int) := by rw [wi64 (by omega) (by omega)]; omega
    have hs : g60_s3 ((manyR k l, ls), (50 : Int) + k, ()) = some (.inl ((manyR (k + 1) l, ls), (50 : Int) + ((k + 1 : Nat) : Int), ())) := by
      unfold g60_s3
      simp only [e2, manyR_len]
      rw [decide_eq_true (show (50 : Int) + k < 75 by omega), show Nat.ble ((l.length + k + 1) * 16) 140737488355328 = true from Nat.ble_eq_true_of_le (by omega)]
      rfl
    rw [Loop_step, hs]
    exact ih
theorem g60_ok (a0 : (List Int)) (a1 : Int) (a2 : Int) (a3 : Int) (r0 : (Ty.sl (.int .i64)).ok a0) (r1 : IntKind.i64.has a1) (r2 : IntKind.i64.has a2) (r3 : IntKind.i64.has a3) (h : (Sp13.wf (a0, a1, ()) && Sp13.inside a2 1 50 && Sp13.small a3) = true) : g60 a0 a1 a2 a3 = some (Sp13.topo (a0, a1, ()) a2 a3) := by
  simp only [Bool.and_eq_true, inside_iff, small_iff] at h
  obtain ⟨⟨hw, h1, h2⟩, hs1, hs2⟩ := h
  have w1 := range_wf (a := 1) (b := a2) hw
  have b1 := range_in (t := (a0, a1, ())) (a := 1) (b := a2) h1
  unfold g60 topo
  rw [on_wss hw (by decide) (by omega)]
  simp only [Option.bind_some]
  generalize range (a0, a1, ()) 1 a2 = k at w1 b1 ⊢
  obtain ⟨N, hN⟩ : ∃ N : Nat, k.1 = (N : Int) + 1 := ⟨(k.1 - 1).toNat, by omega⟩
  have h0 : Loop (g60_s0 k) (([], [], ()), (1 : Int), ()) = some ((routersN (N + 1), [], ()), ()) := loop30_0 k (N + 1) (by omega) (by omega) ([], ()) (N + 1) 0 (by omega)
  rw [h0]
  simp only [Option.bind_some]
  rw [on_true (show (wf k.2 && decide (0 < 4) && decide (4 ≤ 1000)) = true by rw [w1]; rfl)]
  simp only [Option.bind_some]
  have w2 := pick_wf (l := [1, 2, 2, 5]) w1
  have b2 := pick_cost k.2
  generalize Sp13.pick k.2 [1, 2, 2, 5] = c at w2 b2 ⊢
  have h2 : Loop (g60_s2 k c) ((2 : Int), c.2, (routersN (N + 1), [], ()), ()) = some ((linksAll c.1 c.2 N).2, (routersN (N + 1), (linksAll c.1 c.2 N).1, ()), ()) := loop30_2 k c (routersN (N + 1)) b2 N hN (by omega) c.2 w2 N 0 (by omega)
  rw [h2]
  simp only [Option.bind_some]
  obtain ⟨w3, l3⟩ := all_wf (cost := c.1) w2 N
  have hN2 : N * (N + 1) ≤ 49 * 50 := Nat.mul_le_mul (by omega) (by omega)
  rw [show k.1.toNat - 1 = N by omega, show k.1.toNat = N + 1 by omega]
  generalize linksAll c.1 c.2 N = s at w3 l3 ⊢
  rw [on_true (decide_eq_true (show s.1.length ≤ 10000 by omega))]
  simp only [Option.bind_some]
  have lo := ord_len s.1
  have lr := routersN_len (N + 1)
  generalize ord s.1 = ls at lo ⊢
  generalize routersN (N + 1) = rs at lr ⊢
  by_cases ha : 0 < a3
  · rw [decide_eq_true (show a3 > 0 from ha)]
    simp only [cond_true]
    rw [on_ws w3 (by omega)]
    simp only [Option.bind_some]
    have w4 := one_wf (n := a3) w3
    generalize one s.2 a3 = o at w4 ⊢
    cases o.1 with
    | false => rfl
    | true =>
      simp only [cond_true]
      rw [on_w w4]
      simp only [Option.bind_some]
      unfold spoilT
      simp only
      have w5 := next_wf (n := 7) w4
      generalize next o.2 7 = m at w5 ⊢
      have b16 : Nat.ble ((rs.length + 1) * 16) 140737488355328 = true := Nat.ble_eq_true_of_le (by omega)
      have b40 : Nat.ble ((ls.length + 1) * 40) 140737488355328 = true := Nat.ble_eq_true_of_le (by omega)
      have gt : decide ((Int.ofNat ls.length) > (0 : Int)) = decide (0 < ls.length) := by
        by_cases hz : 0 < ls.length
        · rw [decide_eq_true hz]; exact decide_eq_true (by show (0 : Int) < (ls.length : Int); omega)
        · rw [decide_eq_false hz]; exact decide_eq_false (by show ¬ (0 : Int) < (ls.length : Int); omega)
      have nb := next_range (t := m.2) (n := (ls.length : Int))
      have w6 := next_wf (n := (ls.length : Int)) w5
      by_cases m0 : m.1 = 0
      · simp only [decide_eq_true m0, cond_true]
        rw [on_true (show (wf m.2 && decide (0 < 5) && decide (5 ≤ 1000)) = true by rw [w5]; rfl)]
        simp only [Option.bind_some, b16]
        rfl
      · simp only [decide_eq_false m0, cond_false]
        by_cases m1 : m.1 = 1
        · simp only [decide_eq_true m1, cond_true]
          rw [on_w w5]
          simp only [Option.bind_some]
          rw [on_w (next_wf (n := 4) w5)]
          simp only [Option.bind_some, b40]
          rfl
        · simp only [decide_eq_false m1, cond_false]
          by_cases m6 : m.1 = 2 ∨ m.1 = 3 ∨ m.1 = 4 ∨ m.1 = 5
          · by_cases hz : 0 < ls.length
            · have nb := nb (by omega)
              rw [decide_eq_true hz] at gt
              have gt' : decide ((ls.length : Int) > 0) = true := gt
              have gX1 : decide ((0 : Int) ≤ (next m.2 (ls.length : Int)).1) = true := decide_eq_true nb.1
              have gX2 : decide ((next m.2 (ls.length : Int)).1 < (ls.length : Int)) = true := decide_eq_true nb.2
              have gX3 : Nat.blt (next m.2 (ls.length : Int)).1.toNat ls.length = true := Nat.ble_eq_true_of_le (show _ + 1 ≤ _ by omega)
              rcases m6 with e | e | e | e
              all_goals
                simp only [e, decide_eq_true hz, gt, gt', decide_true, cond_true, cond_false, Int.ofNat_eq_natCast, Option.bind_some, on_w w5, on_w w6, gX1, gX2, gX3, b40, Bool.and_self]
                rfl
            · rw [decide_eq_false hz] at gt
              rcases m6 with e | e | e | e
              all_goals
                simp only [e, decide_eq_false hz, gt, decide_true, cond_true, cond_false]
                rfl
          · have l3 := loop30_3 rs (by omega) (ls, ()) 25 0 (by omega)
            have l3 : Loop g60_s3 ((rs, ls, ()), (50 : Int), ()) = some ((manyR 25 rs, ls, ()), ()) := l3
            rw [decide_eq_false (show ¬ m.1 = 2 by omega), decide_eq_false (show ¬ m.1 = 3 by omega), decide_eq_false (show ¬ m.1 = 4 by omega), decide_eq_false (show ¬ m.1 = 5 by omega)]
            simp only [cond_false]
            rw [l3]
            rfl
  · rw [decide_eq_false (show ¬ a3 > 0 from ha)]
    rfl
end Go.Abs.C13

namespace Go.Abs.C13
open Go Go.Proofs Sp13
set_option maxRecDepth 100000

theorem spoilT_wf {g : To} {t : Tp} (h : wf t = true) : wf (spoilT g t).2 = true ∧ (spoilT g t).1.1.length ≤ g.1.length + 25 := by
  have w := next_wf (n := 7) h
  unfold spoilT
  simp only
  generalize next t 7 = m at w ⊢
  cases decide (m.1 = 0) with
  | true => exact ⟨pick_wf (l := [0, 1, 99, 100, -1]) w, by simp only [cond_true, List.length_append, List.length_cons, List.length_nil]; omega⟩
  | false =>
  cases decide (m.1 = 1) with
  | true => exact ⟨next_wf (n := 4) (next_wf (n := 4) w), by simp only [cond_true, cond_false]; omega⟩
  | false =>
  have w6 := next_wf (n := (g.2.1.length : Int)) w
  cases decide (m.1 = 2) with
  | true => cases decide (0 < g.2.1.length) with
    | true => exact ⟨wild_wf w6, by simp only [cond_true, cond_false]; omega⟩
    | false => exact ⟨w, by simp only [cond_true, cond_false]; omega⟩
  | false =>
  cases decide (m.1 = 3) with
  | true => cases decide (0 < g.2.1.length) with
    | true => exact ⟨wild_wf w6, by simp only [cond_true, cond_false]; omega⟩
    | false => exact ⟨w, by simp only [cond_true, cond_false]; omega⟩
  | false =>
  cases decide (m.1 = 4) with
  | true => cases decide (0 < g.2.1.length) with
    | true => exact ⟨wild_wf w6, by simp only [cond_true, cond_false]; omega⟩
    | false => exact ⟨w, by simp only [cond_true, cond_false]; omega⟩
  | false =>
  cases decide (m.1 = 5) with
  | true => cases decide (0 < g.2.1.length) with
    | true => exact ⟨w6, by simp only [cond_true, cond_false]; omega⟩
    | false => exact ⟨w, by simp only [cond_true, cond_false]; omega⟩
  | false => exact ⟨w, by simp only [cond_false, manyR_len]; omega⟩
theorem topo_wf {t : Tp} {a n : Int} (hw : wf t = true) (ha : 1 ≤ a ∧ a ≤ 50) : wf (topo t a n).2 = true ∧ (topo t a n).1.1.length ≤ 75 := by
  have w1 := range_wf (a := 1) (b := a) hw
  have b1 := range_in (t := t) (a := 1) (b := a) ha.1
  have w2 := pick_wf (l := [1, 2, 2, 5]) w1
  have w3 := (all_wf (cost := (Sp13.pick (range t 1 a).2 [1, 2, 2, 5]).1) w2 ((range t 1 a).1.toNat - 1)).1
  have lr := routersN_len (range t 1 a).1.toNat
  unfold topo
  simp only
  generalize linksAll (Sp13.pick (range t 1 a).2 [1, 2, 2, 5]).1 (Sp13.pick (range t 1 a).2 [1, 2, 2, 5]).2 ((range t 1 a).1.toNat - 1) = s at w3 ⊢
  generalize routersN (range t 1 a).1.toNat = rs at lr ⊢
  cases decide (0 < n) with
  | false => exact ⟨w3, by simp only [cond_false]; omega⟩
  | true =>
    have w4 := one_wf (n := n) w3
    simp only [cond_true]
    generalize one s.2 n = o at w4 ⊢
    cases o.1 with
    | false => exact ⟨w4, by simp only [cond_false]; omega⟩
    | true =>
      have h := spoilT_wf (g := (rs, ord s.1, ())) w4
      exact ⟨h.1, Nat.le_trans h.2 (by simp only; omega)⟩
end Go.Abs.C13

namespace Go.Abs.C13
open Go Go.Proofs Sp13
set_option maxRecDepth 100000

end Go.Abs.C13

namespace Go.Abs.C13
open Go Go.Proofs Sp13
set_option maxRecDepth 100000

theorem fold_take {α β : Type} (f : β → α → β) (b : β) (l : List α) (d : α) (k : Nat) (hk : k < l.length) : (l.take (k + 1)).foldl f b = f ((l.take k).foldl f b) (l.getD k d) := by
  rw [take_succ_getD l k d hk, List.foldl_append]
  rfl
end Go.Abs.C13

namespace Go.Abs.C13
open Go Go.Proofs Sp13
set_option maxRecDepth 100000

theorem order_wf {t : Tp} (h : wf t = true) : ∀ k, wf (orderN t k).2 = true ∧ (orderN t k).1.length = k ∧ ∀ x ∈ (orderN t k).1, 0 ≤ x ∧ x < (k : Int)
  | 0 => ⟨h, rfl, fun x hx => by cases hx⟩
  | k + 1 => by
    obtain ⟨h1, h2, h3⟩ := order_wf h k
    have hb := next_range (t := (orderN t k).2) (n := (k : Int) + 1) (by omega)
    refine ⟨next_wf (n := (k : Int) + 1) h1, ?_, ?_⟩
    · simp only [orderN, List.length_append, List.length_cons, List.length_take, List.length_drop]
      omega
    · intro x hx
      simp only [orderN, List.mem_append, List.mem_cons] at hx
      rcases hx with hx | rfl | hx
      · have := h3 x (List.mem_of_mem_take hx); omega
      · omega
      · have := h3 x (List.mem_of_mem_drop hx); omega
theorem g61_ok (a0 : (List Int)) (a1 : Int) (a2 : Int) (r0 : (Ty.sl (.int .i64)).ok a0) (r1 : IntKind.i64.has a1) (r2 : IntKind.i64.has a2) (h : (Sp13.wf (a0, a1, ()) && Sp13.inside a2 0 1000) = true) : g61 a0 a1 a2 = some (Sp13.order (a0, a1, ()) a2.toNat) := by
  simp only [Bool.and_eq_true, inside_iff] at h
  obtain ⟨hw, h1, h2⟩ := h
  obtain ⟨n, rfl⟩ : ∃ n : Nat, a2 = (n : Int) := ⟨a2.toNat, by omega⟩
  have hL : Loop (g61_s0 (n : Int)) ((a0, (a1, ())), (([] : List Int), ((0 : Int), ()))) = some ((orderN (a0, a1, ()) n).2, ((orderN (a0, a1, ()) n).1, ())) := by
    refine Loop_seq (step := g61_s0 (n : Int)) (fun k => ((orderN (a0, a1, ()) k).2, ((orderN (a0, a1, ()) k).1, ((k : Int), ())))) n _ (fun k hk => ?_) ?_ 0 (Nat.zero_le _)
    · obtain ⟨w, hl, -⟩ := order_wf hw k
      rw [orderN]
      generalize orderN (a0, a1, ()) k = s at w hl ⊢
      have hb := next_range (t := s.2) (n := (k : Int) + 1) (by omega)
      unfold g61_s0
      simp only [Int.ofNat_eq_natCast, Int.toNat_natCast, List.nil_append, List.drop_zero]
      rw [dT (show (k : Int) < (n : Int) by omega), wi64 (n := (k : Int) + 1) (by omega) (by omega), on_w w]
      simp only [Option.bind_some]
      have e : ((k + 1 : Nat) : Int) = (k : Int) + 1 := by omega
      generalize next s.2 ((k : Int) + 1) = a at hb ⊢
      have l1 : (List.take a.1.toNat s.1).length ≤ 1000 := by rw [List.length_take]; omega
      have l2 : (List.drop a.1.toNat (List.take s.1.length s.1)).length ≤ 1000 := by rw [List.length_drop, List.length_take]; omega
      rw [dT hb.1, dT (show a.1 ≤ (s.1.length : Int) by omega), dT (Int.le_refl _), ble_t (show (0 + (List.take a.1.toNat s.1).length) * 8 ≤ 140737488355328 by omega), ble_t (show ((List.take a.1.toNat s.1).length + 1) * 8 ≤ 140737488355328 by omega), ble_t (show ((List.take a.1.toNat s.1 ++ [(k : Int)]).length + (List.drop a.1.toNat (List.take s.1.length s.1)).length) * 8 ≤ 140737488355328 by rw [List.length_append, List.length_singleton]; omega), List.take_length, List.append_assoc, e]
      rfl
    · unfold g61_s0
      rw [dF (show ¬ (n : Int) < (n : Int) by omega)]
      rfl
  unfold g61
  rw [hL]
  rfl
theorem len_in (t : Tp) : (Sp13.length t).1 = 8 ∨ (Sp13.length t).1 = 16 ∨ (Sp13.length t).1 = 32 ∨ (Sp13.length t).1 = 64 := by
  have h := pick_mem t (l := [8, 8, 16, 32, 64]) (by decide)
  simp only [List.mem_cons, List.not_mem_nil, or_false] at h
  unfold Sp13.length
  omega
theorem on_pk {t : Tp} (h : wf t = true) (n : Nat) (h1 : 0 < n) (h2 : n ≤ 1000) {α : Type} (x : α) : Sp13.on (wf t && decide (0 < n) && decide (n ≤ 1000)) x = some x := on_true (by rw [h, dT h1, dT h2]; rfl)
theorem edges_wf (g : To) (len : Int) (hl : 8 ≤ len ∧ len ≤ 64) (t : Tp) (h : wf t = true) (o : List Int) : ∀ k, k ≤ o.length →
    wf (edgesN g len ([], 0, t) (o.take k)).2.2 = true ∧ 0 ≤ (edgesN g len ([], 0, t) (o.take k)).2.1 ∧ (edgesN g len ([], 0, t) (o.take k)).2.1 ≤ 63 * (k : Int) ∧ (edgesN g len ([], 0, t) (o.take k)).1.length ≤ k
  | 0, _ => ⟨h, Int.le_refl _, Int.le_refl _, Nat.le_refl _⟩
  | k + 1, hk => by
    obtain ⟨h1, h2, h3, h4⟩ := edges_wf g len hl t h o k (by omega)
    unfold edgesN at *
    rw [fold_take (edgeS g len) _ o 0 k (by omega)]
    generalize (o.take k).foldl (edgeS g len) ([], 0, t) = s at h1 h2 h3 h4 ⊢
    have w1 := next_wf (n := 4) h1
    unfold edgeS
    simp only
    generalize next s.2.2 4 = c at w1 ⊢
    cases decide (c.1 = 0) with
    | true => exact ⟨w1, h2, by simp only [cond_true]; omega, by simp only [cond_true]; omega⟩
    | false =>
      simp only [cond_false]
      have w2 := pick_wf (l := [1, 1, 1, 2, len - 1]) w1
      have m2 := pick_mem c.2 (l := [1, 1, 1, 2, len - 1]) (by simp)
      simp only [List.mem_cons, List.not_mem_nil, or_false] at m2
      generalize Sp13.pick c.2 [1, 1, 1, 2, len - 1] = p at w2 m2 ⊢
      cases decide (s.2.1 + p.1 ≤ 256) with
      | true => exact ⟨w2, by simp only [cond_true]; omega, by simp only [cond_true]; omega, by simp only [cond_true, List.length_append, List.length_cons, List.length_nil]; omega⟩
      | false => exact ⟨w2, by simp only [cond_false]; omega, by simp only [cond_false]; omega, by simp only [cond_false]; omega⟩
theorem g29_ok (a0 : (List Int)) (a1 : Int) (a2 : (List (Int × (Bool × Unit)))) (a3 : (List Sp13.Lk)) (a4 : Int) (r0 : (Ty.sl (.int .i64)).ok a0) (r1 : IntKind.i64.has a1) (r2 : (Ty.sl (rtT)).ok a2) (r3 : (Ty.sl (lkT)).ok a3) (r4 : IntKind.i64.has a4) (h : (Sp13.wf (a0, a1, ()) && Sp13.small a4 && decide (a2.length ≤ 1000)) = true) : g29 a0 a1 a2 a3 a4 = some (Sp13.planT (a0, a1, ()) (a2, a3, ()) a4) := by
  simp only [Bool.and_eq_true, decide_eq_true_eq, small_iff] at h
  obtain ⟨⟨hw, hs⟩, hg⟩ := h
  unfold g29 planT
  simp only
  have w1 := next_wf (n := 3) hw
  rw [on_w hw]
  simp only [Option.bind_some]
  generalize next (a0, a1, ()) 3 = x at w1 ⊢
  have w2 := length_wf w1
  have l2 := len_in x.2
  rw [on_w w1]
  simp only [Option.bind_some]
  generalize Sp13.length x.2 = b at w2 l2 ⊢
  rw [on_true (show (wf b.2 && Sp13.inside (Int.ofNat a2.length) 0 1000) = true by rw [w2, inside_iff.2 (by simp only [Int.ofNat_eq_natCast]; omega)]; rfl)]
  simp only [Option.bind_some, Int.ofNat_eq_natCast, Int.toNat_natCast]
  obtain ⟨w3, l3, m3⟩ := order_wf w2 a2.length
  change wf (order b.2 a2.length).2 = true at w3
  change (order b.2 a2.length).1.length = _ at l3
  change ∀ x ∈ (order b.2 a2.length).1, _ at m3
  generalize order b.2 a2.length = o at w3 l3 m3 ⊢
  have hL : Loop (g29_s0 a2) ((0 : Int), ((x.1, (b.1, (([] : List Ed), ()))), ((0 : Int), (o.2, (o.1, ()))))) = some ((x.1, (b.1, ((edgesN (a2, a3, ()) b.1 ([], 0, o.2) o.1).1, ()))), ((edgesN (a2, a3, ()) b.1 ([], 0, o.2) o.1).2.1, ((edgesN (a2, a3, ()) b.1 ([], 0, o.2) o.1).2.2, ()))) := by
    refine Loop_seq (step := g29_s0 a2) (fun k => ((k : Int), ((x.1, (b.1, ((edgesN (a2, a3, ()) b.1 ([], 0, o.2) (o.1.take k)).1, ()))), ((edgesN (a2, a3, ()) b.1 ([], 0, o.2) (o.1.take k)).2.1, ((edgesN (a2, a3, ()) b.1 ([], 0, o.2) (o.1.take k)).2.2, (o.1, ())))))) o.1.length _ (fun k hk => ?_) ?_ 0 (Nat.zero_le _)
    · obtain ⟨h1, h2, h3, h4⟩ := edges_wf (a2, a3, ()) b.1 (by omega) o.2 w3 o.1 k (by omega)
      have hm := m3 _ (getD_mem (d := 0) hk)
      unfold edgesN at *
      rw [fold_take (edgeS (a2, a3, ()) b.1) _ o.1 0 k hk]
      generalize (o.1.take k).foldl (edgeS (a2, a3, ()) b.1) ([], 0, o.2) = s at h1 h2 h3 h4 ⊢
      unfold g29_s0
      simp only [Int.ofNat_eq_natCast, Int.toNat_natCast]
      rw [dT (show (k : Int) < (o.1.length : Int) by omega), on_w h1, wi64n (by omega)]
      simp only [Option.bind_some, cond_true]
      have w4 := next_wf (n := 4) h1
      conv => rhs; unfold edgeS
      simp only
      generalize next s.2.2 4 = c at w4 ⊢
      cases decide (c.1 = 0) with
      | true => rfl
      | false =>
        simp only [cond_false]
        rw [wi64 (n := b.1 - 1) (by omega) (by omega), on_true (show (wf c.2 && decide (0 < [1, 1, 1, 2, b.1 - 1].length) && decide ([1, 1, 1, 2, b.1 - 1].length ≤ 1000)) = true by rw [w4]; rfl)]
        simp only [Option.bind_some]
        have m2 := pick_mem c.2 (l := [1, 1, 1, 2, b.1 - 1]) (by simp)
        simp only [List.mem_cons, List.not_mem_nil, or_false] at m2
        generalize Sp13.pick c.2 [1, 1, 1, 2, b.1 - 1] = p at m2 ⊢
        rw [wi64 (n := s.2.1 + p.1) (by omega) (by omega)]
        cases decide (s.2.1 + p.1 ≤ 256) with
        | false => rfl
        | true =>
          rw [dT (show (0 : Int) ≤ (k : Int) by omega), blt_t hk, dT hm.1, dT (show o.1.getD k 0 < (a2.length : Int) by omega), ble_t (show (s.1.length + 1) * 16 ≤ 140737488355328 by omega)]
          rfl
    · unfold g29_s0
      simp only [Int.ofNat_eq_natCast]
      rw [dF (show ¬ (o.1.length : Int) < (o.1.length : Int) by omega), List.take_length]
      rfl
  rw [hL]
  simp only [Option.bind_some]
  obtain ⟨w4, i1, i2, l4⟩ := edges_wf (a2, a3, ()) b.1 (by omega) o.2 w3 o.1 o.1.length (Nat.le_refl _)
  rw [List.take_length] at w4 i1 i2 l4
  generalize edgesN (a2, a3, ()) b.1 ([], 0, o.2) o.1 = e at w4 i1 i2 l4 ⊢
  by_cases ha : 0 < a4
  · rw [dT (show a4 > 0 from ha)]
    first | rw [dT ha] | skip
    simp only [cond_true]
    rw [on_ws w4 hs]
    simp only [Option.bind_some]
    have w5 := one_wf (n := a4) w4
    generalize one e.2.2 a4 = q at w5 ⊢
    cases q.1 with
    | false => rfl
    | true =>
      simp only [cond_true]
      rw [on_w w5]
      simp only [Option.bind_some]
      unfold spoilP
      simp only
      have w6 := next_wf (n := 5) w5
      generalize next q.2 5 = m at w6 ⊢
      have b16 : Nat.ble ((e.1.length + 1) * 16) 140737488355328 = true := ble_t (by omega)
      by_cases m0 : m.1 = 0
      · simp only [decide_eq_true m0, cond_true]
        rw [on_w w6]
        rfl
      · simp only [decide_eq_false m0, cond_false]
        by_cases m1 : m.1 = 1
        · simp only [decide_eq_true m1, cond_true]
          rw [on_pk w6 5 (by decide) (by decide)]
          rfl
        · simp only [decide_eq_false m1, cond_false]
          by_cases m2 : m.1 = 2
          · simp only [decide_eq_true m2, cond_true]
            rw [on_pk w6 4 (by decide) (by decide)]
            simp only [Option.bind_some]
            rw [on_pk (pick_wf (l := [0, 1, 99, 100]) w6) 4 (by decide) (by decide)]
            simp only [Option.bind_some, b16]
            rfl
          · simp only [decide_eq_false m2, cond_false]
            by_cases m3 : m.1 = 3
            · simp only [decide_eq_true m3, cond_true]
              by_cases hz : 0 < e.1.length
              · rw [dT (show (e.1.length : Int) > 0 by omega), dT hz, on_w w6]
                simp only [Option.bind_some, cond_true]
                rw [blt_t hz]
                rfl
              · rw [dF (show ¬ (e.1.length : Int) > 0 by omega), dF hz]
                rfl
            · simp only [decide_eq_false m3, cond_false]
              rw [b16, wi64 (n := e.2.1 + 1) (by omega) (by omega)]
              rfl
  · rw [dF (show ¬ a4 > 0 from ha)]
    first | rfl | (rw [dF ha]; rfl)
end Go.Abs.C13
