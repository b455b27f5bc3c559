/- Chapter 13 (forward): proved is, of more functions, that the evaluator comes to the printed term, and that the functions on the tape and the checks keep their contracts; no conditions but those that each theorem states. -/
import Derived.Test.YtmpfafdaadhabaaGreatDoorRunB
set_option linter.unusedVariables false
set_option linter.unusedSimpArgs false
namespace Go.aW.fF
open Go Go.aW
set_option maxRecDepth 20000
set_option linter.unusedVariables false
noncomputable def Dm (a0:(@List (Int×((List Int)×Unit)))) (a1:(Int×Unit)) (a2:(Int×Unit)):(Option (Sum (Int×Unit) (Bool×((Int×Unit)×Unit)))):=
  (bif ((decide (0≤a1.1))&&(decide (a1.1<(Int.ofNat a0.length)))) then (bif (decide (a2.1<(Int.ofNat (List.getD a0 (Int.toNat a1.1) (0,([],()))).2.1.length))) then (bif ((decide (0≤a1.1))&&(decide (a1.1<(Int.ofNat a0.length)))) then (bif ((decide (0≤a2.1))&&(decide (a2.1<(Int.ofNat (List.getD a0 (Int.toNat a1.1) (0,([],()))).2.1.length)))) then (bif (!(ah.inside (List.getD (List.getD a0 (Int.toNat a1.1) (0,([],()))).2.1 (Int.toNat a2.1) 0) 1 99)) then (some (.inr (true,((2,()),())))) else (some (.inl ((IntKind.wrap .i64 (a2.1+1)),())))) else none) else none) else (some (.inr (false,((0,()),()))))) else none)
noncomputable def Dn (a0:(@List (Int×((List Int)×Unit)))) (a1:(Int×Unit)):(Option (Sum (Int×Unit) (Bool×((Int×Unit)×Unit)))):=
  (bif (decide (a1.1<(Int.ofNat a0.length))) then (bif ((decide (0≤a1.1))&&(decide (a1.1<(Int.ofNat a0.length)))) then (bif (!(ah.inside (List.getD a0 (Int.toNat a1.1) (0,([],()))).1 1 256)) then (some (.inr (true,((2,()),())))) else (Option.bind (Loop (@Dm a0 a1) (0,())) (fun y2=>(bif y2.1 then (some (.inr (true,y2.2))) else (some (.inl ((IntKind.wrap .i64 (a1.1+1)),()))))))) else none) else (some (.inr (false,((0,()),())))))
noncomputable def Dp (a0:(@List (Int×((List Int)×Unit)))) (a1:(Int×Unit)):(Option (Sum (Int×Unit) (Bool×((Int×Unit)×Unit)))):=
  (bif (decide (a1.1<(Int.ofNat a0.length))) then (bif ((decide (0≤a1.1))&&(decide (a1.1<(Int.ofNat a0.length)))) then (bif (decide ((Int.ofNat (List.getD a0 (Int.toNat a1.1) (0,([],()))).2.1.length) > 24)) then (some (.inr (true,((3,()),())))) else (some (.inl ((IntKind.wrap .i64 (a1.1+1)),())))) else none) else (some (.inr (false,((0,()),())))))
noncomputable def Dq (a0:(@List (Int×((List Int)×Unit)))) (a1:(Int×Unit)) (a2:(Int×Unit)):(Option (Sum (Int×Unit) (Bool×((Int×Unit)×Unit)))):=
  (bif (decide (a2.1<(Int.ofNat (List.getD a0 (Int.toNat a1.1) (0,([],()))).2.1.length))) then (bif ((decide (0≤(IntKind.wrap .i64 (a2.1 - 1))))&&(decide ((IntKind.wrap .i64 (a2.1 - 1))<(Int.ofNat (List.getD a0 (Int.toNat a1.1) (0,([],()))).2.1.length)))) then (bif ((decide (0≤a2.1))&&(decide (a2.1<(Int.ofNat (List.getD a0 (Int.toNat a1.1) (0,([],()))).2.1.length)))) then (bif (decide ((List.getD (List.getD a0 (Int.toNat a1.1) (0,([],()))).2.1 (Int.toNat (IntKind.wrap .i64 (a2.1 - 1))) 0)≥(List.getD (List.getD a0 (Int.toNat a1.1) (0,([],()))).2.1 (Int.toNat a2.1) 0))) then (some (.inr (true,((25,()),())))) else (some (.inl ((IntKind.wrap .i64 (a2.1+1)),())))) else none) else none) else (some (.inr (false,((0,()),())))))
noncomputable def Dr (a0:(@List (Int×((List Int)×Unit)))) (a1:(Int×Unit)):(Option (Sum (Int×Unit) (Bool×((Int×Unit)×Unit)))):=
  (bif (decide (a1.1<(Int.ofNat a0.length))) then (bif ((decide (0≤a1.1))&&(decide (a1.1<(Int.ofNat a0.length)))) then (Option.bind (bif (decide (a1.1 > 0)) then (bif (decide (a1.1 > 0)) then (bif (decide (a1.1 > 0)) then (bif (decide (a1.1 > 0)) then (bif (decide (a1.1 > 0)) then (bif ((decide (0≤(IntKind.wrap .i64 (a1.1 - 1))))&&(decide ((IntKind.wrap .i64 (a1.1 - 1))<(Int.ofNat a0.length)))) then (bif (decide (a1.1 > 0)) then (bif (decide (a1.1 > 0)) then (bif (decide (a1.1 > 0)) then (bif (decide (a1.1 > 0)) then (bif (decide (a1.1 > 0)) then (bif (decide (a1.1 > 0)) then (bif ((decide (0≤a1.1))&&(decide (a1.1<(Int.ofNat a0.length)))) then (bif (decide (a1.1 > 0)) then (bif (decide (a1.1 > 0)) then (bif (decide (a1.1 > 0)) then (bif (decide (a1.1 > 0)) then (some ((decide ((List.getD a0 (Int.toNat (IntKind.wrap .i64 (a1.1 - 1))) (0,([],()))).1≥(List.getD a0 (Int.toNat a1.1) (0,([],()))).1)),())) else none) else none) else none) else none) else none) else none) else none) else none) else none) else none) else none) else none) else none) else none) else none) else none) else (bif (!(decide (a1.1 > 0))) then (bif (!(decide (a1.1 > 0))) then (bif (!(decide (a1.1 > 0))) then (bif (!(decide (a1.1 > 0))) then (bif (!(decide (a1.1 > 0))) then (bif (!(decide (a1.1 > 0))) then (bif (!(decide (a1.1 > 0))) then (bif (!(decide (a1.1 > 0))) then (bif (!(decide (a1.1 > 0))) then (bif (!(decide (a1.1 > 0))) then (bif (!(decide (a1.1 > 0))) then (bif (!(decide (a1.1 > 0))) then (bif (!(decide (a1.1 > 0))) then (bif (!(decide (a1.1 > 0))) then (some (false,())) else none) else none) else none) else none) else none) else none) else none) else none) else none) else none) else none) else none) else none) else none)) (fun y2=>(bif y2.1 then (some (.inr (true,((25,()),())))) else (Option.bind (Loop (@Dq a0 a1) (1,())) (fun y3=>(bif y3.1 then (some (.inr (true,y3.2))) else (some (.inl ((IntKind.wrap .i64 (a1.1+1)),()))))))))) else none) else (some (.inr (false,((0,()),())))))
noncomputable def Dt (a0:Int) (a1:(@List (Int×((List Int)×Unit)))) (a2:(Int×Unit)):(Option (Sum (Int×Unit) (Bool×((Int×Unit)×Unit)))):=
  (bif (decide (a2.1<(Int.ofNat a1.length))) then (Option.bind (bif ((decide (0≤a2.1))&&(decide (a2.1<(Int.ofNat a1.length)))) then (bif (decide ((Int.ofNat (List.getD a1 (Int.toNat a2.1) (0,([],()))).2.1.length) > 1)) then (bif (decide ((Int.ofNat (List.getD a1 (Int.toNat a2.1) (0,([],()))).2.1.length) > 1)) then (bif (decide ((Int.ofNat (List.getD a1 (Int.toNat a2.1) (0,([],()))).2.1.length) > 1)) then (bif (decide ((Int.ofNat (List.getD a1 (Int.toNat a2.1) (0,([],()))).2.1.length) > 1)) then (bif ((decide (0≤a2.1))&&(decide (a2.1<(Int.ofNat a1.length)))) then (bif (decide ((Int.ofNat (List.getD a1 (Int.toNat a2.1) (0,([],()))).2.1.length) > 1)) then (bif (decide ((Int.ofNat (List.getD a1 (Int.toNat a2.1) (0,([],()))).2.1.length) > 1)) then (bif (decide ((Int.ofNat (List.getD a1 (Int.toNat a2.1) (0,([],()))).2.1.length) > 1)) then (bif (decide ((Int.ofNat (List.getD a1 (Int.toNat a2.1) (0,([],()))).2.1.length) > 1)) then (bif (decide ((Int.ofNat (List.getD a1 (Int.toNat a2.1) (0,([],()))).2.1.length) > 1)) then (bif (decide ((Int.ofNat (List.getD a1 (Int.toNat a2.1) (0,([],()))).2.1.length) > 1)) then (some ((ah.has (List.getD a1 (Int.toNat a2.1) (0,([],()))).2.1 a0),())) else none) else none) else none) else none) else none) else none) else none) else none) else none) else none) else (bif (!(decide ((Int.ofNat (List.getD a1 (Int.toNat a2.1) (0,([],()))).2.1.length) > 1))) then (bif (!(decide ((Int.ofNat (List.getD a1 (Int.toNat a2.1) (0,([],()))).2.1.length) > 1))) then (bif (!(decide ((Int.ofNat (List.getD a1 (Int.toNat a2.1) (0,([],()))).2.1.length) > 1))) then (bif (!(decide ((Int.ofNat (List.getD a1 (Int.toNat a2.1) (0,([],()))).2.1.length) > 1))) then (bif (!(decide ((Int.ofNat (List.getD a1 (Int.toNat a2.1) (0,([],()))).2.1.length) > 1))) then (bif (!(decide ((Int.ofNat (List.getD a1 (Int.toNat a2.1) (0,([],()))).2.1.length) > 1))) then (bif (!(decide ((Int.ofNat (List.getD a1 (Int.toNat a2.1) (0,([],()))).2.1.length) > 1))) then (bif (!(decide ((Int.ofNat (List.getD a1 (Int.toNat a2.1) (0,([],()))).2.1.length) > 1))) then (bif (!(decide ((Int.ofNat (List.getD a1 (Int.toNat a2.1) (0,([],()))).2.1.length) > 1))) then (some (false,())) else none) else none) else none) else none) else none) else none) else none) else none) else none)) else none) (fun y3=>(bif y3.1 then (some (.inr (true,((8,()),())))) else (some (.inl ((IntKind.wrap .i64 (a2.1+1)),())))))) else (some (.inr (false,((0,()),())))))
noncomputable def g37 (a0:Int) (a1:Int) (a2:Int) (a3:(@List (Int×((List Int)×Unit)))):(Option (Int×Unit)):=
  (Option.bind (bif (!(!(ah.inside a0 1 99))) then (bif (!(!(ah.inside a1 0 7))) then (bif (!(ah.dI a2)) then (bif (!(!(decide (a2=0)))) then (some ((decide ((Int.ofNat a3.length) > 0)),())) else (some (true,()))) else (some (false,()))) else (some (true,()))) else (some (true,()))) (fun y4=>(bif y4.1 then (some (2,())) else (Option.bind (Loop (@Dn a3) (0,())) (fun y5=>(bif y5.1 then (some y5.2.1) else (bif (decide ((Int.ofNat a3.length) > 256)) then (some (3,())) else (Option.bind (Loop (@Dp a3) (0,())) (fun y6=>(bif y6.1 then (some y6.2.1) else (Option.bind (Loop (@Dr a3) (0,())) (fun y7=>(bif y7.1 then (some y7.2.1) else (Option.bind (Loop (@Dt a0 a3) (0,())) (fun y8=>(bif y8.1 then (some y8.2.1) else (some (0,()))))))))))))))))))
theorem YC (a0:Int) (a1:Int) (a2:Int) (a3:(@List (Int×((List Int)×Unit)))):(eF (fun _ _=>Loop) E37 G37 Go.Proofs.Tryz.f37 Pg c37 ((),((a0,(a1,(a2,(a3,())))),()))).den=g37 a0 a1 a2 a3:=by kernel_rfl
noncomputable def Du (a0:(@List (Int×(Bool×Unit)))) (a1:(Int×Unit)):(Option (Sum (Int×Unit) (Bool×((Int×Unit)×Unit)))):=
  (bif (decide (a1.1<(Int.ofNat a0.length))) then (Option.bind (bif ((decide (0≤a1.1))&&(decide (a1.1<(Int.ofNat a0.length)))) then (bif (!(decide ((List.getD a0 (Int.toNat a1.1) (0,(false,()))).1<1))) then (bif ((decide (0≤a1.1))&&(decide (a1.1<(Int.ofNat a0.length)))) then (some ((decide ((List.getD a0 (Int.toNat a1.1) (0,(false,()))).1 > 99)),())) else none) else (some (true,()))) else none) (fun y2=>(bif y2.1 then (some (.inr (true,((2,()),())))) else (some (.inl ((IntKind.wrap .i64 (a1.1+1)),())))))) else (some (.inr (false,((0,()),())))))
noncomputable def zB (a0:(@List (Int×(Bool×Unit)))) (a1:(Int×Unit)):(Option (Sum (Int×Unit) (Bool×((Int×Unit)×Unit)))):=
  (bif (decide (a1.1<(Int.ofNat a0.length))) then (bif ((decide (0≤(IntKind.wrap .i64 (a1.1 - 1))))&&(decide ((IntKind.wrap .i64 (a1.1 - 1))<(Int.ofNat a0.length)))) then (bif ((decide (0≤a1.1))&&(decide (a1.1<(Int.ofNat a0.length)))) then (bif (decide ((List.getD a0 (Int.toNat (IntKind.wrap .i64 (a1.1 - 1))) (0,(false,()))).1≥(List.getD a0 (Int.toNat a1.1) (0,(false,()))).1)) then (some (.inr (true,((25,()),())))) else (some (.inl ((IntKind.wrap .i64 (a1.1+1)),())))) else none) else none) else (some (.inr (false,((0,()),())))))
noncomputable def Dv (a0:(@List ah.Lk)) (a1:(Int×Unit)):(Option (Sum (Int×Unit) (Bool×((Int×Unit)×Unit)))):=
  (bif (decide (a1.1<(Int.ofNat a0.length))) then (bif ((decide (0≤a1.1))&&(decide (a1.1<(Int.ofNat a0.length)))) then (Option.bind (bif (!(!(ah.inside (List.getD a0 (Int.toNat a1.1) (0,(0,(0,(0,(0,())))))).2.2.1 1 1000))) then (bif (!(!(ah.inside (List.getD a0 (Int.toNat a1.1) (0,(0,(0,(0,(0,())))))).2.2.2.1 1 1000))) then (bif (!(decide ((List.getD a0 (Int.toNat a1.1) (0,(0,(0,(0,(0,())))))).2.2.2.2.1<0))) then (some ((decide ((List.getD a0 (Int.toNat a1.1) (0,(0,(0,(0,(0,())))))).2.2.2.2.1 > 1000)),())) else (some (true,()))) else (some (true,()))) else (some (true,()))) (fun y2=>(bif y2.1 then (some (.inr (true,((2,()),())))) else (some (.inl ((IntKind.wrap .i64 (a1.1+1)),())))))) else none) else (some (.inr (false,((0,()),())))))
noncomputable def Dw (a0:(@List (Int×(Bool×Unit)))) (a1:(@List ah.Lk)) (a2:(Int×Unit)):(Option (Sum (Int×Unit) (Bool×((Int×Unit)×Unit)))):=
  (bif (decide (a2.1<(Int.ofNat a1.length))) then (Option.bind (bif ((decide (0≤a2.1))&&(decide (a2.1<(Int.ofNat a1.length)))) then (bif (!(!(ah.gQ a0 (List.getD a1 (Int.toNat a2.1) (0,(0,(0,(0,(0,())))))).1))) then (bif (!(!(ah.gQ a0 (List.getD a1 (Int.toNat a2.1) (0,(0,(0,(0,(0,())))))).1))) then (bif (!(!(ah.gQ a0 (List.getD a1 (Int.toNat a2.1) (0,(0,(0,(0,(0,())))))).1))) then (bif (!(!(ah.gQ a0 (List.getD a1 (Int.toNat a2.1) (0,(0,(0,(0,(0,())))))).1))) then (bif (!(!(ah.gQ a0 (List.getD a1 (Int.toNat a2.1) (0,(0,(0,(0,(0,())))))).1))) then (bif ((decide (0≤a2.1))&&(decide (a2.1<(Int.ofNat a1.length)))) then (bif (!(!(ah.gQ a0 (List.getD a1 (Int.toNat a2.1) (0,(0,(0,(0,(0,())))))).1))) then (bif (!(!(ah.gQ a0 (List.getD a1 (Int.toNat a2.1) (0,(0,(0,(0,(0,())))))).1))) then (bif (!(!(ah.gQ a0 (List.getD a1 (Int.toNat a2.1) (0,(0,(0,(0,(0,())))))).1))) then (bif (!(!(ah.gQ a0 (List.getD a1 (Int.toNat a2.1) (0,(0,(0,(0,(0,())))))).1))) then (bif (!(!(ah.gQ a0 (List.getD a1 (Int.toNat a2.1) (0,(0,(0,(0,(0,())))))).1))) then (some ((!(ah.gQ a0 (List.getD a1 (Int.toNat a2.1) (0,(0,(0,(0,(0,())))))).2.1)),())) else none) else none) else none) else none) else none) else none) else none) else none) else none) else none) else (bif (!(ah.gQ a0 (List.getD a1 (Int.toNat a2.1) (0,(0,(0,(0,(0,())))))).1)) then (bif (!(ah.gQ a0 (List.getD a1 (Int.toNat a2.1) (0,(0,(0,(0,(0,())))))).1)) then (bif (!(ah.gQ a0 (List.getD a1 (Int.toNat a2.1) (0,(0,(0,(0,(0,())))))).1)) then (bif (!(ah.gQ a0 (List.getD a1 (Int.toNat a2.1) (0,(0,(0,(0,(0,())))))).1)) then (bif (!(ah.gQ a0 (List.getD a1 (Int.toNat a2.1) (0,(0,(0,(0,(0,())))))).1)) then (bif (!(ah.gQ a0 (List.getD a1 (Int.toNat a2.1) (0,(0,(0,(0,(0,())))))).1)) then (bif (!(ah.gQ a0 (List.getD a1 (Int.toNat a2.1) (0,(0,(0,(0,(0,())))))).1)) then (bif (!(ah.gQ a0 (List.getD a1 (Int.toNat a2.1) (0,(0,(0,(0,(0,())))))).1)) then (bif (!(ah.gQ a0 (List.getD a1 (Int.toNat a2.1) (0,(0,(0,(0,(0,())))))).1)) then (some (true,())) else none) else none) else none) else none) else none) else none) else none) else none) else none)) else none) (fun y3=>(bif y3.1 then (some (.inr (true,((4,()),())))) else (some (.inl ((IntKind.wrap .i64 (a2.1+1)),())))))) else (some (.inr (false,((0,()),())))))
noncomputable def Dx (a0:(@List ah.Lk)) (a1:(Int×Unit)):(Option (Sum (Int×Unit) (Bool×((Int×Unit)×Unit)))):=
  (bif (decide (a1.1<(Int.ofNat a0.length))) then (bif ((decide (0≤a1.1))&&(decide (a1.1<(Int.ofNat a0.length)))) then (bif ((decide (0≤a1.1))&&(decide (a1.1<(Int.ofNat a0.length)))) then (bif (decide ((List.getD a0 (Int.toNat a1.1) (0,(0,(0,(0,(0,())))))).1≥(List.getD a0 (Int.toNat a1.1) (0,(0,(0,(0,(0,())))))).2.1)) then (some (.inr (true,((8,()),())))) else (some (.inl ((IntKind.wrap .i64 (a1.1+1)),())))) else none) else none) else (some (.inr (false,((0,()),())))))
noncomputable def zG (a0:(@List ah.Lk)) (a1:(Int×Unit)):(Option (Sum (Int×Unit) (Bool×((Int×Unit)×Unit)))):=
  (bif (decide (a1.1<(Int.ofNat a0.length))) then (bif ((decide (0≤(IntKind.wrap .i64 (a1.1 - 1))))&&(decide ((IntKind.wrap .i64 (a1.1 - 1))<(Int.ofNat a0.length)))) then (bif ((decide (0≤a1.1))&&(decide (a1.1<(Int.ofNat a0.length)))) then (Option.bind (bif (!(decide ((List.getD a0 (Int.toNat (IntKind.wrap .i64 (a1.1 - 1))) (0,(0,(0,(0,(0,())))))).1 > (List.getD a0 (Int.toNat a1.1) (0,(0,(0,(0,(0,())))))).1))) then (bif (decide ((List.getD a0 (Int.toNat (IntKind.wrap .i64 (a1.1 - 1))) (0,(0,(0,(0,(0,())))))).1=(List.getD a0 (Int.toNat a1.1) (0,(0,(0,(0,(0,())))))).1)) then (some ((decide ((List.getD a0 (Int.toNat (IntKind.wrap .i64 (a1.1 - 1))) (0,(0,(0,(0,(0,())))))).2.1≥(List.getD a0 (Int.toNat a1.1) (0,(0,(0,(0,(0,())))))).2.1)),())) else (some (false,()))) else (some (true,()))) (fun y2=>(bif y2.1 then (some (.inr (true,((25,()),())))) else (some (.inl ((IntKind.wrap .i64 (a1.1+1)),())))))) else none) else none) else (some (.inr (false,((0,()),())))))
noncomputable def g49 (a0:(@List (Int×(Bool×Unit)))) (a1:(@List ah.Lk)):(Option (Int×Unit)):=
  (Option.bind (bif (!(decide ((Int.ofNat a0.length) > 24))) then (some ((decide ((Int.ofNat a1.length) > 60)),())) else (some (true,()))) (fun y2=>(bif y2.1 then (some (3,())) else (Option.bind (Loop (@Du a0) (0,())) (fun y3=>(bif y3.1 then (some y3.2.1) else (Option.bind (Loop (@zB a0) (1,())) (fun y4=>(bif y4.1 then (some y4.2.1) else (Option.bind (Loop (@Dv a1) (0,())) (fun y5=>(bif y5.1 then (some y5.2.1) else (Option.bind (Loop (@Dw a0 a1) (0,())) (fun y6=>(bif y6.1 then (some y6.2.1) else (Option.bind (Loop (@Dx a1) (0,())) (fun y7=>(bif y7.1 then (some y7.2.1) else (Option.bind (Loop (@zG a1) (1,())) (fun y8=>(bif y8.1 then (some y8.2.1) else (some (0,())))))))))))))))))))))))
theorem YD (a0:(@List (Int×(Bool×Unit)))) (a1:(@List ah.Lk)):(eF (fun _ _=>Loop) E49 G49 Go.Proofs.Tryz.f49 OQ c49 ((),((a0,(a1,())),()))).den=g49 a0 a1:=by kernel_rfl
noncomputable def Dy (a0:(@List (Int×(Int×Unit)))) (a1:(Int×((List Int)×Unit))):(Option (Sum (Int×((List Int)×Unit)) (Bool×((Bool×Unit)×((List Int)×Unit))))):=
  (bif (decide (a1.1<(Int.ofNat a0.length))) then (bif ((decide (0≤a1.1))&&(decide (a1.1<(Int.ofNat a0.length)))) then (Option.bind (bif (!(!(ah.inside (List.getD a0 (Int.toNat a1.1) (0,(0,()))).2.1 1 256))) then (bif (!(!(ah.inside (List.getD a0 (Int.toNat a1.1) (0,(0,()))).2.1 1 256))) then (bif (!(!(ah.inside (List.getD a0 (Int.toNat a1.1) (0,(0,()))).2.1 1 256))) then (bif (!(!(ah.inside (List.getD a0 (Int.toNat a1.1) (0,(0,()))).2.1 1 256))) then (bif (!(!(ah.inside (List.getD a0 (Int.toNat a1.1) (0,(0,()))).2.1 1 256))) then (bif (!(!(ah.inside (List.getD a0 (Int.toNat a1.1) (0,(0,()))).1 1 99))) then (bif (!(!(ah.inside (List.getD a0 (Int.toNat a1.1) (0,(0,()))).1 1 99))) then (bif (!(!(ah.inside (List.getD a0 (Int.toNat a1.1) (0,(0,()))).1 1 99))) then (bif (decide (a1.1 > 0)) then (bif (decide (a1.1 > 0)) then (bif (decide (a1.1 > 0)) then (bif (decide (a1.1 > 0)) then (bif (decide (a1.1 > 0)) then (bif ((decide (0≤(IntKind.wrap .i64 (a1.1 - 1))))&&(decide ((IntKind.wrap .i64 (a1.1 - 1))<(Int.ofNat a0.length)))) then (bif (decide (a1.1 > 0)) then (bif (decide (a1.1 > 0)) then (bif (decide (a1.1 > 0)) then (bif (decide (a1.1 > 0)) then (bif (decide (a1.1 > 0)) then (bif (!(!(ah.inside (List.getD a0 (Int.toNat a1.1) (0,(0,()))).1 1 99))) then (bif (decide (a1.1 > 0)) then (bif (!(!(ah.inside (List.getD a0 (Int.toNat a1.1) (0,(0,()))).1 1 99))) then (some ((decide ((List.getD a0 (Int.toNat (IntKind.wrap .i64 (a1.1 - 1))) (0,(0,()))).2.1≥(List.getD a0 (Int.toNat a1.1) (0,(0,()))).2.1)),())) else none) else none) else none) else none) else none) else none) else none) else none) else none) else none) else none) else none) else none) else (bif (!(decide (a1.1 > 0))) then (bif (!(decide (a1.1 > 0))) then (bif (!(decide (a1.1 > 0))) then (bif (!(decide (a1.1 > 0))) then (bif (!(decide (a1.1 > 0))) then (bif (!(decide (a1.1 > 0))) then (bif (!(decide (a1.1 > 0))) then (bif (!(decide (a1.1 > 0))) then (bif (!(decide (a1.1 > 0))) then (bif (!(!(ah.inside (List.getD a0 (Int.toNat a1.1) (0,(0,()))).1 1 99))) then (bif (!(decide (a1.1 > 0))) then (bif (!(!(ah.inside (List.getD a0 (Int.toNat a1.1) (0,(0,()))).1 1 99))) then (some (false,())) else none) else none) else none) else none) else none) else none) else none) else none) else none) else none) else none) else none)) else none) else none) else (bif (!(ah.inside (List.getD a0 (Int.toNat a1.1) (0,(0,()))).1 1 99)) then (bif (!(ah.inside (List.getD a0 (Int.toNat a1.1) (0,(0,()))).1 1 99)) then (bif (!(ah.inside (List.getD a0 (Int.toNat a1.1) (0,(0,()))).1 1 99)) then (bif (!(ah.inside (List.getD a0 (Int.toNat a1.1) (0,(0,()))).1 1 99)) then (some (true,())) else none) else none) else none) else none)) else none) else none) else none) else none) else (bif (!(ah.inside (List.getD a0 (Int.toNat a1.1) (0,(0,()))).2.1 1 256)) then (bif (!(ah.inside (List.getD a0 (Int.toNat a1.1) (0,(0,()))).2.1 1 256)) then (bif (!(ah.inside (List.getD a0 (Int.toNat a1.1) (0,(0,()))).2.1 1 256)) then (bif (!(ah.inside (List.getD a0 (Int.toNat a1.1) (0,(0,()))).2.1 1 256)) then (some (true,())) else none) else none) else none) else none)) (fun y2=>(bif y2.1 then (some (.inr (true,((false,()),([],()))))) else (bif (@Nat.ble ((a1.2.1.length+1)*8) 140737488355328) then (some (.inl ((IntKind.wrap .i64 (a1.1+1)),((a1.2.1++((List.getD a0 (Int.toNat a1.1) (0,(0,()))).1::[])),())))) else none)))) else none) else (some (.inr (false,((false,()),a1.2)))))
noncomputable def g50 (a0:Int) (a1:Int) (a2:(@List (Int×(Int×Unit)))):(Option (Bool×Unit)):=
  (Option.bind (bif (!(!(ah.inside a0 0 7))) then (bif (!(ah.dI a1)) then (bif (!(!(decide (a1=0)))) then (bif (!(decide ((Int.ofNat a2.length) > 0))) then (some ((decide ((Int.ofNat a2.length) > 24)),())) else (some (true,()))) else (some (true,()))) else (some ((decide ((Int.ofNat a2.length) > 24)),()))) else (some (true,()))) (fun y3=>(bif y3.1 then (some (false,())) else (Option.bind (Loop (@Dy a2) (0,([],()))) (fun y4=>(bif y4.1 then (some y4.2.1) else (some ((!(ah.repeats y4.2.2.1)),()))))))))
theorem YE (a0:Int) (a1:Int) (a2:(@List (Int×(Int×Unit)))):(eF (fun _ _=>Loop) E50 G50 Go.Proofs.Tryz.f50 OU c50 ((),((a0,(a1,(a2,()))),()))).den=g50 a0 a1 a2:=by kernel_rfl
noncomputable def Sk (a0:(List Int)) (a1:Int) (a2:Int) (a3:Int) (a4:Int) (a5:(@List (Int×((List Int)×Unit)))):(Option (ah.Tb×ah.Tp)):=
  (Option.bind (ah.on (ah.wf (a0,(a1,()))) (ah.next (a0,(a1,())) 8)) (fun y6=>(bif (decide (y6.1=0)) then (Option.bind (ah.on (((ah.wf y6.2)&&(decide (0<5)))&&(decide (5≤1000))) (ah.pick y6.2 (0::(1::(2::(99::(100::[]))))))) (fun y7=>(some ((y7.1,(a3,(a4,(a5,())))),y7.2)))) else (bif (decide (y6.1=1)) then (Option.bind (ah.on (ah.wf y6.2) (ah.wild y6.2)) (fun y7=>(some ((a2,(y7.1,(a4,(a5,())))),y7.2)))) else (bif (decide (y6.1=2)) then (Option.bind (ah.on (((ah.wf y6.2)&&(decide (0<5)))&&(decide (5≤1000))) (ah.pick y6.2 (0::(8::(16::(24::(64::[]))))))) (fun y7=>(some ((a2,(a3,(y7.1,(a5,())))),y7.2)))) else (bif (decide (y6.1=3)) then (Option.bind (ah.on (((ah.wf y6.2)&&(decide (0<4)))&&(decide (4≤1000))) (ah.pick y6.2 (0::(1::(256::(257::[])))))) (fun y7=>(bif (@Nat.ble ((a5.length+1)*32) 140737488355328) then (some ((a2,(a3,(a4,((a5++((y7.1,((1::[]),()))::[])),())))),y7.2)) else none))) else (bif (decide ((Int.ofNat a5.length) > 0)) then (Option.bind (ah.on (ah.wf y6.2) (ah.next y6.2 (Int.ofNat a5.length))) (fun y7=>(bif ((decide (0≤y7.1))&&(decide (y7.1<(Int.ofNat a5.length)))) then (Option.bind (ah.on (ah.wf y7.2) (ah.next y7.2 4)) (fun y8=>(bif (decide (y8.1=0)) then (bif (@Nat.blt (Int.toNat y7.1) a5.length) then (Option.bind (ah.on (((ah.wf y8.2)&&(decide (0<5)))&&(decide (5≤1000))) (ah.pick y8.2 (0::(1::(6::(99::(100::[]))))))) (fun y9=>(bif (@Nat.ble (((List.getD a5 (Int.toNat y7.1) (0,([],()))).2.1.length+1)*8) 140737488355328) then (bif (@Nat.blt (Int.toNat y7.1) a5.length) then (some ((a2,(a3,(a4,((List.set a5 (Int.toNat y7.1) ((List.getD a5 (Int.toNat y7.1) (0,([],()))).1,(((List.getD a5 (Int.toNat y7.1) (0,([],()))).2.1++(y9.1::[])),()))),())))),y9.2)) else none) else none))) else none) else (bif (decide (y8.1=1)) then (bif (@Nat.blt (Int.toNat y7.1) a5.length) then (bif (@Nat.ble (((List.getD a5 (Int.toNat y7.1) (0,([],()))).2.1.length+1)*8) 140737488355328) then (bif (@Nat.blt (Int.toNat y7.1) a5.length) then (some ((a2,(a3,(a4,((List.set a5 (Int.toNat y7.1) ((List.getD a5 (Int.toNat y7.1) (0,([],()))).1,(((List.getD a5 (Int.toNat y7.1) (0,([],()))).2.1++(a2::[])),()))),())))),y8.2)) else none) else none) else none) else (bif (decide (y8.1=2)) then (bif (@Nat.blt (Int.toNat y7.1) a5.length) then (some ((a2,(a3,(a4,((List.set a5 (Int.toNat y7.1) ((List.getD a5 (Int.toNat y7.1) (0,([],()))).1,([],()))),())))),y8.2)) else none) else (Option.bind (ah.on (((ah.wf y8.2)&&(decide (0<(1::(2::(3::(9::(a2::[]))))).length)))&&(decide ((1::(2::(3::(9::(a2::[]))))).length≤1000))) (ah.pick y8.2 (1::(2::(3::(9::(a2::[]))))))) (fun y9=>(bif (@Nat.blt (Int.toNat y7.1) a5.length) then (some ((a2,(a3,(a4,((List.set a5 (Int.toNat y7.1) ((List.getD a5 (Int.toNat y7.1) (0,([],()))).1,((y9.1::[]),()))),())))),y9.2)) else none)))))))) else none))) else (some ((a2,(a3,(a4,(a5,())))),y6.2)))))))))
theorem Sl (a0:(List Int)) (a1:Int) (a2:Int) (a3:Int) (a4:Int) (a5:(@List (Int×((List Int)×Unit)))):(aby (fun _ _=>Loop) RU acr Go.Proofs.Tryz.f28 JJ Ld ((a0,(a1,())),((a2,(a3,(a4,(a5,())))),()))).den=Sk a0 a1 a2 a3 a4 a5:=by kernel_rfl
noncomputable def g62 (a0:Int):(Option (Int×Unit)):=
  (bif (decide (a0=0)) then (some (64,())) else (bif ((decide (0≤(@Int.fdiv (IntKind.wrap .u64 ((IntKind.wrap .u64 (Int.ofNat (BitVec.toNat (BitVec.and (BitVec.ofInt 64 a0) (BitVec.ofInt 64 (IntKind.wrap .u64 (0 - a0)))))))*285870213051353865)) 288230376151711744)))&&(decide ((@Int.fdiv (IntKind.wrap .u64 ((IntKind.wrap .u64 (Int.ofNat (BitVec.toNat (BitVec.and (BitVec.ofInt 64 a0) (BitVec.ofInt 64 (IntKind.wrap .u64 (0 - a0)))))))*285870213051353865)) 288230376151711744)<64))) then (bif (@Nat.blt (0+((Int.toNat (@Int.fdiv (IntKind.wrap .u64 ((IntKind.wrap .u64 (Int.ofNat (BitVec.toNat (BitVec.and (BitVec.ofInt 64 a0) (BitVec.ofInt 64 (IntKind.wrap .u64 (0 - a0)))))))*285870213051353865)) 288230376151711744))*1)) 64) then (some ((IntKind.wrap .i64 (List.getD (0::(1::(56::(2::(57::(49::(28::(3::(61::(58::(42::(50::(38::(29::(17::(4::(62::(47::(59::(36::(45::(43::(51::(22::(53::(39::(33::(30::(24::(18::(12::(5::(63::(55::(48::(27::(60::(41::(37::(16::(46::(35::(44::(21::(52::(32::(23::(11::(54::(26::(40::(15::(34::(20::(31::(10::(25::(14::(19::(9::(13::(8::(7::(6::[])))))))))))))))))))))))))))))))))))))))))))))))))))))))))))))))) (0+((Int.toNat (@Int.fdiv (IntKind.wrap .u64 ((IntKind.wrap .u64 (Int.ofNat (BitVec.toNat (BitVec.and (BitVec.ofInt 64 a0) (BitVec.ofInt 64 (IntKind.wrap .u64 (0 - a0)))))))*285870213051353865)) 288230376151711744))*1)) 0)),())) else none) else none))
theorem YF (a0:Int):(eF (fun _ _=>Loop) E62 G62 Go.Proofs.Tryz.f62 OB c62 ((),(a0,()))).den=g62 a0:=by kernel_rfl
noncomputable def zH (a0:Int) (a1:(ah.Tp×ah.Tp)):(Option (Sum (ah.Tp×ah.Tp) (ah.Tp×((List Int)×Unit)))):=
  (bif (decide (a1.2.2.1<a0)) then (Option.bind (ah.on (ah.wf a1.1) (ah.next a1.1 (IntKind.wrap .i64 (a1.2.2.1+1)))) (fun y2=>(bif ((true&&(decide (0≤y2.1)))&&(decide (y2.1≤(Int.ofNat a1.2.1.length)))) then (bif (@Nat.ble ((0+(List.drop 0 (List.take (Int.toNat y2.1) a1.2.1)).length)*8) 140737488355328) then (bif (@Nat.ble ((([]++(List.drop 0 (List.take (Int.toNat y2.1) a1.2.1))).length+1)*8) 140737488355328) then (bif (((decide (0≤y2.1))&&(decide (y2.1≤(Int.ofNat a1.2.1.length))))&&(decide ((Int.ofNat a1.2.1.length)≤(Int.ofNat a1.2.1.length)))) then (bif (@Nat.ble (((([]++(List.drop 0 (List.take (Int.toNat y2.1) a1.2.1)))++(a1.2.2.1::[])).length+(List.drop (Int.toNat y2.1) (List.take (Int.toNat (Int.ofNat a1.2.1.length)) a1.2.1)).length)*8) 140737488355328) then (some (.inl (y2.2,(((([]++(List.drop 0 (List.take (Int.toNat y2.1) a1.2.1)))++(a1.2.2.1::[]))++(List.drop (Int.toNat y2.1) (List.take (Int.toNat (Int.ofNat a1.2.1.length)) a1.2.1))),((IntKind.wrap .i64 (a1.2.2.1+1)),()))))) else none) else none) else none) else none) else none))) else (some (.inr (a1.1,(a1.2.1,())))))
noncomputable def g43 (a0:(List Int)) (a1:Int) (a2:Int):(Option ((List Int)×ah.Tp)):=
  (Option.bind (Loop (@zH a2) ((a0,(a1,())),([],(0,())))) (fun y3=>(some (y3.2.1,y3.1))))
theorem YG (a0:(List Int)) (a1:Int) (a2:Int):(eF (fun _ _=>Loop) E43 G43 Go.Proofs.Tryz.f43 Oo c43 ((a0,(a1,())),(a2,()))).den=g43 a0 a1 a2:=by kernel_rfl
noncomputable def g19 (a0:(List Int)) (a1:Int) (a2:(@List (Int×(Bool×Unit)))) (a3:(@List ah.Lk)) (a4:Int):(Option (Int×ah.Tp)):=
  (Option.bind (bif (decide (a4 > 0)) then (Option.bind (ah.on ((ah.wf (a0,(a1,())))&&(ah.small a4)) (ah.one (a0,(a1,())) a4)) (fun y5=>(bif (!y5.1) then (some (y5.2,((decide ((Int.ofNat a2.length)=0)),()))) else (some (y5.2,(true,())))))) else (some ((a0,(a1,())),((decide ((Int.ofNat a2.length)=0)),())))) (fun y5=>(bif y5.2.1 then (Option.bind (ah.on (((ah.wf y5.1)&&(decide (0<6)))&&(decide (6≤1000))) (ah.pick y5.1 (0::(1::(2::(7::(77::((-1:Int)::[])))))))) (fun y6=>(some y6))) else (Option.bind (ah.on (ah.wf y5.1) (ah.next y5.1 (Int.ofNat a2.length))) (fun y6=>(bif ((decide (0≤y6.1))&&(decide (y6.1<(Int.ofNat a2.length)))) then (some ((List.getD a2 (Int.toNat y6.1) (0,(false,()))).1,y6.2)) else none))))))
theorem YH (a0:(List Int)) (a1:Int) (a2:(@List (Int×(Bool×Unit)))) (a3:(@List ah.Lk)) (a4:Int):(eF (fun _ _=>Loop) E19 G19 Go.Proofs.Tryz.f19 Ot c19 ((a0,(a1,())),((a2,(a3,())),(a4,())))).den=g19 a0 a1 a2 a3 a4:=by kernel_rfl
noncomputable def qI (a0:(@List (Int×(Bool×Unit)))) (a1:(@List ah.Lk)) (a2:Int) (a3:ah.Tp):(Option (Sum ah.Tp ((List Int)×Unit))):=
  (bif (decide (a3.2.1<(Int.ofNat a0.length))) then (bif ((decide (0≤a3.2.1))&&(decide (a3.2.1<(Int.ofNat a0.length)))) then (Option.bind (bif (ah.price a1 a2 (List.getD a0 (Int.toNat a3.2.1) (0,(false,()))).1).2.1 then (bif ((decide (0≤a3.2.1))&&(decide (a3.2.1<(Int.ofNat a0.length)))) then (bif (@Nat.ble ((a3.1.length+1)*8) 140737488355328) then (some ((a3.1++((List.getD a0 (Int.toNat a3.2.1) (0,(false,()))).1::[])),())) else none) else none) else (some (a3.1,()))) (fun y4=>(some (.inl (y4.1,((IntKind.wrap .i64 (a3.2.1+1)),())))))) else none) else (some (.inr (a3.1,()))))
noncomputable def YI (a0:(@List (Int×(Bool×Unit)))) (a1:(@List ah.Lk)) (a2:Int):(Option ((List Int)×Unit)):=
  (Option.bind (Loop (@qI a0 a1 a2) ([],(0,()))) (fun y3=>(some y3)))
theorem Sm (a0:(@List (Int×(Bool×Unit)))) (a1:(@List ah.Lk)) (a2:Int):(eF (fun _ _=>Loop) afz agO Go.Proofs.Tryz.f104 JD Xi ((),((a0,(a1,())),(a2,())))).den=YI a0 a1 a2:=by kernel_rfl
noncomputable def g36 (a0:Int) (a1:Int) (a2:Int) (a3:Int) (a4:Int) (a5:Int) (a6:Int) (a7:Int) (a8:Int) (a9:(List Int)) (aZ:Int):(Option ((ah.Pk×(Bool×Unit))×Unit)):=
  (Option.bind (bif (!(!(ah.dx (a0,(a1,(a2,(a3,(a4,(a5,(a6,(a7,(a8,(a9,()))))))))))))) then (bif (!(decide (a4=0))) then (some ((decide ((IntKind.wrap .u64 (Int.ofNat (BitVec.toNat (BitVec.and (BitVec.ofInt 64 a8) (BitVec.ofInt 64 aZ)))))=0)),())) else (some (true,()))) else (some (true,()))) (fun dN=>(bif dN.1 then (some (((0,(0,(0,(0,(0,(0,(0,(0,(0,([],())))))))))),(false,())),())) else (some (((a0,(a1,(a2,(a3,((IntKind.wrap .i64 (a4 - 1)),(a5,(a6,(a7,((IntKind.wrap .u64 (Int.ofNat (BitVec.toNat (BitVec.and (BitVec.ofInt 64 a8) (BitVec.ofInt 64 aZ))))),(a9,())))))))))),(true,())),())))))
theorem YJ (a0:Int) (a1:Int) (a2:Int) (a3:Int) (a4:Int) (a5:Int) (a6:Int) (a7:Int) (a8:Int) (a9:(List Int)) (aZ:Int):(eF (fun _ _=>Loop) E36 G36 Go.Proofs.Tryz.f36 OG c36 ((),((a0,(a1,(a2,(a3,(a4,(a5,(a6,(a7,(a8,(a9,())))))))))),(aZ,())))).den=g36 a0 a1 a2 a3 a4 a5 a6 a7 a8 a9 aZ:=by kernel_rfl
noncomputable def zI (a0:(ah.Tp×ah.Tp)):(Option (Sum (ah.Tp×ah.Tp) (ah.Tp×((List Int)×Unit)))):=
  (bif (decide (a0.2.2.1 > 0)) then (Option.bind (ah.on (ah.wf a0.1) (ah.next a0.1 256)) (fun y1=>(bif (@Nat.ble ((a0.2.1.length+1)*1) 140737488355328) then (some (.inl (y1.2,((a0.2.1++((IntKind.wrap .u8 y1.1)::[])),((IntKind.wrap .i64 (a0.2.2.1 - 1)),()))))) else none))) else (some (.inr (a0.1,(a0.2.1,())))))
noncomputable def g24 (a0:(List Int)) (a1:Int) (a2:Int):(Option ((List Int)×ah.Tp)):=
  (Option.bind (ah.on (((ah.wf (a0,(a1,())))&&(ah.small 0))&&(ah.small a2)) (ah.range (a0,(a1,())) 0 a2)) (fun y3=>(Option.bind (Loop zI (y3.2,([],(y3.1,())))) (fun y4=>(some (y4.2.1,y4.1))))))
theorem YK (a0:(List Int)) (a1:Int) (a2:Int):(eF (fun _ _=>Loop) E24 G24 Go.Proofs.Tryz.f24 Ob c24 ((a0,(a1,())),(a2,()))).den=g24 a0 a1 a2:=by kernel_rfl
noncomputable def zJ (a0:(List Int)) (a1:(List Int)) (a2:(Int×Unit)):(Option (Sum (Int×Unit) (Bool×((Bool×Unit)×Unit)))):=
  (bif (decide (a2.1<(Int.ofNat a0.length))) then (bif ((decide (0≤a2.1))&&(decide (a2.1<(Int.ofNat a0.length)))) then (bif ((decide (0≤a2.1))&&(decide (a2.1<(Int.ofNat a1.length)))) then (bif (!(decide ((List.getD a0 (Int.toNat a2.1) 0)=(List.getD a1 (Int.toNat a2.1) 0)))) then (some (.inr (true,((false,()),())))) else (some (.inl ((IntKind.wrap .i64 (a2.1+1)),())))) else none) else none) else (some (.inr (false,((false,()),())))))
noncomputable def g79 (a0:(List Int)) (a1:(List Int)):(Option (Bool×Unit)):=
  (bif (!(decide ((Int.ofNat a0.length)=(Int.ofNat a1.length)))) then (some (false,())) else (Option.bind (Loop (@zJ a0 a1) (0,())) (fun y2=>(bif y2.1 then (some y2.2.1) else (some (true,()))))))
theorem YL (a0:(List Int)) (a1:(List Int)):(eF (fun _ _=>Loop) E79 G79 Go.Proofs.Tryz.f79 PL c79 ((),(a0,(a1,())))).den=g79 a0 a1:=by kernel_rfl
noncomputable def g74 (a0:Int) (a1:Int) (a2:Int):(Option ((Int×(Bool×Unit))×Unit)):=
  (Option.bind (bif (!(!(ah.dI a2))) then (bif (!(!(ah.inside a1 0 (IntKind.wrap .i64 (a2 - 1))))) then (some ((!(ah.inside a0 0 31)),())) else (some (true,()))) else (some (true,()))) (fun y3=>(bif y3.1 then (some ((0,(false,())),())) else (bif (decide ((IntKind.wrap .i64 ((IntKind.wrap .i64 ((IntKind.wrap .i64 (a0*a2))+a1))+1)) > 256)) then (some ((0,(false,())),())) else (some (((IntKind.wrap .i64 ((IntKind.wrap .i64 ((IntKind.wrap .i64 (a0*a2))+a1))+1)),(true,())),()))))))
theorem YM (a0:Int) (a1:Int) (a2:Int):(eF (fun _ _=>Loop) E74 G74 Go.Proofs.Tryz.f74 OM c74 ((),(a0,(a1,(a2,()))))).den=g74 a0 a1 a2:=by kernel_rfl
noncomputable def g47 (a0:(List Int)) (a1:Int):(Option (Int×ah.Tp)):=
  (bif (decide (a1≥(Int.ofNat a0.length))) then (some (0,(a0,(a1,())))) else (bif ((decide (0≤(IntKind.wrap .i64 ((IntKind.wrap .i64 (a1+1)) - 1))))&&(decide ((IntKind.wrap .i64 ((IntKind.wrap .i64 (a1+1)) - 1))<(Int.ofNat a0.length)))) then (some ((List.getD a0 (Int.toNat (IntKind.wrap .i64 ((IntKind.wrap .i64 (a1+1)) - 1))) 0),(a0,((IntKind.wrap .i64 (a1+1)),())))) else none))
theorem YN (a0:(List Int)) (a1:Int):(eF (fun _ _=>Loop) E47 G47 Go.Proofs.Tryz.f47 N8 c47 ((a0,(a1,())),())).den=g47 a0 a1:=by kernel_rfl
noncomputable def uF (a0:Int) (a1:(Int×((List Int)×Unit))):(Option (Sum (Int×((List Int)×Unit)) ((List Int)×Unit))):=
  (bif (decide (a1.1<64)) then (Option.bind (bif (ah.Bt.has a0 a1.1) then (bif (@Nat.ble ((a1.2.1.length+1)*8) 140737488355328) then (some ((a1.2.1++(a1.1::[])),())) else none) else (some a1.2)) (fun y2=>(some (.inl ((IntKind.wrap .i64 (a1.1+1)),y2))))) else (some (.inr a1.2)))
noncomputable def YO (a0:Int):(Option ((List Int)×Unit)):=
  (Option.bind (Loop (@uF a0) (0,([],()))) (fun y1=>(some y1)))
theorem Sn (a0:Int):(eF (fun _ _=>Loop) afx agM Go.Proofs.Tryz.f101 JB Xh ((),(a0,()))).den=YO a0:=by kernel_rfl
noncomputable def YP (a0:Int) (a1:Int):(Option (Bool×Unit)):=
  (Option.bind (bif (decide (a1≥0)) then (bif (decide (a1<64)) then (bif (decide (0≤(IntKind.wrap .u64 a1))) then (some ((decide ((IntKind.wrap .u64 (Int.ofNat (BitVec.toNat (BitVec.and (BitVec.ofInt 64 (@Int.fdiv a0 (@Int.pow 2 (@Min.min Nat instMinNat (Int.toNat (IntKind.wrap .u64 a1)) 64)))) (BitVec.ofInt 64 1)))))=1)),())) else none) else (some (false,()))) else (some (false,()))) (fun y2=>(some y2)))
theorem Sq (a0:Int) (a1:Int):(eF (fun _ _=>Loop) afw agL Go.Proofs.Tryz.f106 JA Xg ((),(a0,(a1,())))).den=YP a0 a1:=by kernel_rfl
noncomputable def g31 (a0:Int) (a1:Int) (a2:Int) (a3:Int) (a4:Int) (a5:Int) (a6:Int) (a7:Int) (a8:Int) (a9:(List Int)):(Option (Int×Unit)):=
  (bif (!(ah.dx (a0,(a1,(a2,(a3,(a4,(a5,(a6,(a7,(a8,(a9,())))))))))))) then (some (0,())) else (some ((@Int.tmod a5 8),())))
theorem YQ (a0:Int) (a1:Int) (a2:Int) (a3:Int) (a4:Int) (a5:Int) (a6:Int) (a7:Int) (a8:Int) (a9:(List Int)):(eF (fun _ _=>Loop) E31 G31 Go.Proofs.Tryz.f31 OA c31 ((),((a0,(a1,(a2,(a3,(a4,(a5,(a6,(a7,(a8,(a9,())))))))))),()))).den=g31 a0 a1 a2 a3 a4 a5 a6 a7 a8 a9:=by kernel_rfl
noncomputable def g22 (a0:(List Int)) (a1:Int) (a2:Int) (a3:Int):(Option (Int×ah.Tp)):=
  (Option.bind (ah.on (ah.wf (a0,(a1,()))) (ah.next (a0,(a1,())) (IntKind.wrap .i64 ((IntKind.wrap .i64 (a3 - a2))+1)))) (fun y4=>(some ((IntKind.wrap .i64 (a2+y4.1)),y4.2))))
theorem YR (a0:(List Int)) (a1:Int) (a2:Int) (a3:Int):(eF (fun _ _=>Loop) E22 G22 Go.Proofs.Tryz.f22 Oa c22 ((a0,(a1,())),(a2,(a3,())))).den=g22 a0 a1 a2 a3:=by kernel_rfl
noncomputable def g21 (a0:(List Int)) (a1:Int):(Option (Int×ah.Tp)):=
  (Option.bind (ah.on (((ah.wf (a0,(a1,())))&&(decide (0<5)))&&(decide (5≤1000))) (ah.pick (a0,(a1,())) (8::(8::(16::(32::(64::[]))))))) (fun y2=>(some y2)))
theorem YS (a0:(List Int)) (a1:Int):(eF (fun _ _=>Loop) E21 G21 Go.Proofs.Tryz.f21 Oh c21 ((a0,(a1,())),())).den=g21 a0 a1:=by kernel_rfl
noncomputable def g61 (a0:Int) (a1:Int):(Option (Bool×Unit)):=
  (Option.bind (bif (ah.dI a1) then (some ((decide ((IntKind.wrap .u64 (Int.ofNat (BitVec.toNat (BitVec.and (BitVec.ofInt 64 a0) (BitVec.not (BitVec.ofInt 64 (ah.Bt.full a1)))))))=0)),())) else (some (false,()))) (fun y2=>(some y2)))
theorem YT (a0:Int) (a1:Int):(eF (fun _ _=>Loop) E61 G61 Go.Proofs.Tryz.f61 Oy c61 ((),(a0,(a1,())))).den=g61 a0 a1:=by kernel_rfl
noncomputable def g4 (a0:(List Int)):(Option (ah.Tp×Unit)):=
  (Option.bind (bif (decide ((Int.ofNat a0.length) > 600)) then (bif (true&&(decide (600≤(Int.ofNat a0.length)))) then (some ((List.drop 0 (List.take 600 a0)),())) else none) else (some (a0,()))) (fun y1=>(some ((y1.1,(0,())),()))))
theorem acB (a0:(List Int)):(eF (fun _ _=>Loop) E4 G4 Go.Proofs.Tryz.f4 Ue c4 ((),(a0,()))).den=g4 a0:=by kernel_rfl
noncomputable def g55 (a0:Int) (a1:(List Int)):(Option (Bool×Unit)):=
  (Option.bind (bif (!(!(ah.inside a0 1 256))) then (some ((@List.any Int a1 (fun y2=>(!(ah.inside y2 1 99)))),())) else (some (true,()))) (fun y2=>(some y2)))
theorem YU (a0:Int) (a1:(List Int)):(eF (fun _ _=>Loop) E55 G55 Go.Proofs.Tryz.f55 O4 c55 ((),((a0,(a1,())),()))).den=g55 a0 a1:=by kernel_rfl
noncomputable def g86 (a0:(@List (Int×(Bool×Unit)))) (a1:(@List ah.Lk)) (a2:Int) (a3:Int):(Option ((List Int)×Unit)):=
  ah.Xf a0 a1 a2 a3
theorem YV (a0:(@List (Int×(Bool×Unit)))) (a1:(@List ah.Lk)) (a2:Int) (a3:Int):(eF (fun _ _=>Loop) E86 G86 Go.Proofs.Tryz.f86 PG c86 ((),((a0,(a1,())),(a2,(a3,()))))).den=g86 a0 a1 a2 a3:=by kernel_rfl
noncomputable def g68 (a0:Int) (a1:Int) (a2:Int):(Option (Bool×Unit)):=
  (Option.bind (bif (decide (a0≥a1)) then (some ((decide (a0≤a2)),())) else (some (false,()))) (fun y3=>(some y3)))
theorem YW (a0:Int) (a1:Int) (a2:Int):(eF (fun _ _=>Loop) E68 G68 Go.Proofs.Tryz.f68 Pf c68 ((),(a0,(a1,(a2,()))))).den=g68 a0 a1 a2:=by kernel_rfl
noncomputable def g71 (a0:Int) (a1:Int):(Option (Bool×Unit)):=
  (Option.bind (bif (decide (a0≥0)) then (some ((decide (a0≤a1)),())) else (some (false,()))) (fun y2=>(some y2)))
theorem YX (a0:Int) (a1:Int):(eF (fun _ _=>Loop) E71 G71 Go.Proofs.Tryz.f71 NS c71 ((),(a0,(a1,())))).den=g71 a0 a1:=by kernel_rfl
noncomputable def g59 (a0:(List Int)) (a1:Int):(Option (Bool×Unit)):=
  (some ((decide ((ah.idx (fun y2=>(decide (a1=y2))) a0)≥0)),()))
theorem YZ (a0:(List Int)) (a1:Int):(eF (fun _ _=>Loop) E59 G59 Go.Proofs.Tryz.f59 OL c59 ((),(a0,(a1,())))).den=g59 a0 a1:=by kernel_rfl
noncomputable def g56 (a0:Int) (a1:(List Int)):(Option (Bool×Unit)):=
  (some ((decide ((Int.ofNat a1.length) > 24)),()))
theorem Y0 (a0:Int) (a1:(List Int)):(eF (fun _ _=>Loop) E56 G56 Go.Proofs.Tryz.f56 O5 c56 ((),((a0,(a1,())),()))).den=g56 a0 a1:=by kernel_rfl
end Go.aW.fF
namespace ah
open Go Go.aW
theorem dO {α:Type} {b:Bool} {x y:α} (h:on b x=some y):b=true∧x=y:=by
  unfold on at h
  cases b with
  | false=>cases h
  | true=>exact ⟨rfl,Option.some.inj h⟩
theorem aX {α:Type} {b:Bool} {x:α} (h:b=true):on b x=some x:=by rw [h];rfl
end ah
namespace Go.aW.fF
open Go Go.Proofs ah
abbrev B:Env:=eB tab gl 0 false []
theorem glue {f:Nat} {fn:Func} {n:Nat} {hp:Bool} {md:List (Nat×Nat)} (L:List (Nat×aR)) (hL:∀ g con,au L g=some con→aj Tryz.prog B (g%1000000) con) (plan:Plan) {c:aR}
    (hf:Tryz.prog.funcs[f]? = some fn) (hck:CU (eB tab gl n hp md) fn c=true)
    (hF:∀ x y,c.okV x→c.F x=some y→(eF (fun _ _=>Loop) (eB tab gl n hp md) (au L) fn plan c x).den=some y):aj Tryz.prog B f c:=
  aj.env (E:=eB tab gl n hp md) rfl (WS (pok n hp md) mix (fun g con h=>aj.env (E:=B) rfl (hL g con h)) plan hf hck hF)
theorem orI (a b:Bool):(bif a then (some (b,()):Option (Bool×Unit)) else some (false,()))=some (a&&b,()):=by cases a<;>rfl
theorem bE {n a b:Int}:inside n a b=true↔a≤n∧n≤b:=by simp [inside]
theorem Y1 {l:List Ed} (h:(Ty.sl edT).ok l):l.length≤8796093022208:=by
  have h:l.length*16≤140737488355328:=h.1
  omega
theorem FM {l:List Int} (h:(Ty.sl (.int .i64)).ok l):l.length≤17592186044416:=by
  have h:l.length*8≤140737488355328:=h.1
  omega
theorem Y2 (a0:Int) (r0:IntKind.i64.has a0):g53 a0=some (ah.dI a0,()):=by
  unfold g53 ah.dI
  cases decide (a0=8)<;>cases decide (a0=16)<;>cases decide (a0=32)<;>rfl
theorem Y3 (a0:Int) (r0:IntKind.i64.has a0):g69 a0=some (ah.dI a0,()):=by
  unfold g69 ah.dI
  cases decide (a0=8)<;>cases decide (a0=16)<;>cases decide (a0=32)<;>rfl
theorem Y4 (a0:Int) (a1:Int) (a2:Int) (r0:IntKind.i64.has a0) (r1:IntKind.i64.has a1) (r2:IntKind.i64.has a2):g63 a0 a1 a2=some (ah.inside a0 a1 a2,()):=by
  unfold g63 ah.inside
  rw [orI]
  rfl
theorem Y5 (a0:Int) (a1:Int) (a2:Int) (r0:IntKind.i64.has a0) (r1:IntKind.i64.has a1) (r2:IntKind.i64.has a2):g81 a0 a1 a2=some (ah.inside a0 a1 a2,()):=by
  unfold g81 ah.inside
  rw [orI]
  rfl
end Go.aW.fF
namespace Go.aW.fF
open Go Go.Proofs ah
theorem Dz {t:Tp}:wf t=true↔0≤t.2.1∧t.2.1≤t.1.length∧t.1.length≤600:=by
  simp [wf,and_assoc]
theorem iq {n:Int}:small n=true↔-2305843009213693952≤n∧n≤2305843009213693952:=by
  simp [small]
theorem zK {t:Tp} (h:wf t=true):wf (raw t).2=true:=by
  obtain ⟨l,a,⟨⟩⟩:=t
  obtain ⟨h1,h2,h3⟩:=Dz.1 h
  simp only at h1 h2 h3
  unfold raw
  by_cases h4:a<l.length
  · simp only [h4,decide_true,cond_true]
    exact Dz.2 ⟨by simp only;omega,by simp only;omega,h3⟩
  · simp only [h4,decide_false,cond_false]
    exact h
theorem bq {t:Tp} {n:Int} (h:wf t=true):wf (next t n).2=true:=zK h
theorem zM {x n:Int}:0≤cut x n:=by
  unfold cut
  by_cases h:n<1
  · simp [h]
  · simp only [h,decide_false,cond_false]
    exact Int.emod_nonneg x (by omega)
theorem Y6 {x n:Int} (h:1≤n):cut x n<n:=by
  unfold cut
  have h':¬ n<1:=by omega
  simp only [h',decide_false,cond_false]
  exact Int.emod_lt_of_pos x (by omega)
theorem dz {t:Tp} {n:Int} (h:1≤n):0≤(next t n).1∧(next t n).1<n:=⟨zM,Y6 h⟩
theorem eP {t:Tp} {a b:Int} (h:wf t=true):wf (range t a b).2=true:=bq (n:=b - a+1) h
theorem pJ {t:Tp} {a b:Int} (h:a≤b):a≤(range t a b).1∧(range t a b).1≤b:=by
  have:=dz (t:=t) (n:=b - a+1) (by omega)
  unfold range
  simp only
  omega
theorem H7 {t:Tp} {n:Int}:0≤(next t n).1∧((next t n).1<n∨(next t n).1=0):=by
  by_cases h:1≤n
  · have:=dz (t:=t) h
    exact ⟨this.1,.inl this.2⟩
  · refine ⟨zM,.inr ?_⟩
    show cut (raw t).1 n=0
    unfold cut
    have:n<1:=by omega
    simp [this]
theorem one_wf {t:Tp} {n:Int} (h:wf t=true):wf (one t n).2=true:=bq (n:=n) h
theorem je {t:Tp} (h:wf t=true):wf (wild t).2=true:=bq (n:=(PZ.length:Int)) h
theorem Sr (l:List Int):wf (ah.tape l)=true:=Dz.2 ⟨by simp [ah.tape],by simp [ah.tape],by simp [ah.tape];omega⟩
theorem Y7 (a0:(List Int)) (a1:Int) (r0:(Ty.sl (.int .i64)).ok a0) (r1:IntKind.i64.has a1) (h:(ah.wf (a0,a1,()))=true):g47 a0 a1=some (ah.raw (a0,a1,())):=by
  obtain ⟨h1,h2,h3⟩:=Dz.1 h
  simp only at h1 h2 h3
  unfold g47 ah.raw
  by_cases h4:a1<a0.length
  · have h5:¬ a1≥(a0.length:Int):=by omega
    have e1:IntKind.wrap .i64 (a1+1)=a1+1:=fu (by omega) (by omega)
    have e2:IntKind.wrap .i64 (a1+1 - 1)=a1:=by rw [show a1+1 - 1=a1 by omega];exact fu (by omega) (by omega)
    simp only [Int.ofNat_eq_natCast,e1,e2,h5,h4,h1,decide_true,decide_false,cond_true,cond_false,Bool.and_self]
  · have h5:a1≥(a0.length:Int):=by omega
    simp only [Int.ofNat_eq_natCast,h5,h4,decide_true,decide_false,cond_true,cond_false]
theorem Y8 (a0:Int) (a1:Int) (r0:IntKind.i64.has a0) (r1:IntKind.i64.has a1):g46 a0 a1=some (ah.cut a0 a1,()):=by
  have hm:=(CV r1).2
  unfold g46 ah.cut
  by_cases h:a1<1
  · simp [h]
  · have h0:¬ a1=0:=by omega
    have hp:0<a1:=by omega
    have e1:=Int.emod_nonneg a0 h0
    have e2:=Int.emod_lt_of_pos a0 hp
    have e3:a0.tmod a1=if 0≤a0∨a1 ∣ a0 then a0%a1 else a0%a1 - a1:=by
      rw [Int.tmod_eq_emod]
      split<;>rename_i h<;>simp [h]
      omega
    by_cases h5:0≤a0∨a1 ∣ a0
    · rw [if_pos h5] at e3
      have:¬ a0%a1<0:=by omega
      simp [h,h0,e3,this]
      rfl
    · rw [if_neg h5] at e3
      have h6:a0%a1 - a1<0:=by omega
      have h7:a0%a1 - a1+a1=a0%a1:=by omega
      have h8:IntKind.wrap .i64 (a0%a1)=a0%a1:=fu (by omega) (by omega)
      simp only [h,h0,e3,h6,h7,h8,decide_true,decide_false,cond_true,cond_false,Bool.not_false,Option.bind]
      rfl
theorem Y9 (a0:(List Int)) (a1:Int) (a2:Int) (r0:(Ty.sl (.int .i64)).ok a0) (r1:IntKind.i64.has a1) (r2:IntKind.i64.has a2) (h:(ah.wf (a0,a1,()))=true):g20 a0 a1 a2=some (ah.next (a0,a1,()) a2):=by
  unfold g20
  rw [aX h]
  rfl
theorem Za (a0:(List Int)) (a1:Int) (a2:Int) (a3:Int) (r0:(Ty.sl (.int .i64)).ok a0) (r1:IntKind.i64.has a1) (r2:IntKind.i64.has a2) (r3:IntKind.i64.has a3) (h:(ah.wf (a0,a1,())&&ah.small a2&&ah.small a3)=true):g22 a0 a1 a2 a3=some (ah.range (a0,a1,()) a2 a3):=by
  simp only [Bool.and_eq_true] at h
  have k2:=iq.1 h.1.2
  have k3:=iq.1 h.2
  unfold g22 ah.range
  rw [aX h.1.1]
  have e1:IntKind.wrap .i64 (a3 - a2)=a3 - a2:=fu (by omega) (by omega)
  have e2:IntKind.wrap .i64 (a3 - a2+1)=a3 - a2+1:=fu (by omega) (by omega)
  have hb:=H7 (t:=(a0,a1,())) (n:=a3 - a2+1)
  have e3:IntKind.wrap .i64 (a2+(next (a0,a1,()) (a3 - a2+1)).1)=a2+(next (a0,a1,()) (a3 - a2+1)).1:=fu (by omega) (by omega)
  simp only [e1,e2,Option.bind,e3]
theorem acC (a0:(List Int)) (a1:Int) (a2:Int) (r0:(Ty.sl (.int .i64)).ok a0) (r1:IntKind.i64.has a1) (r2:IntKind.i64.has a2) (h:(ah.wf (a0,a1,())&&ah.small a2)=true):g6 a0 a1 a2=some (ah.one (a0,a1,()) a2):=by
  simp only [Bool.and_eq_true] at h
  have k2:=iq.1 h.2
  unfold g6 ah.one
  rw [aX h.1]
  have e1:IntKind.wrap .i64 (a2 - 1)=a2 - 1:=fu (by omega) (by omega)
  simp only [e1,Option.bind]
theorem Zb (a0:(List Int)) (a1:Int) (a2:(List Int)) (r0:(Ty.sl (.int .i64)).ok a0) (r1:IntKind.i64.has a1) (r2:(Ty.sl (.int .i64)).ok a2) (h:(ah.wf (a0,a1,())&&decide (0<a2.length)&&decide (a2.length≤1000))=true):g18 a0 a1 a2=some (ah.pick (a0,a1,()) a2):=by
  simp only [Bool.and_eq_true,decide_eq_true_eq] at h
  unfold g18 ah.pick
  rw [aX h.1.1]
  have hb:=dz (t:=(a0,a1,())) (n:=(a2.length:Int)) (by omega)
  simp only [Int.ofNat_eq_natCast,Option.bind,hb.1,hb.2,decide_true,Bool.and_self,cond_true]
theorem Zc (a0:List Int) (a1:Int) (r0:(Ty.sl (.int .i64)).ok a0) (r1:IntKind.i64.has a1) (h:(ah.wf (a0,a1,()))=true):g25 a0 a1=some (ah.wild (a0,a1,())):=by
  unfold g25
  rw [show (wf (a0,a1,())&&true&&true)=true by rw [h];rfl]
  rfl
theorem acD (a0:(List Int)) (r0:(Ty.sl (.int .i64)).ok a0):g4 a0=some (ah.tape a0,()):=by
  unfold g4 ah.tape
  by_cases h:(600:Int)<a0.length
  · have h2:(600:Int)≤a0.length:=by omega
    simp [GT.gt,h,h2]
  · have:a0.take 600=a0:=List.take_of_length_le (by omega)
    simp [GT.gt,h,this]
theorem dA {t:Tp} {l:List Int} (h:wf t=true):wf (ah.pick t l).2=true:=bq (n:=(l.length:Int)) h
theorem Zd (a0:(List Int)) (a1:Int) (r0:(Ty.sl (.int .i64)).ok a0) (r1:IntKind.i64.has a1) (h:(ah.wf (a0,a1,()))=true):g21 a0 a1=some (ah.length (a0,a1,())):=by
  unfold g21 ah.length
  rw [aX (by rw [h];rfl)]
  rfl
theorem nA {t:Tp} (h:wf t=true):wf (ah.length t).2=true:=dA h
end Go.aW.fF
namespace Go.aW.fF
open Go Go.Proofs ah
set_option maxRecDepth 100000
theorem uG {α:Type} (p:α→Bool) (l:List α):decide (idx p l≥0)=l.any p:=by
  unfold idx
  cases l.any p with
  | true=>exact decide_eq_true (by show (0:Int)≤((_:Nat):Int);omega)
  | false=>exact decide_eq_false (by show ¬ (-1:Int)≥0;decide)
theorem nC {α:Type} (f:(Int×Unit)→Option (Sum (Int×Unit) (Bool×((Int×Unit)×Unit)))) (l:List α) (p:α→Bool) (d:α)
    (hs:∀ i:Nat,i<l.length→f ((i:Int),())=bif p (l.getD i d) then some (.inr (true,(((i:Int),()),()))) else some (.inl (((i+1:Nat):Int),())))
    (he:f ((l.length:Int),())=some (.inr (false,((0,()),())))):Option.bind (Loop f ((0:Int),())) (fun y1=>bif y1.1 then some y1.2.1 else some ((-1:Int),()))=some (idx p l,()):=by
  have key:∀ j k,k+j=l.length→(∀ i,i<k→p (l.getD i d)=false)→Option.bind (Loop f ((k:Int),())) (fun y1=>bif y1.1 then some y1.2.1 else some ((-1:Int),()))=some (idx p l,()):=by
    intro j
    induction j with
    | zero=>
      intro k hk hn
      have hk:k=l.length:=by omega
      subst hk
      have ha:l.any p=false:=by
        rw [Bool.eq_false_iff]
        intro h
        obtain ⟨x,hx,hp⟩:=List.any_eq_true.1 h
        obtain ⟨i,hi,rfl⟩:=List.getElem_of_mem hx
        have:=hn i hi
        rw [List.getD_eq_getElem?_getD,List.getElem?_eq_getElem hi] at this
        have this:p l[i]=false:=this
        rw [hp] at this
        cases this
      rw [aN,he]
      unfold idx
      rw [ha]
      rfl
    | succ j ih=>
      intro k hk hn
      rw [aN,hs k (by omega)]
      cases hp:p (l.getD k d) with
      | true=>
        have hlt:k<l.length:=by omega
        have e:l.getD k d=l[k]:=by rw [List.getD_eq_getElem?_getD,List.getElem?_eq_getElem hlt];rfl
        have ha:l.any p=true:=List.any_eq_true.2 ⟨l[k],List.getElem_mem _,by rw [←e];exact hp⟩
        have hf:l.findIdx p=k:=by
          rw [List.findIdx_eq hlt]
          refine ⟨by rw [←e];exact hp,fun i hi=>?_⟩
          have:=hn i hi
          rw [List.getD_eq_getElem?_getD,List.getElem?_eq_getElem (by omega)] at this
          simpa using this
        unfold idx
        rw [ha,hf]
        rfl
      | false=>
        refine ih (k+1) (by omega) fun i hi=>?_
        by_cases h:i=k
        · rw [h];exact hp
        · exact hn i (by omega)
  exact key l.length 0 (by omega) (fun i hi=>absurd hi (by omega))
end Go.aW.fF
namespace Go.aW.fF
open Go Go.Proofs ah
set_option maxRecDepth 100000
end Go.aW.fF
namespace Go.aW.fF
open Go Go.Proofs ah
set_option maxRecDepth 100000
theorem JO:∀ l:List Int,repeats l=true↔∃ i j,i<j∧j<l.length∧l.getD i 0=l.getD j 0
  | []=>⟨fun h=>(by cases h),fun ⟨i,j,_,h,_⟩=>absurd h (by simp)⟩
  | x::r=>by
    rw [repeats,Bool.or_eq_true,JO r,List.any_eq_true]
    constructor
    · rintro (⟨y,hy,h⟩ | ⟨i,j,h1,h2,h3⟩)
      · obtain ⟨j,hj,rfl⟩:=List.getElem_of_mem hy
        refine ⟨0,j+1,by omega,by simp;omega,?_⟩
        rw [List.getD_cons_succ,dH hj]
        exact (of_decide_eq_true h).symm
      · exact ⟨i+1,j+1,by omega,by simp;omega,by simpa using h3⟩
    · rintro ⟨i,j,h1,h2,h3⟩
      obtain ⟨j,rfl⟩:∃ k,j=k+1:=⟨j - 1,by omega⟩
      have hj:j<r.length:=by simpa using h2
      cases i with
      | zero=>
        left
        rw [List.getD_cons_succ,dH hj] at h3
        exact ⟨r[j],List.getElem_mem _,decide_eq_true h3.symm⟩
      | succ i=>exact .inr ⟨i,j,by omega,hj,by simpa using h3⟩
theorem Sv (l:List Int):repeats l=(List.range l.length).any fun i=>(List.range i).any fun k=>decide (l.getD i 0=l.getD k 0):=by
  rw [Bool.eq_iff_iff,JO]
  simp only [List.any_eq_true,List.mem_range,decide_eq_true_eq]
  constructor
  · rintro ⟨i,j,h1,h2,h3⟩;exact ⟨j,h2,i,h1,h3.symm⟩
  · rintro ⟨j,h2,i,h1,h3⟩;exact ⟨i,j,h1,h2,h3.symm⟩
theorem Ze (a0:(List Int)) (r0:(Ty.sl (.int .i64)).ok a0):g84 a0=some (ah.repeats a0,()):=by
  have hl:=FM r0
  have hin:∀ i:Nat,i<a0.length→Loop (Dc a0 ((i:Int),())) ((0:Int),())=some (bif (List.range i).any (fun k=>decide (a0.getD i 0=a0.getD k 0)) then (true,((true,()),())) else (false,((false,()),()))):=by
    intro i hi
    refine tQ _ i (fun k=>decide (a0.getD i 0=a0.getD k 0)) _ _ (fun k hk=>?_) ?_
    · unfold Dc
      simp only [Int.ofNat_eq_natCast,Int.toNat_natCast]
      rw [dT (show (k:Int)<(i:Int) by omega),dT (show (0:Int)≤(i:Int) by omega),dT (show (i:Int)<(a0.length:Int) by omega),dT (show (0:Int)≤(k:Int) by omega),dT (show (k:Int)<(a0.length:Int) by omega),fE (by omega)]
      cases decide (a0.getD i 0=a0.getD k 0)<;>rfl
    · unfold Dc
      rw [dF (show ¬ ((i:Int),()).1<((i:Int),()).1 by simp only;omega)]
      rfl
  have hout:Loop (Df a0) ((0:Int),())=some (bif repeats a0 then (true,((true,()),())) else (false,((false,()),()))):=by
    rw [Sv]
    refine tQ _ a0.length _ _ _ (fun i hi=>?_) ?_
    · unfold Df
      rw [hin i hi]
      simp only [Int.ofNat_eq_natCast]
      rw [dT (show (i:Int)<(a0.length:Int) by omega),fE (by omega)]
      cases (List.range i).any (fun k=>decide (a0.getD i 0=a0.getD k 0))<;>rfl
    · unfold Df
      simp only [Int.ofNat_eq_natCast]
      rw [dF (show ¬ (a0.length:Int)<(a0.length:Int) by omega)]
      rfl
  unfold g84
  rw [hout]
  cases repeats a0<;>rfl
def Qg (l:List Ed) (i:Nat):Bool:=!inside (l.getD i zE).2.1 1 256 || !inside (l.getD i zE).1 1 99 || (decide (0<i)&&decide ((l.getD i zE).2.1≤(l.getD (i - 1) zE).2.1))
theorem Qh (l:List Ed):(List.range l.length).any (Qg l) = !((l.all fun e=>inside e.2.1 1 256&&inside e.1 1 99)&&upE l):=by
  rw [Bool.eq_iff_iff,List.any_eq_true,Bool.not_eq_true',Bool.and_eq_false_iff,List.all_eq_false]
  unfold upE Qg
  rw [List.all_eq_false]
  constructor
  · rintro ⟨i,hi,h⟩
    have hi:=List.mem_range.1 hi
    rw [Bool.or_eq_true,Bool.or_eq_true] at h
    rcases h with (h | h) | h
    · refine .inl ⟨l[i],List.getElem_mem _,?_⟩
      rw [←dH (d:=zE) hi]
      rw [Bool.not_eq_true'] at h
      rw [h,Bool.false_and]
      exact Bool.false_ne_true
    · refine .inl ⟨l[i],List.getElem_mem _,?_⟩
      rw [←dH (d:=zE) hi]
      rw [Bool.not_eq_true'] at h
      rw [h,Bool.and_false]
      exact Bool.false_ne_true
    · rw [Bool.and_eq_true,decide_eq_true_eq,decide_eq_true_eq] at h
      refine .inr ⟨i - 1,List.mem_range.2 (by omega),?_⟩
      rw [show i - 1+1=i by omega,decide_eq_true_eq]
      omega
  · rintro (⟨x,hx,h⟩ | ⟨i,hi,h⟩)
    · obtain ⟨i,hi,rfl⟩:=List.getElem_of_mem hx
      refine ⟨i,List.mem_range.2 hi,?_⟩
      rw [dH hi]
      rw [Bool.not_eq_true,Bool.and_eq_false_iff] at h
      rcases h with h | h<;>rw [h]<;>simp
    · have hi:=List.mem_range.1 hi
      refine ⟨i+1,List.mem_range.2 (by omega),?_⟩
      rw [decide_eq_true_eq] at h
      rw [show i+1 - 1=i by omega,dT (show 0<i+1 by omega),dT (show (l.getD (i+1) zE).2.1≤(l.getD i zE).2.1 by omega)]
      simp
theorem Zf {α:Type} (l:List α) (p q:α→Bool):l.any (fun x=>p x || q x)=(l.any p || l.any q):=by
  induction l with
  | nil=>rfl
  | cons x r ih=>simp only [List.any_cons,ih];cases p x<;>cases q x<;>simp
end Go.aW.fF
namespace Go.aW.fF
open Go Go.Proofs ah
set_option maxRecDepth 100000
theorem Zg (a0:Int) (a1:Int) (a2:(List (Int×(Int×Unit)))) (r0:IntKind.i64.has a0) (r1:IntKind.i64.has a1) (r2:(Ty.sl (edT)).ok a2):g50 a0 a1 a2=some (ah.rV (a0,a1,a2,()),()):=by
  have hl:=Y1 r2
  have hL:Loop (Dy a2) ((0:Int),(([]:List Int),()))=some (bif (List.range a2.length).any (Qg a2) then (true,((false,()),(([]:List Int),()))) else (false,((false,()),((a2.map fun e=>e.1),())))):=by
    refine vS (fun k=>((k:Int),(((a2.take k).map fun e=>e.1),()))) a2.length _ (Qg a2) _ (fun i hi=>?_) ?_
    · have hm:((List.map (fun e:Ed=>e.1) (List.take (i+1) a2)))=(a2.take i).map (fun e:Ed=>e.1)++((a2.getD i (0,0,())).1::[]):=by
        rw [lu a2 i (0,0,()) hi,List.map_append];rfl
      rw [hm]
      unfold Dy Qg
      simp only [Int.ofNat_eq_natCast,Int.toNat_natCast]
      rw [dT (show (i:Int)<(a2.length:Int) by omega),dT (show (0:Int)≤(i:Int) by omega),fE (by omega),j5 (show ((List.map (fun e:Ed=>e.1) (List.take i a2)).length+1)*8≤140737488355328 by rw [List.length_map,List.length_take];omega)]
      cases ah.inside (a2.getD i (0,0,())).2.1 1 256<;>cases ah.inside (a2.getD i (0,0,())).1 1 99<;>first | rfl | skip
      by_cases h0:0<i
      · rw [dT (show (i:Int) > 0 by omega),dT h0,Fx h0 (by omega),dT (show (0:Int)≤((i - 1:Nat):Int) by omega),dT (show ((i - 1:Nat):Int)<(a2.length:Int) by omega)]
        simp only [Int.toNat_natCast]
        by_cases h1:(a2.getD i (0,0,())).2.1≤(a2.getD (i - 1) (0,0,())).2.1
        · rw [dT (show (a2.getD (i - 1) (0,0,())).2.1≥(a2.getD i (0,0,())).2.1 from h1)];first | rfl | (rw [dT h1];rfl)
        · rw [dF (show ¬ (a2.getD (i - 1) (0,0,())).2.1≥(a2.getD i (0,0,())).2.1 from h1)];first | rfl | (rw [dF h1];rfl)
      · rw [dF (show ¬ (i:Int) > 0 by omega),dF h0];rfl
    · unfold Dy
      simp only [Int.ofNat_eq_natCast]
      rw [dF (show ¬ (a2.length:Int)<(a2.length:Int) by omega),List.take_length]
      rfl
  unfold g50 rV
  rw [hL,Qh]
  simp only [Int.ofNat_eq_natCast]
  by_cases q1:a1=0
  · rw [dT q1]
    by_cases q2:a2.length=0
    · rw [dF (show ¬ (a2.length:Int) > 0 by omega),dT q2,dF (show ¬ (a2.length:Int) > 24 by omega),dT (show a2.length≤24 by omega)]
      cases ah.inside a0 0 7<;>cases dI a1<;>cases a2.all (fun e=>ah.inside e.2.1 1 256&&ah.inside e.1 1 99)<;>cases upE a2<;>rfl
    · rw [dT (show (a2.length:Int) > 0 by omega),dF q2]
      by_cases q3:a2.length≤24
      · rw [dF (show ¬ (a2.length:Int) > 24 by omega),dT q3]
        cases ah.inside a0 0 7<;>cases dI a1<;>cases a2.all (fun e=>ah.inside e.2.1 1 256&&ah.inside e.1 1 99)<;>cases upE a2<;>rfl
      · rw [dT (show (a2.length:Int) > 24 by omega),dF q3]
        cases ah.inside a0 0 7<;>cases dI a1<;>rfl
  · rw [dF q1]
    by_cases q3:a2.length≤24
    · rw [dF (show ¬ (a2.length:Int) > 24 by omega),dT q3]
      cases ah.inside a0 0 7<;>cases dI a1<;>cases a2.all (fun e=>ah.inside e.2.1 1 256&&ah.inside e.1 1 99)<;>cases upE a2<;>rfl
    · rw [dT (show (a2.length:Int) > 24 by omega),dF q3]
      cases ah.inside a0 0 7<;>cases dI a1<;>rfl
theorem eT {n:Int}:dI n=true↔n=8∨n=16∨n=32∨n=64:=by
  simp [dI,or_assoc]
theorem FN (a0 a1:Int):(Option.bind (bif (!(!(dI a1))) then (some ((!(ah.inside a0 1 256)),())) else (some (true,()))) (fun (y2:(Bool×Unit))=>(bif y2.1 then (some ((0,(0,(false,()))),())) else (bif (!(decide (a1=0))) then (bif (!(decide (a1=0))) then (some (((IntKind.wrap .i64 (Int.tdiv (IntKind.wrap .i64 (a0 - 1)) a1)),((Int.tmod (IntKind.wrap .i64 (a0 - 1)) a1),(true,()))),())) else none) else none))))=some (place a0 a1,()):=by
  unfold place
  cases hv:dI a1 with
  | false=>rfl
  | true=>
    cases hi:ah.inside a0 1 256 with
    | false=>rfl
    | true=>
      have h1:=eT.1 hv
      have h2:=bE.1 hi
      have e1:IntKind.wrap .i64 (a0 - 1)=a0 - 1:=fu (by omega) (by omega)
      have e2:Int.tdiv (a0 - 1) a1=(a0 - 1) / a1:=RH (by omega)
      have e3:Int.tmod (a0 - 1) a1=(a0 - 1)%a1:=CW (by omega)
      have e4:IntKind.wrap .i64 ((a0 - 1) / a1)=(a0 - 1) / a1:=by
        rcases h1 with h | h | h | h<;>subst h<;>exact fu (by omega) (by omega)
      have e5:¬ a1=0:=by omega
      rw [e1,e2,e3,e4,dF e5]
      rfl
theorem Zh (a0:Int) (a1:Int) (r0:IntKind.i64.has a0) (r1:IntKind.i64.has a1):g93 a0 a1=some (ah.place a0 a1,()):=by
  unfold g93
  exact FN a0 a1
theorem Zi (a0:Int) (a1:Int) (r0:IntKind.i64.has a0) (r1:IntKind.i64.has a1):g44 a0 a1=some (ah.place a0 a1,()):=by
  unfold g44
  exact FN a0 a1
theorem at_eq (a0 a1 a2:Int):(Option.bind (bif (!(!(dI a2))) then (bif (!(!(ah.inside a1 0 (IntKind.wrap .i64 (a2 - 1))))) then (some ((!(ah.inside a0 0 31)),())) else (some (true,()))) else (some (true,()))) (fun (y3:(Bool×Unit))=>(bif y3.1 then (some ((0,(false,())),())) else (bif (decide ((IntKind.wrap .i64 ((IntKind.wrap .i64 ((IntKind.wrap .i64 (a0*a2))+a1))+1)) > 256)) then (some ((0,(false,())),())) else (some (((IntKind.wrap .i64 ((IntKind.wrap .i64 ((IntKind.wrap .i64 (a0*a2))+a1))+1)),(true,())),()))))))=some (at_ a0 a1 a2,()):=by
  unfold at_
  cases hv:dI a2 with
  | false=>rfl
  | true=>
    have h1:=eT.1 hv
    have e1:IntKind.wrap .i64 (a2 - 1)=a2 - 1:=fu (by omega) (by omega)
    rw [e1]
    cases hi:ah.inside a1 0 (a2 - 1) with
    | false=>rfl
    | true=>
      cases hs:ah.inside a0 0 31 with
      | false=>rfl
      | true=>
        have h2:=bE.1 hi
        have h3:=bE.1 hs
        have hm:0≤a0*a2∧a0*a2≤1984:=by rcases h1 with h | h | h | h<;>subst h<;>omega
        have e2:IntKind.wrap .i64 (a0*a2)=a0*a2:=fu (by omega) (by omega)
        have e3:IntKind.wrap .i64 (a0*a2+a1)=a0*a2+a1:=fu (by omega) (by omega)
        have e4:IntKind.wrap .i64 (a0*a2+a1+1)=a0*a2+a1+1:=fu (by omega) (by omega)
        rw [e2,e3,e4]
        by_cases q:256<a0*a2+a1+1
        · rw [dT q];first | rfl | (rw [dT (show a0*a2+a1+1 > 256 from q)];rfl)
        · rw [dF q];first | rfl | (rw [dF (show ¬ a0*a2+a1+1 > 256 from q)];rfl)
theorem Zj (a0:Int) (a1:Int) (a2:Int) (r0:IntKind.i64.has a0) (r1:IntKind.i64.has a1) (r2:IntKind.i64.has a2):g33 a0 a1 a2=some (ah.at_ a0 a1 a2,()):=by
  unfold g33
  exact at_eq a0 a1 a2
theorem Zk (a0:Int) (a1:Int) (a2:Int) (r0:IntKind.i64.has a0) (r1:IntKind.i64.has a1) (r2:IntKind.i64.has a2):g74 a0 a1 a2=some (ah.at_ a0 a1 a2,()):=by
  unfold g74
  exact at_eq a0 a1 a2
end Go.aW.fF
namespace Go.aW.fF
open Go Go.Proofs ah
set_option maxRecDepth 100000
theorem xD {α:Type} (p:α→Bool):∀ l:List α,l.take (l.takeWhile p).length=l.takeWhile p
  | []=>rfl
  | x::r=>by
    rw [List.takeWhile_cons]
    cases p x with
    | true=>
      simp only [if_true,List.length_cons,List.take_succ_cons]
      rw [xD p r]
    | false=>rfl
theorem drop_tw {α:Type} (p:α→Bool):∀ l:List α,l.drop (l.takeWhile p).length=l.dropWhile p
  | []=>rfl
  | x::r=>by
    rw [List.takeWhile_cons,List.dropWhile_cons]
    cases p x with
    | true=>
      simp only [if_true,List.length_cons,List.drop_succ_cons]
      rw [drop_tw p r]
    | false=>rfl
theorem Uq {α:Type} (p:α→Bool) (l:List α):(l.takeWhile p).length≤l.length:=by
  have:=congrArg List.length (xD p l)
  rw [List.length_take] at this
  omega
theorem at_loop (a0:List Lk) (i:Nat) (hi:i<a0.length) (out:List Lk) (ho:out.length≤20000) (z:List Lk×Unit):∀ j k,k+j=out.length →
    Loop (vU a0 ((i:Int),z)) ((k:Int),(out,()))=some (((k+((out.drop k).takeWhile (fun y=>ku y (a0.getD i zL))).length:Nat):Int),(out,()))
  | 0,k,hk=>by
    have hk:k=out.length:=by omega
    subst hk
    rw [aN,List.drop_length]
    unfold vU
    simp only [Int.ofNat_eq_natCast]
    rw [decide_eq_false (show ¬ (out.length:Int)<(out.length:Int) by omega)]
    rfl
  | j+1,k,hk=>by
    have hlt:k<out.length:=by omega
    have e2:IntKind.wrap .i64 ((k:Int)+1)=((k+1:Nat):Int):=by rw [fu (by omega) (by omega)];omega
    have hs:vU a0 ((i:Int),z) ((k:Int),(out,()))=bif ku (out.getD k zL) (a0.getD i zL) then some (.inl (((k+1:Nat):Int),(out,()))) else some (.inr ((k:Int),(out,()))):=by
      unfold vU ku
      simp only [Int.ofNat_eq_natCast,Int.toNat_natCast,e2]
      rw [decide_eq_true (show (k:Int)<(out.length:Int) by omega),decide_eq_true (show (0:Int)≤(k:Int) by omega),decide_eq_true (show (0:Int)≤(i:Int) by omega),decide_eq_true (show (i:Int)<(a0.length:Int) by omega),show Nat.blt k out.length=true from Nat.ble_eq_true_of_le hlt]
      have d1:decide ((out.getD k (0,0,0,0,0,())).1<(a0.getD i (0,0,0,0,0,())).1)=decide ((out.getD k zL).1<(a0.getD i zL).1):=rfl
      have d2:decide ((out.getD k (0,0,0,0,0,())).1=(a0.getD i (0,0,0,0,0,())).1)=decide ((out.getD k zL).1=(a0.getD i zL).1):=rfl
      have d3:decide ((out.getD k (0,0,0,0,0,())).2.1<(a0.getD i (0,0,0,0,0,())).2.1)=decide ((out.getD k zL).2.1<(a0.getD i zL).2.1):=rfl
      rw [d1,d2,d3]
      cases decide ((out.getD k zL).1<(a0.getD i zL).1) with
      | true=>rfl
      | false=>
        cases decide ((out.getD k zL).1=(a0.getD i zL).1) with
        | false=>rfl
        | true=>cases decide ((out.getD k zL).2.1<(a0.getD i zL).2.1)<;>rfl
    rw [aN,hs,List.drop_eq_getElem_cons hlt,List.takeWhile_cons,dH hlt]
    cases ku out[k] (a0.getD i zL) with
    | false=>rfl
    | true=>
      have ih:=at_loop a0 i hi out ho z j (k+1) (by omega)
      simp only [cond_true,if_true,List.length_cons]
      rw [ih]
      congr 2
      omega
theorem Sw (x:Lk) (l:List Lk):(ins x l).length=l.length+1:=by
  unfold ins
  rw [List.length_append,List.length_cons,←xD,←drop_tw,List.length_take,List.length_drop]
  have:=Uq (fun y=>ku y x) l
  omega
theorem zN (l:List Lk):∀ k,(ni l k).length=k
  | 0=>rfl
  | k+1=>by rw [ni,Sw,zN l k]
theorem Sy (l:List Lk):(ord l).length=l.length:=zN l _
theorem Zl (a0:(List (Int×(Int×(Int×(Int×(Int×Unit))))))) (r0:(Ty.sl (AA)).ok a0) (h:(decide (a0.length≤10000))=true):g80 a0=some (ah.ord a0,()):=by
  have hl:a0.length≤10000:=of_decide_eq_true h
  have key:∀ j k,k+j=a0.length→Loop (vV a0) ((k:Int),(ni a0 k,()))=some (ord a0,()):=by
    intro j
    induction j with
    | zero=>
      intro k hk
      have hk:k=a0.length:=by omega
      subst hk
      rw [aN]
      unfold vV
      simp only [Int.ofNat_eq_natCast]
      rw [decide_eq_false (show ¬ (a0.length:Int)<(a0.length:Int) by omega)]
      rfl
    | succ j ih=>
      intro k hk
      have hlt:k<a0.length:=by omega
      have e2:IntKind.wrap .i64 ((k:Int)+1)=((k+1:Nat):Int):=by rw [fu (by omega) (by omega)];omega
      have hol:=zN a0 k
      have hs:vV a0 ((k:Int),(ni a0 k,()))=some (.inl (((k+1:Nat):Int),(ni a0 (k+1),()))):=by
        have hat:=at_loop a0 k hlt (ni a0 k) (by omega) (ni a0 k,()) (ni a0 k).length 0 (by omega)
        have hat:Loop (vU a0 ((k:Int),(ni a0 k,()))) ((0:Int),(ni a0 k,()))=some ((((((ni a0 k).drop 0).takeWhile (fun y=>ku y (a0.getD k zL))).length+0:Nat):Int),(ni a0 k,())):=by
          rw [Nat.add_comm];exact hat
        rw [List.drop_zero,Nat.add_zero] at hat
        have hle:=Uq (fun y=>ku y (a0.getD k zL)) (ni a0 k)
        have ht:=xD (fun y=>ku y (a0.getD k zL)) (ni a0 k)
        have hd:=drop_tw (fun y=>ku y (a0.getD k zL)) (ni a0 k)
        rw [ni]
        unfold ins
        rw [←ht,←hd]
        generalize ((ni a0 k).takeWhile (fun y=>ku y (a0.getD k zL))).length=m at hat hle
        generalize ni a0 k=out at hat hle hol ⊢
        unfold vV
        simp only [Int.ofNat_eq_natCast,Int.toNat_natCast,e2]
        rw [decide_eq_true (show (k:Int)<(a0.length:Int) by omega),hat]
        simp only [Option.bind_some,Int.toNat_natCast,List.drop_zero,List.take_length,List.nil_append]
        rw [decide_eq_true (show (0:Int)≤(m:Int) by omega),decide_eq_true (show (m:Int)≤(out.length:Int) by omega),decide_eq_true (show (0:Int)≤(k:Int) by omega),decide_eq_true (show (out.length:Int)≤(out.length:Int) from Int.le_refl _),
          show Nat.ble ((0+(out.take m).length)*40) 140737488355328=true from Nat.ble_eq_true_of_le (by rw [List.length_take];omega),show Nat.ble (((out.take m).length+1)*40) 140737488355328=true from Nat.ble_eq_true_of_le (by rw [List.length_take];omega),
          show Nat.ble (((out.take m++[a0.getD k (0,0,0,0,0,())]).length+(out.drop m).length)*40) 140737488355328=true from Nat.ble_eq_true_of_le (by rw [List.length_append,List.length_take,List.length_drop];show (min m out.length+1+(out.length - m))*40≤_;omega)]
        simp only [Bool.and_self,cond_true,List.append_assoc]
        rfl
      rw [aN,hs]
      exact ih (k+1) (by omega)
  have hk:=key a0.length 0 (by omega)
  have hk:Loop (vV a0) (0,([],()))=_:=hk
  unfold g80
  rw [hk]
  rfl
theorem Sz {cost tree:Int} {skip:Bool} {b a:Int} {s:List Lk×Tp} (h:wf s.2=true):wf (rU cost tree skip b a s).2=true∧(rU cost tree skip b a s).1.length≤s.1.length+1:=by
  unfold rU
  simp only
  have hc:wf (bif decide (a=tree) && !skip then (true,s.2) else one s.2 3).2=true:=by
    cases (decide (a=tree) && !skip) with
    | true=>exact h
    | false=>exact one_wf (n:=3) h
  generalize (bif decide (a=tree) && !skip then (true,s.2) else one s.2 3)=c at hc ⊢
  cases c.1 with
  | true=>exact ⟨bq (n:=4) (eP (a:=1) (b:=cost) (eP (a:=1) (b:=cost) hc)),by simp only [cond_true,List.length_append,List.length_cons,List.length_nil];omega⟩
  | false=>exact ⟨hc,by simp only [cond_false];omega⟩
theorem H8 {cost tree:Int} {skip:Bool} {b:Int} {s:List Lk×Tp} (h:wf s.2=true):∀ k,wf (jB cost tree skip b s k).2=true∧(jB cost tree skip b s k).1.length≤s.1.length+k
  | 0=>⟨h,Nat.le_refl _⟩
  | k+1=>by
    obtain ⟨h1,h2⟩:=H8 (cost:=cost) (tree:=tree) (skip:=skip) (b:=b) h k
    obtain ⟨h3,h4⟩:=Sz (cost:=cost) (tree:=tree) (skip:=skip) (b:=b) (a:=(k:Int)+1) h1
    exact ⟨h3,Nat.le_trans h4 (by omega)⟩
theorem DC {cost:Int} {t:Tp} (h:wf t=true):∀ k,wf (bW cost t k).2=true∧(bW cost t k).1.length≤k*(k+1)
  | 0=>⟨h,Nat.le_refl _⟩
  | k+1=>by
    obtain ⟨h1,h2⟩:=DC (cost:=cost) h k
    rw [bW]
    have h3:=one_wf (n:=9) (eP (a:=1) (b:=(k:Int)+1) h1)
    obtain ⟨h4,h5⟩:=H8 (cost:=cost) (tree:=(range (bW cost t k).2 1 ((k:Int)+1)).1) (skip:=(one (range (bW cost t k).2 1 ((k:Int)+1)).2 9).1) (b:=(k:Int)+2) (s:=((bW cost t k).1,(one (range (bW cost t k).2 1 ((k:Int)+1)).2 9).2)) h3 (k+1)
    refine ⟨h4,Nat.le_trans h5 ?_⟩
    simp only
    have:(k+1)*(k+1+1)=k*(k+1)+2*(k+1):=by rw [Nat.add_mul,Nat.mul_add k (k+1) 1];omega
    omega
end Go.aW.fF
namespace Go.aW.fF
open Go Go.Proofs ah
set_option maxRecDepth 100000
theorem om {α:Type} {t:Tp} (h:wf t=true) (x:α):ah.on (wf t) x=some x:=aX h
theorem nD {α:Type} {t:Tp} (h:wf t=true) {n:Int} (hn:-2305843009213693952≤n∧n≤2305843009213693952) (x:α):ah.on (wf t&&small n) x=some x:=aX (by rw [h,iq.2 hn];rfl)
theorem DF {α:Type} {t:Tp} (h:wf t=true) {a n:Int} (ha:-2305843009213693952≤a∧a≤2305843009213693952) (hn:-2305843009213693952≤n∧n≤2305843009213693952) (x:α):ah.on (wf t&&small a&&small n) x=some x:=aX (by rw [h,iq.2 ha,iq.2 hn];rfl)
theorem lH (t:Tp) {l:List Int} (hl:0<l.length):(ah.pick t l).1∈l:=by
  have hb:=dz (t:=t) (n:=(l.length:Int)) (by omega)
  show l.getD (next t l.length).1.toNat 0∈l
  exact iW (by omega)
theorem Le (t:Tp):1≤(ah.pick t [1,2,2,5]).1∧(ah.pick t [1,2,2,5]).1≤5:=by
  have h:=lH t (l:=[1,2,2,5]) (by decide)
  simp only [List.mem_cons,List.not_mem_nil,or_false] at h
  omega
theorem AB (k:Nat):dM (k+1)=dM k++[((k:Int)+1,true,())]:=by
  unfold dM
  rw [List.range_succ,List.map_append]
  rfl
theorem oo (k:Nat):(dM k).length=k:=by
  unfold dM;rw [List.length_map,List.length_range]
theorem FP (y4:Int×Tp) (N:Nat) (hN:y4.1=(N:Int)) (hle:N≤50) (ls:List Lk×Unit):∀ j k,k+j=N →
    Loop (vY y4) ((dM k,ls),(k:Int)+1,())=some ((dM N,ls),())
  | 0,k,hk=>by
    have hk:k=N:=by omega
    subst hk
    rw [aN]
    unfold vY
    simp only [hN]
    rw [decide_eq_false (show ¬ (k:Int)+1≤(k:Int) by omega)]
    rfl
  | j+1,k,hk=>by
    have ih:=FP y4 N hN hle ls j (k+1) (by omega)
    have e2:IntKind.wrap .i64 ((k:Int)+1+1)=((k+1:Nat):Int)+1:=by rw [fu (by omega) (by omega)];omega
    rw [AB] at ih
    have hs:vY y4 ((dM k,ls),(k:Int)+1,())=some (.inl ((dM k++[((k:Int)+1,true,())],ls),((k+1:Nat):Int)+1,())):=by
      unfold vY
      simp only [hN,e2,oo]
      rw [decide_eq_true (show (k:Int)+1≤(N:Int) by omega),show Nat.ble ((k+1)*16) 140737488355328=true from Nat.ble_eq_true_of_le (by omega)]
      rfl
    rw [aN,hs]
    exact ih
theorem Qi (c:Int×Tp) (st:Int×Tp×To×Unit) (tr:Int×Tp) (sk:Bool×Tp) (rs:List Rt) (hc:1≤c.1∧c.1≤5) {a:Int} (ha:0≤a) (hab:a<st.1) (hb:st.1≤100)
    (s:List Lk×Tp) (hs:wf s.2=true) (hl:s.1.length≤20000) :
    zw c st tr sk (a,s.2,(rs,s.1,()),())=some (.inl (a+1,(rU c.1 tr.1 sk.1 st.1 a s).2,(rs,(rU c.1 tr.1 sk.1 st.1 a s).1,()),())):=by
  have e2:IntKind.wrap .i64 (a+1)=a+1:=fu (by omega) (by omega)
  unfold zw rU
  simp only [e2]
  rw [decide_eq_true hab,nD hs (by decide)]
  have key:∀ o:Bool×Tp,wf o.2=true→(Option.bind (bif o.1 then (Option.bind (ah.on (wf o.2&&small 1&&small c.1) (range o.2 1 c.1)) fun y6=>
        Option.bind (ah.on (wf y6.2&&small 1&&small c.1) (range y6.2 1 c.1)) fun y7=>Option.bind (ah.on (wf y7.2) (next y7.2 4)) fun y8=>
        bif Nat.ble ((s.1.length+1)*40) 140737488355328 then some (y8.2,(rs,s.1++[(a,st.1,y6.1,y7.1,y8.1,())],()),()) else none) else some (o.2,(rs,s.1,()),()))
        fun y6:Tp×To×Unit=>some (Sum.inl (a+1,y6)):Option (Sum (Int×Tp×To×Unit) (Tp×To×Unit))) =
      some (.inl (a+1,(bif o.1 then (s.1++[(a,st.1,(range o.2 1 c.1).1,(range (range o.2 1 c.1).2 1 c.1).1,(next (range (range o.2 1 c.1).2 1 c.1).2 4).1,())],(next (range (range o.2 1 c.1).2 1 c.1).2 4).2) else (s.1,o.2)).2,
        (rs,(bif o.1 then (s.1++[(a,st.1,(range o.2 1 c.1).1,(range (range o.2 1 c.1).2 1 c.1).1,(next (range (range o.2 1 c.1).2 1 c.1).2 4).1,())],(next (range (range o.2 1 c.1).2 1 c.1).2 4).2) else (s.1,o.2)).1,()),())):=by
    intro o ho
    have w1:=eP (a:=1) (b:=c.1) ho
    have w2:=eP (a:=1) (b:=c.1) w1
    cases o.1 with
    | false=>rfl
    | true=>
      rw [DF ho (by decide) (by omega)]
      simp only [Option.bind_some,cond_true]
      rw [DF w1 (by decide) (by omega)]
      simp only [Option.bind_some,cond_true]
      rw [om w2,show Nat.ble ((s.1.length+1)*40) 140737488355328=true from Nat.ble_eq_true_of_le (by omega)]
      rfl
  cases decide (a=tr.1) with
  | false=>
    have:=key (one s.2 3) (one_wf (n:=3) hs)
    exact this
  | true=>
    cases sk.1 with
    | true=>
      have:=key (one s.2 3) (one_wf (n:=3) hs)
      exact this
    | false=>
      have:=key (true,s.2) hs
      exact this
theorem FQ (c:Int×Tp) (st:Int×Tp×To×Unit) (tr:Int×Tp) (sk:Bool×Tp) (rs:List Rt) (hc:1≤c.1∧c.1≤5) (m:Nat) (hm:st.1=(m:Int)+1) (hb:m≤99)
    (s:List Lk×Tp) (hs:wf s.2=true) (hl:s.1.length≤10000):∀ j k,k+j=m →
    Loop (zw c st tr sk) ((k:Int)+1,(jB c.1 tr.1 sk.1 st.1 s k).2,(rs,(jB c.1 tr.1 sk.1 st.1 s k).1,()),())=some ((jB c.1 tr.1 sk.1 st.1 s m).2,(rs,(jB c.1 tr.1 sk.1 st.1 s m).1,()),())
  | 0,k,hk=>by
    have hk:k=m:=by omega
    subst hk
    rw [aN]
    unfold zw
    simp only
    rw [decide_eq_false (show ¬ (k:Int)+1<st.1 by omega)]
    rfl
  | j+1,k,hk=>by
    obtain ⟨w,l⟩:=H8 (cost:=c.1) (tree:=tr.1) (skip:=sk.1) (b:=st.1) hs k
    rw [aN,Qi c st tr sk rs hc (a:=(k:Int)+1) (by omega) (by omega) (by omega) _ w (by omega)]
    exact FQ c st tr sk rs hc m hm hb s hs hl j (k+1) (by omega)
theorem FR (y4 y6:Int×Tp) (rs:List Rt) (hc:1≤y6.1∧y6.1≤5) (N:Nat) (hN:y4.1=(N:Int)+1) (hle:N≤49) (t:Tp) (ht:wf t=true):∀ j k,k+j=N →
    Loop (vZ y4 y6) ((k:Int)+2,(bW y6.1 t k).2,(rs,(bW y6.1 t k).1,()),())=some ((bW y6.1 t N).2,(rs,(bW y6.1 t N).1,()),())
  | 0,k,hk=>by
    have hk:k=N:=by omega
    subst hk
    rw [aN]
    unfold vZ
    simp only
    rw [decide_eq_false (show ¬ (k:Int)+2≤y4.1 by omega)]
    rfl
  | j+1,k,hk=>by
    have ih:=FR y4 y6 rs hc N hN hle t ht j (k+1) (by omega)
    obtain ⟨w,l⟩:=DC (cost:=y6.1) ht k
    have hk2:k*(k+1)≤49*50:=Nat.mul_le_mul (by omega) (by omega)
    have e1:IntKind.wrap .i64 ((k:Int)+2 - 1)=(k:Int)+1:=by rw [fu (by omega) (by omega)];omega
    have e2:IntKind.wrap .i64 ((k:Int)+2+1)=((k+1:Nat):Int)+2:=by rw [fu (by omega) (by omega)];omega
    have w1:=eP (a:=1) (b:=(k:Int)+1) w
    have w2:=one_wf (n:=9) w1
    have h1:=FQ y6 ((k:Int)+2,(bW y6.1 t k).2,(rs,(bW y6.1 t k).1,()),()) (range (bW y6.1 t k).2 1 ((k:Int)+1)) (one (range (bW y6.1 t k).2 1 ((k:Int)+1)).2 9) rs hc (k+1) (by simp only;omega) (by omega)
      ((bW y6.1 t k).1,(one (range (bW y6.1 t k).2 1 ((k:Int)+1)).2 9).2) w2 (by simp only;omega) (k+1) 0 (by omega)
    rw [jB] at h1
    have h1':Loop _ ((1:Int),_)=_:=h1
    have hs:vZ y4 y6 ((k:Int)+2,(bW y6.1 t k).2,(rs,(bW y6.1 t k).1,()),())=some (.inl (((k+1:Nat):Int)+2,(bW y6.1 t (k+1)).2,(rs,(bW y6.1 t (k+1)).1,()),())):=by
      unfold vZ
      simp only [e1,e2]
      rw [decide_eq_true (show (k:Int)+2≤y4.1 by omega),DF w (by decide) (by omega)]
      simp only [Option.bind_some,cond_true]
      rw [nD w1 (by decide)]
      simp only [Option.bind_some]
      rw [h1']
      rfl
    rw [aN,hs]
    exact ih
end Go.aW.fF
namespace Go.aW.fF
open Go Go.Proofs ah
set_option maxRecDepth 100000
theorem wm (l:List Rt):∀ k,(tV k l).length=l.length+k
  | 0=>rfl
  | k+1=>by rw [tV,List.length_append,wm l k];rfl
theorem FT (l:List Rt) (hl:l.length≤1000) (ls:List Lk×Unit):∀ j k,k+j=25 →
    Loop zx ((tV k l,ls),(50:Int)+k,())=some ((tV 25 l,ls),())
  | 0,k,hk=>by
    have hk:k=25:=by omega
    subst hk
    rw [aN]
    rfl
  | j+1,k,hk=>by
    have ih:=FT l hl ls j (k+1) (by omega)
    have e2:IntKind.wrap .i64 ((50:Int)+k+1)=(50:Int)+((k+1:Nat):Int):=by rw [fu (by omega) (by omega)];omega
    have hs:zx ((tV k l,ls),(50:Int)+k,())=some (.inl ((tV (k+1) l,ls),(50:Int)+((k+1:Nat):Int),())):=by
      unfold zx
      simp only [e2,wm]
      rw [decide_eq_true (show (50:Int)+k<75 by omega),show Nat.ble ((l.length+k+1)*16) 140737488355328=true from Nat.ble_eq_true_of_le (by omega)]
      rfl
    rw [aN,hs]
    exact ih
theorem Zm (a0:(List Int)) (a1:Int) (a2:Int) (a3:Int) (r0:(Ty.sl (.int .i64)).ok a0) (r1:IntKind.i64.has a1) (r2:IntKind.i64.has a2) (r3:IntKind.i64.has a3) (h:(ah.wf (a0,a1,())&&ah.inside a2 1 50&&ah.small a3)=true):g42 a0 a1 a2 a3=some (ah.tX (a0,a1,()) a2 a3):=by
  simp only [Bool.and_eq_true,bE,iq] at h
  obtain ⟨⟨hw,h1,h2⟩,hs1,hs2⟩:=h
  have w1:=eP (a:=1) (b:=a2) hw
  have b1:=pJ (t:=(a0,a1,())) (a:=1) (b:=a2) h1
  unfold g42 tX
  rw [DF hw (by decide) (by omega)]
  simp only [Option.bind_some]
  generalize range (a0,a1,()) 1 a2=k at w1 b1 ⊢
  obtain ⟨N,hN⟩:∃ N:Nat,k.1=(N:Int)+1:=⟨(k.1 - 1).toNat,by omega⟩
  have h0:Loop (vY k) (([],[],()),(1:Int),())=some ((dM (N+1),[],()),()):=FP k (N+1) (by omega) (by omega) ([],()) (N+1) 0 (by omega)
  rw [h0]
  simp only [Option.bind_some]
  rw [aX (show (wf k.2&&decide (0<4)&&decide (4≤1000))=true by rw [w1];rfl)]
  simp only [Option.bind_some]
  have w2:=dA (l:=[1,2,2,5]) w1
  have b2:=Le k.2
  generalize ah.pick k.2 [1,2,2,5]=c at w2 b2 ⊢
  have h2:Loop (vZ k c) ((2:Int),c.2,(dM (N+1),[],()),())=some ((bW c.1 c.2 N).2,(dM (N+1),(bW c.1 c.2 N).1,()),()):=FR k c (dM (N+1)) b2 N hN (by omega) c.2 w2 N 0 (by omega)
  rw [h2]
  simp only [Option.bind_some]
  obtain ⟨w3,l3⟩:=DC (cost:=c.1) w2 N
  have hN2:N*(N+1)≤49*50:=Nat.mul_le_mul (by omega) (by omega)
  rw [show k.1.toNat - 1=N by omega,show k.1.toNat=N+1 by omega]
  generalize bW c.1 c.2 N=s at w3 l3 ⊢
  rw [aX (decide_eq_true (show s.1.length≤10000 by omega))]
  simp only [Option.bind_some]
  have lo:=Sy s.1
  have lr:=oo (N+1)
  generalize ord s.1=ls at lo ⊢
  generalize dM (N+1)=rs at lr ⊢
  by_cases ha:0<a3
  · rw [decide_eq_true (show a3 > 0 from ha)]
    simp only [cond_true]
    rw [nD w3 (by omega)]
    simp only [Option.bind_some]
    have w4:=one_wf (n:=a3) w3
    generalize one s.2 a3=o at w4 ⊢
    cases o.1 with
    | false=>rfl
    | true=>
      simp only [cond_true]
      rw [om w4]
      simp only [Option.bind_some]
      unfold za
      simp only
      have w5:=bq (n:=7) w4
      generalize next o.2 7=m at w5 ⊢
      have b16:Nat.ble ((rs.length+1)*16) 140737488355328=true:=Nat.ble_eq_true_of_le (by omega)
      have b40:Nat.ble ((ls.length+1)*40) 140737488355328=true:=Nat.ble_eq_true_of_le (by omega)
      have gt:decide ((Int.ofNat ls.length) > (0:Int))=decide (0<ls.length):=by
        by_cases hz:0<ls.length
        · rw [decide_eq_true hz];exact decide_eq_true (by show (0:Int)<(ls.length:Int);omega)
        · rw [decide_eq_false hz];exact decide_eq_false (by show ¬ (0:Int)<(ls.length:Int);omega)
      have nb:=dz (t:=m.2) (n:=(ls.length:Int))
      have w6:=bq (n:=(ls.length:Int)) w5
      by_cases m0:m.1=0
      · simp only [decide_eq_true m0,cond_true]
        rw [aX (show (wf m.2&&decide (0<5)&&decide (5≤1000))=true by rw [w5];rfl)]
        simp only [Option.bind_some,b16]
        rfl
      · simp only [decide_eq_false m0,cond_false]
        by_cases m1:m.1=1
        · simp only [decide_eq_true m1,cond_true]
          rw [om w5]
          simp only [Option.bind_some]
          rw [om (bq (n:=4) w5)]
          simp only [Option.bind_some,b40]
          rfl
        · simp only [decide_eq_false m1,cond_false]
          by_cases m6:m.1=2∨m.1=3∨m.1=4∨m.1=5
          · by_cases hz:0<ls.length
            · have nb:=nb (by omega)
              rw [decide_eq_true hz] at gt
              have gt':decide ((ls.length:Int) > 0)=true:=gt
              have gX1:decide ((0:Int)≤(next m.2 (ls.length:Int)).1)=true:=decide_eq_true nb.1
              have gX2:decide ((next m.2 (ls.length:Int)).1<(ls.length:Int))=true:=decide_eq_true nb.2
              have Q5:Nat.blt (next m.2 (ls.length:Int)).1.toNat ls.length=true:=Nat.ble_eq_true_of_le (show _+1≤_ by omega)
              rcases m6 with e | e | e | e
              all_goals
                simp only [e,decide_eq_true hz,gt,gt',decide_true,cond_true,cond_false,Int.ofNat_eq_natCast,Option.bind_some,om w5,om w6,gX1,gX2,Q5,b40,Bool.and_self]
                rfl
            · rw [decide_eq_false hz] at gt
              rcases m6 with e | e | e | e
              all_goals
                simp only [e,decide_eq_false hz,gt,decide_true,cond_true,cond_false]
                rfl
          · have l3:=FT rs (by omega) (ls,()) 25 0 (by omega)
            have l3:Loop zx ((rs,ls,()),(50:Int),())=some ((tV 25 rs,ls,()),()):=l3
            rw [decide_eq_false (show ¬ m.1=2 by omega),decide_eq_false (show ¬ m.1=3 by omega),decide_eq_false (show ¬ m.1=4 by omega),decide_eq_false (show ¬ m.1=5 by omega)]
            simp only [cond_false]
            rw [l3]
            rfl
  · rw [decide_eq_false (show ¬ a3 > 0 from ha)]
    rfl
end Go.aW.fF
namespace Go.aW.fF
open Go Go.Proofs ah
set_option maxRecDepth 100000
theorem Lg {g:To} {t:Tp} (h:wf t=true):wf (za g t).2=true∧(za g t).1.1.length≤g.1.length+25:=by
  have w:=bq (n:=7) h
  unfold za
  simp only
  generalize next t 7=m at w ⊢
  cases decide (m.1=0) with
  | true=>exact ⟨dA (l:=[0,1,99,100,-1]) w,by simp only [cond_true,List.length_append,List.length_cons,List.length_nil];omega⟩
  | false=>
  cases decide (m.1=1) with
  | true=>exact ⟨bq (n:=4) (bq (n:=4) w),by simp only [cond_true,cond_false];omega⟩
  | false=>
  have w6:=bq (n:=(g.2.1.length:Int)) w
  cases decide (m.1=2) with
  | true=>cases decide (0<g.2.1.length) with
    | true=>exact ⟨je w6,by simp only [cond_true,cond_false];omega⟩
    | false=>exact ⟨w,by simp only [cond_true,cond_false];omega⟩
  | false=>
  cases decide (m.1=3) with
  | true=>cases decide (0<g.2.1.length) with
    | true=>exact ⟨je w6,by simp only [cond_true,cond_false];omega⟩
    | false=>exact ⟨w,by simp only [cond_true,cond_false];omega⟩
  | false=>
  cases decide (m.1=4) with
  | true=>cases decide (0<g.2.1.length) with
    | true=>exact ⟨je w6,by simp only [cond_true,cond_false];omega⟩
    | false=>exact ⟨w,by simp only [cond_true,cond_false];omega⟩
  | false=>
  cases decide (m.1=5) with
  | true=>cases decide (0<g.2.1.length) with
    | true=>exact ⟨w6,by simp only [cond_true,cond_false];omega⟩
    | false=>exact ⟨w,by simp only [cond_true,cond_false];omega⟩
  | false=>exact ⟨w,by simp only [cond_false,wm];omega⟩
theorem DI {t:Tp} {a n:Int} (hw:wf t=true) (ha:1≤a∧a≤50):wf (tX t a n).2=true∧(tX t a n).1.1.length≤75:=by
  have w1:=eP (a:=1) (b:=a) hw
  have b1:=pJ (t:=t) (a:=1) (b:=a) ha.1
  have w2:=dA (l:=[1,2,2,5]) w1
  have w3:=(DC (cost:=(ah.pick (range t 1 a).2 [1,2,2,5]).1) w2 ((range t 1 a).1.toNat - 1)).1
  have lr:=oo (range t 1 a).1.toNat
  unfold tX
  simp only
  generalize bW (ah.pick (range t 1 a).2 [1,2,2,5]).1 (ah.pick (range t 1 a).2 [1,2,2,5]).2 ((range t 1 a).1.toNat - 1)=s at w3 ⊢
  generalize dM (range t 1 a).1.toNat=rs at lr ⊢
  cases decide (0<n) with
  | false=>exact ⟨w3,by simp only [cond_false];omega⟩
  | true=>
    have w4:=one_wf (n:=n) w3
    simp only [cond_true]
    generalize one s.2 n=o at w4 ⊢
    cases o.1 with
    | false=>exact ⟨w4,by simp only [cond_false];omega⟩
    | true=>
      have h:=Lg (g:=(rs,ord s.1,())) w4
      exact ⟨h.1,Nat.le_trans h.2 (by simp only;omega)⟩
end Go.aW.fF
namespace Go.aW.fF
open Go Go.Proofs ah
set_option maxRecDepth 100000
end Go.aW.fF
namespace Go.aW.fF
open Go Go.Proofs ah
set_option maxRecDepth 100000
theorem jo {α β:Type} (f:β→α→β) (b:β) (l:List α) (d:α) (k:Nat) (hk:k<l.length):(l.take (k+1)).foldl f b=f ((l.take k).foldl f b) (l.getD k d):=by
  rw [lu l k d hk,List.foldl_append]
  rfl
end Go.aW.fF
namespace Go.aW.fF
open Go Go.Proofs ah
set_option maxRecDepth 100000
theorem pK {t:Tp} (h:wf t=true):∀ k,wf (jC t k).2=true∧(jC t k).1.length=k∧∀ x∈(jC t k).1,0≤x∧x<(k:Int)
  | 0=>⟨h,rfl,fun x hx=>by cases hx⟩
  | k+1=>by
    obtain ⟨h1,h2,h3⟩:=pK h k
    have hb:=dz (t:=(jC t k).2) (n:=(k:Int)+1) (by omega)
    refine ⟨bq (n:=(k:Int)+1) h1,?_,?_⟩
    · simp only [jC,List.length_append,List.length_cons,List.length_take,List.length_drop]
      omega
    · intro x hx
      simp only [jC,List.mem_append,List.mem_cons] at hx
      rcases hx with hx | rfl | hx
      · have:=h3 x (List.mem_of_mem_take hx);omega
      · omega
      · have:=h3 x (List.mem_of_mem_drop hx);omega
theorem Zn (a0:(List Int)) (a1:Int) (a2:Int) (r0:(Ty.sl (.int .i64)).ok a0) (r1:IntKind.i64.has a1) (r2:IntKind.i64.has a2) (h:(ah.wf (a0,a1,())&&ah.inside a2 0 1000)=true):g43 a0 a1 a2=some (ah.order (a0,a1,()) a2.toNat):=by
  simp only [Bool.and_eq_true,bE] at h
  obtain ⟨hw,h1,h2⟩:=h
  obtain ⟨n,rfl⟩:∃ n:Nat,a2=(n:Int):=⟨a2.toNat,by omega⟩
  have hL:Loop (zH (n:Int)) ((a0,(a1,())),(([]:List Int),((0:Int),())))=some ((jC (a0,a1,()) n).2,((jC (a0,a1,()) n).1,())):=by
    refine j6 (step:=zH (n:Int)) (fun k=>((jC (a0,a1,()) k).2,((jC (a0,a1,()) k).1,((k:Int),())))) n _ (fun k hk=>?_) ?_ 0 (Nat.zero_le _)
    · obtain ⟨w,hl,-⟩:=pK hw k
      rw [jC]
      generalize jC (a0,a1,()) k=s at w hl ⊢
      have hb:=dz (t:=s.2) (n:=(k:Int)+1) (by omega)
      unfold zH
      simp only [Int.ofNat_eq_natCast,Int.toNat_natCast,List.nil_append,List.drop_zero]
      rw [dT (show (k:Int)<(n:Int) by omega),fu (n:=(k:Int)+1) (by omega) (by omega),om w]
      simp only [Option.bind_some]
      have e:((k+1:Nat):Int)=(k:Int)+1:=by omega
      generalize next s.2 ((k:Int)+1)=a at hb ⊢
      have l1:(List.take a.1.toNat s.1).length≤1000:=by rw [List.length_take];omega
      have l2:(List.drop a.1.toNat (List.take s.1.length s.1)).length≤1000:=by rw [List.length_drop,List.length_take];omega
      rw [dT hb.1,dT (show a.1≤(s.1.length:Int) by omega),dT (Int.le_refl _),j5 (show (0+(List.take a.1.toNat s.1).length)*8≤140737488355328 by omega),j5 (show ((List.take a.1.toNat s.1).length+1)*8≤140737488355328 by omega),j5 (show ((List.take a.1.toNat s.1++[(k:Int)]).length+(List.drop a.1.toNat (List.take s.1.length s.1)).length)*8≤140737488355328 by rw [List.length_append,List.length_singleton];omega),List.take_length,List.append_assoc,e]
      rfl
    · unfold zH
      rw [dF (show ¬ (n:Int)<(n:Int) by omega)]
      rfl
  unfold g43
  rw [hL]
  rfl
theorem H9 (t:Tp):(ah.length t).1=8∨(ah.length t).1=16∨(ah.length t).1=32∨(ah.length t).1=64:=by
  have h:=lH t (l:=[8,8,16,32,64]) (by decide)
  simp only [List.mem_cons,List.not_mem_nil,or_false] at h
  unfold ah.length
  omega
theorem JQ {t:Tp} (h:wf t=true) (n:Nat) (h1:0<n) (h2:n≤1000) {α:Type} (x:α):ah.on (wf t&&decide (0<n)&&decide (n≤1000)) x=some x:=aX (by rw [h,dT h1,dT h2];rfl)
theorem uH (g:To) (len:Int) (hl:8≤len∧len≤64) (t:Tp) (h:wf t=true) (o:List Int):∀ k,k≤o.length →
    wf (ji g len ([],0,t) (o.take k)).2.2=true∧0≤(ji g len ([],0,t) (o.take k)).2.1∧(ji g len ([],0,t) (o.take k)).2.1≤63*(k:Int)∧(ji g len ([],0,t) (o.take k)).1.length≤k
  | 0,_=>⟨h,Int.le_refl _,Int.le_refl _,Nat.le_refl _⟩
  | k+1,hk=>by
    obtain ⟨h1,h2,h3,h4⟩:=uH g len hl t h o k (by omega)
    unfold ji at *
    rw [jo (tY g len) _ o 0 k (by omega)]
    generalize (o.take k).foldl (tY g len) ([],0,t)=s at h1 h2 h3 h4 ⊢
    have w1:=bq (n:=4) h1
    unfold tY
    simp only
    generalize next s.2.2 4=c at w1 ⊢
    cases decide (c.1=0) with
    | true=>exact ⟨w1,h2,by simp only [cond_true];omega,by simp only [cond_true];omega⟩
    | false=>
      simp only [cond_false]
      have w2:=dA (l:=[1,1,1,2,len - 1]) w1
      have m2:=lH c.2 (l:=[1,1,1,2,len - 1]) (by simp)
      simp only [List.mem_cons,List.not_mem_nil,or_false] at m2
      generalize ah.pick c.2 [1,1,1,2,len - 1]=p at w2 m2 ⊢
      cases decide (s.2.1+p.1≤256) with
      | true=>exact ⟨w2,by simp only [cond_true];omega,by simp only [cond_true];omega,by simp only [cond_true,List.length_append,List.length_cons,List.length_nil];omega⟩
      | false=>exact ⟨w2,by simp only [cond_false];omega,by simp only [cond_false];omega,by simp only [cond_false];omega⟩
theorem Zo (a0:(List Int)) (a1:Int) (a2:(List (Int×(Bool×Unit)))) (a3:(List (Int×(Int×(Int×(Int×(Int×Unit))))))) (a4:Int) (r0:(Ty.sl (.int .i64)).ok a0) (r1:IntKind.i64.has a1) (r2:(Ty.sl (D8)).ok a2) (r3:(Ty.sl (AA)).ok a3) (r4:IntKind.i64.has a4) (h:(ah.wf (a0,a1,())&&ah.small a4&&decide (a2.length≤1000))=true):g16 a0 a1 a2 a3 a4=some (ah.kC (a0,a1,()) (a2,a3,()) a4):=by
  simp only [Bool.and_eq_true,decide_eq_true_eq,iq] at h
  obtain ⟨⟨hw,hs⟩,hg⟩:=h
  unfold g16 kC
  simp only
  have w1:=bq (n:=3) hw
  rw [om hw]
  simp only [Option.bind_some]
  generalize next (a0,a1,()) 3=x at w1 ⊢
  have w2:=nA w1
  have l2:=H9 x.2
  rw [om w1]
  simp only [Option.bind_some]
  generalize ah.length x.2=b at w2 l2 ⊢
  rw [aX (show (wf b.2&&ah.inside (Int.ofNat a2.length) 0 1000)=true by rw [w2,bE.2 (by simp only [Int.ofNat_eq_natCast];omega)];rfl)]
  simp only [Option.bind_some,Int.ofNat_eq_natCast,Int.toNat_natCast]
  obtain ⟨w3,l3,m3⟩:=pK w2 a2.length
  change wf (order b.2 a2.length).2=true at w3
  change (order b.2 a2.length).1.length=_ at l3
  change ∀ x∈(order b.2 a2.length).1,_ at m3
  generalize order b.2 a2.length=o at w3 l3 m3 ⊢
  have hL:Loop (zm a2) ((0:Int),((x.1,(b.1,(([]:List Ed),()))),((0:Int),(o.2,(o.1,())))))=some ((x.1,(b.1,((ji (a2,a3,()) b.1 ([],0,o.2) o.1).1,()))),((ji (a2,a3,()) b.1 ([],0,o.2) o.1).2.1,((ji (a2,a3,()) b.1 ([],0,o.2) o.1).2.2,()))):=by
    refine j6 (step:=zm a2) (fun k=>((k:Int),((x.1,(b.1,((ji (a2,a3,()) b.1 ([],0,o.2) (o.1.take k)).1,()))),((ji (a2,a3,()) b.1 ([],0,o.2) (o.1.take k)).2.1,((ji (a2,a3,()) b.1 ([],0,o.2) (o.1.take k)).2.2,(o.1,())))))) o.1.length _ (fun k hk=>?_) ?_ 0 (Nat.zero_le _)
    · obtain ⟨h1,h2,h3,h4⟩:=uH (a2,a3,()) b.1 (by omega) o.2 w3 o.1 k (by omega)
      have hm:=m3 _ (iW (d:=0) hk)
      unfold ji at *
      rw [jo (tY (a2,a3,()) b.1) _ o.1 0 k hk]
      generalize (o.1.take k).foldl (tY (a2,a3,()) b.1) ([],0,o.2)=s at h1 h2 h3 h4 ⊢
      unfold zm
      simp only [Int.ofNat_eq_natCast,Int.toNat_natCast]
      rw [dT (show (k:Int)<(o.1.length:Int) by omega),om h1,fE (by omega)]
      simp only [Option.bind_some,cond_true]
      have w4:=bq (n:=4) h1
      conv=>rhs;unfold tY
      simp only
      generalize next s.2.2 4=c at w4 ⊢
      cases decide (c.1=0) with
      | true=>rfl
      | false=>
        simp only [cond_false]
        rw [fu (n:=b.1 - 1) (by omega) (by omega),aX (show (wf c.2&&decide (0<[1,1,1,2,b.1 - 1].length)&&decide ([1,1,1,2,b.1 - 1].length≤1000))=true by rw [w4];rfl)]
        simp only [Option.bind_some]
        have m2:=lH c.2 (l:=[1,1,1,2,b.1 - 1]) (by simp)
        simp only [List.mem_cons,List.not_mem_nil,or_false] at m2
        generalize ah.pick c.2 [1,1,1,2,b.1 - 1]=p at m2 ⊢
        rw [fu (n:=s.2.1+p.1) (by omega) (by omega)]
        cases decide (s.2.1+p.1≤256) with
        | false=>rfl
        | true=>
          rw [dT (show (0:Int)≤(k:Int) by omega),l6 hk,dT hm.1,dT (show o.1.getD k 0<(a2.length:Int) by omega),j5 (show (s.1.length+1)*16≤140737488355328 by omega)]
          rfl
    · unfold zm
      simp only [Int.ofNat_eq_natCast]
      rw [dF (show ¬ (o.1.length:Int)<(o.1.length:Int) by omega),List.take_length]
      rfl
  rw [hL]
  simp only [Option.bind_some]
  obtain ⟨w4,i1,i2,l4⟩:=uH (a2,a3,()) b.1 (by omega) o.2 w3 o.1 o.1.length (Nat.le_refl _)
  rw [List.take_length] at w4 i1 i2 l4
  generalize ji (a2,a3,()) b.1 ([],0,o.2) o.1=e at w4 i1 i2 l4 ⊢
  by_cases ha:0<a4
  · rw [dT (show a4 > 0 from ha)]
    first | rw [dT ha] | skip
    simp only [cond_true]
    rw [nD w4 hs]
    simp only [Option.bind_some]
    have w5:=one_wf (n:=a4) w4
    generalize one e.2.2 a4=q at w5 ⊢
    cases q.1 with
    | false=>rfl
    | true=>
      simp only [cond_true]
      rw [om w5]
      simp only [Option.bind_some]
      unfold P5
      simp only
      have w6:=bq (n:=5) w5
      generalize next q.2 5=m at w6 ⊢
      have b16:Nat.ble ((e.1.length+1)*16) 140737488355328=true:=j5 (by omega)
      by_cases m0:m.1=0
      · simp only [decide_eq_true m0,cond_true]
        rw [om w6]
        rfl
      · simp only [decide_eq_false m0,cond_false]
        by_cases m1:m.1=1
        · simp only [decide_eq_true m1,cond_true]
          rw [JQ w6 5 (by decide) (by decide)]
          rfl
        · simp only [decide_eq_false m1,cond_false]
          by_cases m2:m.1=2
          · simp only [decide_eq_true m2,cond_true]
            rw [JQ w6 4 (by decide) (by decide)]
            simp only [Option.bind_some]
            rw [JQ (dA (l:=[0,1,99,100]) w6) 4 (by decide) (by decide)]
            simp only [Option.bind_some,b16]
            rfl
          · simp only [decide_eq_false m2,cond_false]
            by_cases m3:m.1=3
            · simp only [decide_eq_true m3,cond_true]
              by_cases hz:0<e.1.length
              · rw [dT (show (e.1.length:Int) > 0 by omega),dT hz,om w6]
                simp only [Option.bind_some,cond_true]
                rw [l6 hz]
                rfl
              · rw [dF (show ¬ (e.1.length:Int) > 0 by omega),dF hz]
                rfl
            · simp only [decide_eq_false m3,cond_false]
              rw [b16,fu (n:=e.2.1+1) (by omega) (by omega)]
              rfl
  · rw [dF (show ¬ a4 > 0 from ha)]
    first | rfl | (rw [dF ha];rfl)
end Go.aW.fF