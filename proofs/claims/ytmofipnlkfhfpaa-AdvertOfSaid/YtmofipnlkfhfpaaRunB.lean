/- Chapter 07: proved is, of more functions, that the evaluator comes to the printed term, and that the functions on bits and the tape keep their contracts; no conditions but those that each theorem states. -/
import Derived.Test.YtmofipnlkfhfpaaRunA
set_option linter.unusedVariables false
set_option linter.unusedSimpArgs false
namespace Go.Abs.C07
open Go Go.Abs
set_option maxRecDepth 20000
set_option linter.unusedVariables false
noncomputable def g100 (a0 : Int) : (Option (Bool × Unit)) :=
  (some ((!(decide (a0 = a0))), ()))
theorem g100_eq (a0 : Int) : (evF (fun _ _ => Loop) E100 G100 Go.Proofs.Try.f100 plan100 c100 ((), (a0, ()))).den = g100 a0 := by kernel_rfl

noncomputable def g97 (a0 : Int) (a1 : Int) : (Option (Int × Unit)) :=
  (bif (decide (a0 < a1)) then (some ((-1 : Int), ())) else (bif (decide (a0 > a1)) then (some ((1 : Int), ())) else (some ((0 : Int), ()))))
theorem g97_eq (a0 : Int) (a1 : Int) : (evF (fun _ _ => Loop) E97 G97 Go.Proofs.Try.f97 plan97 c97 ((), (a0, (a1, ())))).den = g97 a0 a1 := by kernel_rfl

noncomputable def g99_s0 (a0 : (List Int)) (a1 : (Int × Unit)) : (Option (Sum (Int × Unit) (Bool × ((Int × Unit) × Unit)))) :=
  (bif (decide (a1.1 < (Int.ofNat a0.length))) then (bif ((decide (0 ≤ a1.1)) && (decide (a1.1 < (Int.ofNat a0.length)))) then (bif (!(decide ((List.getD a0 (Int.toNat a1.1) (0 : Int)) = (0 : Int)))) then (some (.inr (true, (((List.getD a0 (Int.toNat a1.1) (0 : Int)), ()), ())))) else (some (.inl ((IntKind.wrap .i64 (a1.1 + (1 : Int))), ())))) else none) else (some (.inr (false, (((0 : Int), ()), ())))))
noncomputable def g99 (a0 : (List Int)) : (Option (Int × Unit)) :=
  (Option.bind (Loop (@g99_s0 a0) ((0 : Int), ())) (fun y1 => (bif y1.1 then (some y1.2.1) else (some ((0 : Int), ())))))
theorem g99_eq (a0 : (List Int)) : (evF (fun _ _ => Loop) E99 G99 Go.Proofs.Try.f99 plan99 c99 ((), (a0, ()))).den = g99 a0 := by kernel_rfl

noncomputable def g79 (a0 : Int) (a1 : Int) (a2 : Int) : (Option (Bool × Unit)) :=
  (Option.bind (bif (decide (a0 ≥ a1)) then (some ((decide (a0 ≤ a2)), ())) else (some (false, ()))) (fun y3 => (some y3)))
theorem g79_eq (a0 : Int) (a1 : Int) (a2 : Int) : (evF (fun _ _ => Loop) E79 G79 Go.Proofs.Try.f79 plan79 c79 ((), (a0, (a1, (a2, ()))))).den = g79 a0 a1 a2 := by kernel_rfl

noncomputable def g82 (a0 : Int) (a1 : Bool) (a2 : Int) : (Option (Int × Unit)) :=
  (some ((Sp07.cmpI a0 a2), ()))
theorem g82_eq (a0 : Int) (a1 : Bool) (a2 : Int) : (evF (fun _ _ => Loop) E82 G82 Go.Proofs.Try.f82 plan82 c82 ((), ((a0, (a1, ())), (a2, ())))).den = g82 a0 a1 a2 := by kernel_rfl

noncomputable def g87 (a0 : Int) (a1 : Int) (a2 : Int) (a3 : Int) (a4 : Int) (a5 : Int) (a6 : Int) (a7 : Int) (a8 : Int) (a9 : Int) : (Option (Int × Unit)) :=
  (some ((Sp07.firstNZ ((Sp07.cmpI a0 a5) :: ((Sp07.cmpI a1 a6) :: []))), ()))
theorem g87_eq (a0 : Int) (a1 : Int) (a2 : Int) (a3 : Int) (a4 : Int) (a5 : Int) (a6 : Int) (a7 : Int) (a8 : Int) (a9 : Int) : (evF (fun _ _ => Loop) E87 G87 Go.Proofs.Try.f87 plan87 c87 ((), ((a0, (a1, (a2, (a3, (a4, ()))))), ((a5, (a6, (a7, (a8, (a9, ()))))), ())))).den = g87 a0 a1 a2 a3 a4 a5 a6 a7 a8 a9 := by kernel_rfl

noncomputable def g78 (a0 : Int) (a1 : Bool) : (Option (Bool × Unit)) :=
  (some ((!(Sp07.inside a0 (1 : Int) (99 : Int))), ()))
theorem g78_eq (a0 : Int) (a1 : Bool) : (evF (fun _ _ => Loop) E78 G78 Go.Proofs.Try.f78 plan78 c78 ((), ((a0, (a1, ())), ()))).den = g78 a0 a1 := by kernel_rfl

noncomputable def g96_s0 (a0 : (List Sp07.Rt)) (a1 : (Int × Unit)) : (Option (Sum (Int × Unit) (Bool × ((Int × Unit) × Unit)))) :=
  (bif (decide (a1.1 < (Int.ofNat a0.length))) then (bif ((decide (0 ≤ a1.1)) && (decide (a1.1 < (Int.ofNat a0.length)))) then (bif (Sp07.badR (List.getD a0 (Int.toNat a1.1) (0, false, ()))) then (some (.inr (true, (a1, ())))) else (some (.inl ((IntKind.wrap .i64 (a1.1 + (1 : Int))), ())))) else none) else (some (.inr (false, (((0 : Int), ()), ())))))
noncomputable def g96 (a0 : (List Sp07.Rt)) : (Option (Int × Unit)) :=
  (Option.bind (Loop (@g96_s0 a0) ((0 : Int), ())) (fun y1 => (bif y1.1 then (some y1.2.1) else (some ((-1 : Int), ())))))
theorem g96_eq (a0 : (List Sp07.Rt)) : (evF (fun _ _ => Loop) E96 G96 Go.Proofs.Try.f96 plan96 c96 ((), (a0, ((), ())))).den = g96 a0 := by kernel_rfl

noncomputable def g77 (a0 : (List Sp07.Rt)) : (Option (Bool × Unit)) :=
  (some ((decide ((@Sp07.idx Sp07.Rt Sp07.badR a0) ≥ (0 : Int))), ()))
theorem g77_eq (a0 : (List Sp07.Rt)) : (evF (fun _ _ => Loop) E77 G77 Go.Proofs.Try.f77 plan77 c77 ((), (a0, ((), ())))).den = g77 a0 := by kernel_rfl

noncomputable def g84 (a0 : Int) (a1 : Int) (a2 : Int) (a3 : Int) (a4 : Int) : (Option (Bool × Unit)) :=
  (Option.bind (bif (!(!(Sp07.inside a2 (1 : Int) (1000 : Int)))) then (bif (!(!(Sp07.inside a3 (1 : Int) (1000 : Int)))) then (some ((!(Sp07.inside a4 (0 : Int) (1000 : Int))), ())) else (some (true, ()))) else (some (true, ()))) (fun y5 => (some y5)))
theorem g84_eq (a0 : Int) (a1 : Int) (a2 : Int) (a3 : Int) (a4 : Int) : (evF (fun _ _ => Loop) E84 G84 Go.Proofs.Try.f84 plan84 c84 ((), ((a0, (a1, (a2, (a3, (a4, ()))))), ()))).den = g84 a0 a1 a2 a3 a4 := by kernel_rfl

noncomputable def g98_s0 (a0 : (List Sp07.Lk)) (a1 : (Int × Unit)) : (Option (Sum (Int × Unit) (Bool × ((Int × Unit) × Unit)))) :=
  (bif (decide (a1.1 < (Int.ofNat a0.length))) then (bif ((decide (0 ≤ a1.1)) && (decide (a1.1 < (Int.ofNat a0.length)))) then (bif (Sp07.badK (List.getD a0 (Int.toNat a1.1) (0, 0, 0, 0, 0, ()))) then (some (.inr (true, (a1, ())))) else (some (.inl ((IntKind.wrap .i64 (a1.1 + (1 : Int))), ())))) else none) else (some (.inr (false, (((0 : Int), ()), ())))))
noncomputable def g98 (a0 : (List Sp07.Lk)) : (Option (Int × Unit)) :=
  (Option.bind (Loop (@g98_s0 a0) ((0 : Int), ())) (fun y1 => (bif y1.1 then (some y1.2.1) else (some ((-1 : Int), ())))))
theorem g98_eq (a0 : (List Sp07.Lk)) : (evF (fun _ _ => Loop) E98 G98 Go.Proofs.Try.f98 plan98 c98 ((), (a0, ((), ())))).den = g98 a0 := by kernel_rfl

noncomputable def g83 (a0 : (List Sp07.Lk)) : (Option (Bool × Unit)) :=
  (some ((decide ((@Sp07.idx Sp07.Lk Sp07.badK a0) ≥ (0 : Int))), ()))
theorem g83_eq (a0 : (List Sp07.Lk)) : (evF (fun _ _ => Loop) E83 G83 Go.Proofs.Try.f83 plan83 c83 ((), (a0, ((), ())))).den = g83 a0 := by kernel_rfl

noncomputable def g81_s0 (a0 : (List Sp07.Rt)) (a1 : Int) (a2 : (Int × (Int × Unit))) : (Option (Sum (Int × (Int × Unit)) (Int × Unit))) :=
  (bif (decide (a2.2.1 < a2.1)) then (bif ((decide (0 ≤ (IntKind.wrap .i64 (@Int.fdiv (IntKind.wrap .u64 (IntKind.wrap .i64 (a2.2.1 + a2.1))) (2 : Int))))) && (decide ((IntKind.wrap .i64 (@Int.fdiv (IntKind.wrap .u64 (IntKind.wrap .i64 (a2.2.1 + a2.1))) (2 : Int))) < (Int.ofNat a0.length)))) then (Option.bind (bif (decide ((Sp07.cmpI (List.getD a0 (Int.toNat (IntKind.wrap .i64 (@Int.fdiv (IntKind.wrap .u64 (IntKind.wrap .i64 (a2.2.1 + a2.1))) (2 : Int)))) (0, false, ())).1 a1) < (0 : Int))) then (some ((IntKind.wrap .i64 ((IntKind.wrap .i64 (@Int.fdiv (IntKind.wrap .u64 (IntKind.wrap .i64 (a2.2.1 + a2.1))) (2 : Int))) + (1 : Int))), (a2.1, ()))) else (some (a2.2.1, ((IntKind.wrap .i64 (@Int.fdiv (IntKind.wrap .u64 (IntKind.wrap .i64 (a2.2.1 + a2.1))) (2 : Int))), ())))) (fun y3 => (some (.inl (y3.2.1, (y3.1, ())))))) else none) else (some (.inr a2.2)))
noncomputable def g81 (a0 : (List Sp07.Rt)) (a1 : Int) : (Option ((Int × (Bool × Unit)) × Unit)) :=
  (Option.bind (Loop (@g81_s0 a0 a1) ((Int.ofNat a0.length), ((0 : Int), ()))) (fun y2 => (Option.bind (bif (decide (y2.1 < (Int.ofNat a0.length))) then (bif ((decide (0 ≤ y2.1)) && (decide (y2.1 < (Int.ofNat a0.length)))) then (some ((decide ((Sp07.cmpI (List.getD a0 (Int.toNat y2.1) (0, false, ())).1 a1) = (0 : Int))), y2)) else none) else (some (false, y2))) (fun y3 => (some ((y3.2.1, (y3.1, ())), ()))))))
theorem g81_eq (a0 : (List Sp07.Rt)) (a1 : Int) : (evF (fun _ _ => Loop) E81 G81 Go.Proofs.Try.f81 plan81 c81 ((), (a0, (a1, ((), ()))))).den = g81 a0 a1 := by kernel_rfl

noncomputable def g80 (a0 : Int) (a1 : (List Sp07.Rt)) (a2 : (List Sp07.Lk)) : (Option (Bool × Unit)) :=
  (some ((!(Sp07.bs a1 a0).2.1), ()))
theorem g80_eq (a0 : Int) (a1 : (List Sp07.Rt)) (a2 : (List Sp07.Lk)) : (evF (fun _ _ => Loop) E80 G80 Go.Proofs.Try.f80 plan80 c80 ((), (a0, ((a1, (a2, ())), ())))).den = g80 a0 a1 a2 := by kernel_rfl

noncomputable def g85 (a0 : Int) (a1 : Int) (a2 : Int) (a3 : Int) (a4 : Int) (a5 : (List Sp07.Rt)) (a6 : (List Sp07.Lk)) : (Option (Bool × Unit)) :=
  (Option.bind (bif (!(Sp07.unk (a5, (a6, ())) a0)) then (some ((Sp07.unk (a5, (a6, ())) a1), ())) else (some (true, ()))) (fun y7 => (some y7)))
theorem g85_eq (a0 : Int) (a1 : Int) (a2 : Int) (a3 : Int) (a4 : Int) (a5 : (List Sp07.Rt)) (a6 : (List Sp07.Lk)) : (evF (fun _ _ => Loop) E85 G85 Go.Proofs.Try.f85 plan85 c85 ((), ((a0, (a1, (a2, (a3, (a4, ()))))), (((a5, (a6, ())), ()), ())))).den = g85 a0 a1 a2 a3 a4 a5 a6 := by kernel_rfl

noncomputable def g98v_s0 (a0 : (List Sp07.Lk)) (a1 : (List Sp07.Rt)) (a2 : (List Sp07.Lk)) (a3 : (Int × Unit)) : (Option (Sum (Int × Unit) (Bool × ((Int × Unit) × Unit)))) :=
  (bif (decide (a3.1 < (Int.ofNat a0.length))) then (bif ((decide (0 ≤ a3.1)) && (decide (a3.1 < (Int.ofNat a0.length)))) then (bif ((Sp07.unk (a1, (a2, ())) (List.getD a0 (Int.toNat a3.1) (0, 0, 0, 0, 0, ())).1) || (Sp07.unk (a1, (a2, ())) (List.getD a0 (Int.toNat a3.1) (0, 0, 0, 0, 0, ())).2.1)) then (some (.inr (true, (a3, ())))) else (some (.inl ((IntKind.wrap .i64 (a3.1 + (1 : Int))), ())))) else none) else (some (.inr (false, (((0 : Int), ()), ())))))
noncomputable def g98v (a0 : (List Sp07.Lk)) (a1 : (List Sp07.Rt)) (a2 : (List Sp07.Lk)) : (Option (Int × Unit)) :=
  (Option.bind (Loop (@g98v_s0 a0 a1 a2) ((0 : Int), ())) (fun y3 => (bif y3.1 then (some y3.2.1) else (some ((-1 : Int), ())))))
theorem g98v_eq (a0 : (List Sp07.Lk)) (a1 : (List Sp07.Rt)) (a2 : (List Sp07.Lk)) : (evF (fun _ _ => Loop) E98v G98v Go.Proofs.Try.f98 plan98v c98v ((), (a0, (((a1, (a2, ())), ()), ())))).den = g98v a0 a1 a2 := by kernel_rfl

noncomputable def g83w1 (a0 : (List Sp07.Lk)) (a1 : (List Sp07.Rt)) (a2 : (List Sp07.Lk)) : (Option (Bool × Unit)) :=
  (some ((decide ((@Sp07.idx (Int × (Int × (Int × (Int × (Int × Unit))))) (fun y3 => ((Sp07.unk (a1, (a2, ())) y3.1) || (Sp07.unk (a1, (a2, ())) y3.2.1))) a0) ≥ (0 : Int))), ()))
theorem g83w1_eq (a0 : (List Sp07.Lk)) (a1 : (List Sp07.Rt)) (a2 : (List Sp07.Lk)) : (evF (fun _ _ => Loop) E83w1 G83w1 Go.Proofs.Try.f83 plan83w1 c83w1 ((), (a0, (((a1, (a2, ())), ()), ())))).den = g83w1 a0 a1 a2 := by kernel_rfl

noncomputable def g86 (a0 : Int) (a1 : Int) (a2 : Int) (a3 : Int) (a4 : Int) : (Option (Bool × Unit)) :=
  (some ((decide (a0 ≥ a1)), ()))
theorem g86_eq (a0 : Int) (a1 : Int) (a2 : Int) (a3 : Int) (a4 : Int) : (evF (fun _ _ => Loop) E86 G86 Go.Proofs.Try.f86 plan86 c86 ((), ((a0, (a1, (a2, (a3, (a4, ()))))), ()))).den = g86 a0 a1 a2 a3 a4 := by kernel_rfl

noncomputable def g98x_s0 (a0 : (List Sp07.Lk)) (a1 : (Int × Unit)) : (Option (Sum (Int × Unit) (Bool × ((Int × Unit) × Unit)))) :=
  (bif (decide (a1.1 < (Int.ofNat a0.length))) then (bif ((decide (0 ≤ a1.1)) && (decide (a1.1 < (Int.ofNat a0.length)))) then (bif (Sp07.down (List.getD a0 (Int.toNat a1.1) (0, 0, 0, 0, 0, ()))) then (some (.inr (true, (a1, ())))) else (some (.inl ((IntKind.wrap .i64 (a1.1 + (1 : Int))), ())))) else none) else (some (.inr (false, (((0 : Int), ()), ())))))
noncomputable def g98x (a0 : (List Sp07.Lk)) : (Option (Int × Unit)) :=
  (Option.bind (Loop (@g98x_s0 a0) ((0 : Int), ())) (fun y1 => (bif y1.1 then (some y1.2.1) else (some ((-1 : Int), ())))))
theorem g98x_eq (a0 : (List Sp07.Lk)) : (evF (fun _ _ => Loop) E98x G98x Go.Proofs.Try.f98 plan98x c98x ((), (a0, ((), ())))).den = g98x a0 := by kernel_rfl

noncomputable def g83w2 (a0 : (List Sp07.Lk)) : (Option (Bool × Unit)) :=
  (some ((decide ((@Sp07.idx Sp07.Lk Sp07.down a0) ≥ (0 : Int))), ()))
theorem g83w2_eq (a0 : (List Sp07.Lk)) : (evF (fun _ _ => Loop) E83w2 G83w2 Go.Proofs.Try.f83 plan83w2 c83w2 ((), (a0, ((), ())))).den = g83w2 a0 := by kernel_rfl

noncomputable def g61_s0 (a0 : (List Sp07.Rt)) (a1 : (Int × Unit)) : (Option (Sum (Int × Unit) (Bool × ((Int × Unit) × Unit)))) :=
  (bif (decide (a1.1 < (Int.ofNat a0.length))) then (Option.bind (bif (decide (a1.1 > (0 : Int))) then (bif (decide (a1.1 > (0 : Int))) then (bif (decide (a1.1 > (0 : Int))) then (bif (decide (a1.1 > (0 : Int))) then (bif (decide (a1.1 > (0 : Int))) then (bif ((decide (0 ≤ (IntKind.wrap .i64 (a1.1 - (1 : Int))))) && (decide ((IntKind.wrap .i64 (a1.1 - (1 : Int))) < (Int.ofNat a0.length)))) then (bif (decide (a1.1 > (0 : Int))) then (bif (decide (a1.1 > (0 : Int))) then (bif (decide (a1.1 > (0 : Int))) then (bif (decide (a1.1 > (0 : Int))) then (bif (decide (a1.1 > (0 : Int))) then (bif (decide (a1.1 > (0 : Int))) then (bif ((decide (0 ≤ a1.1)) && (decide (a1.1 < (Int.ofNat a0.length)))) then (bif (decide (a1.1 > (0 : Int))) then (bif (decide (a1.1 > (0 : Int))) then (bif (decide (a1.1 > (0 : Int))) then (bif (decide (a1.1 > (0 : Int))) then (some ((decide ((List.getD a0 (Int.toNat (IntKind.wrap .i64 (a1.1 - (1 : Int)))) (0, false, ())).1 ≥ (List.getD a0 (Int.toNat a1.1) (0, false, ())).1)), ())) else none) else none) else none) else none) else none) else none) else none) else none) else none) else none) else none) else none) else none) else none) else none) else none) else (bif (!(decide (a1.1 > (0 : Int)))) then (bif (!(decide (a1.1 > (0 : Int)))) then (bif (!(decide (a1.1 > (0 : Int)))) then (bif (!(decide (a1.1 > (0 : Int)))) then (bif (!(decide (a1.1 > (0 : Int)))) then (bif (!(decide (a1.1 > (0 : Int)))) then (bif (!(decide (a1.1 > (0 : Int)))) then (bif (!(decide (a1.1 > (0 : Int)))) then (bif (!(decide (a1.1 > (0 : Int)))) then (bif (!(decide (a1.1 > (0 : Int)))) then (bif (!(decide (a1.1 > (0 : Int)))) then (bif (!(decide (a1.1 > (0 : Int)))) then (bif (!(decide (a1.1 > (0 : Int)))) then (bif (!(decide (a1.1 > (0 : Int)))) then (some (false, ())) else none) else none) else none) else none) else none) else none) else none) else none) else none) else none) else none) else none) else none) else none)) (fun y2 => (bif y2.1 then (some (.inr (true, (((25 : Int), ()), ())))) else (some (.inl ((IntKind.wrap .i64 (a1.1 + (1 : Int))), ())))))) else (some (.inr (false, (((0 : Int), ()), ())))))
noncomputable def g61_s1 (a0 : (List Sp07.Lk)) (a1 : (Int × Unit)) : (Option (Sum (Int × Unit) (Bool × ((Int × Unit) × Unit)))) :=
  (bif (decide (a1.1 < (Int.ofNat a0.length))) then (Option.bind (bif (decide (a1.1 > (0 : Int))) then (bif (decide (a1.1 > (0 : Int))) then (bif (decide (a1.1 > (0 : Int))) then (bif (decide (a1.1 > (0 : Int))) then (bif (decide (a1.1 > (0 : Int))) then (bif ((decide (0 ≤ (IntKind.wrap .i64 (a1.1 - (1 : Int))))) && (decide ((IntKind.wrap .i64 (a1.1 - (1 : Int))) < (Int.ofNat a0.length)))) then (bif (decide (a1.1 > (0 : Int))) then (bif (decide (a1.1 > (0 : Int))) then (bif (decide (a1.1 > (0 : Int))) then (bif (decide (a1.1 > (0 : Int))) then (bif (decide (a1.1 > (0 : Int))) then (bif ((decide (0 ≤ a1.1)) && (decide (a1.1 < (Int.ofNat a0.length)))) then (bif (decide (a1.1 > (0 : Int))) then (bif (decide (a1.1 > (0 : Int))) then (bif (decide (a1.1 > (0 : Int))) then (bif (decide (a1.1 > (0 : Int))) then (some ((decide ((Sp07.lkCmp (List.getD a0 (Int.toNat (IntKind.wrap .i64 (a1.1 - (1 : Int)))) (0, 0, 0, 0, 0, ())) (List.getD a0 (Int.toNat a1.1) (0, 0, 0, 0, 0, ()))) ≥ (0 : Int))), ())) else none) else none) else none) else none) else none) else none) else none) else none) else none) else none) else none) else none) else none) else none) else none) else (bif (!(decide (a1.1 > (0 : Int)))) then (bif (!(decide (a1.1 > (0 : Int)))) then (bif (!(decide (a1.1 > (0 : Int)))) then (bif (!(decide (a1.1 > (0 : Int)))) then (bif (!(decide (a1.1 > (0 : Int)))) then (bif (!(decide (a1.1 > (0 : Int)))) then (bif (!(decide (a1.1 > (0 : Int)))) then (bif (!(decide (a1.1 > (0 : Int)))) then (bif (!(decide (a1.1 > (0 : Int)))) then (bif (!(decide (a1.1 > (0 : Int)))) then (bif (!(decide (a1.1 > (0 : Int)))) then (bif (!(decide (a1.1 > (0 : Int)))) then (bif (!(decide (a1.1 > (0 : Int)))) then (some (false, ())) else none) else none) else none) else none) else none) else none) else none) else none) else none) else none) else none) else none) else none)) (fun y2 => (bif y2.1 then (some (.inr (true, (((25 : Int), ()), ())))) else (some (.inl ((IntKind.wrap .i64 (a1.1 + (1 : Int))), ())))))) else (some (.inr (false, (((0 : Int), ()), ())))))
noncomputable def g61 (a0 : (List Sp07.Rt)) (a1 : (List Sp07.Lk)) : (Option (Int × Unit)) :=
  (Option.bind (bif (!(decide ((Int.ofNat a0.length) > (24 : Int)))) then (some ((decide ((Int.ofNat a1.length) > (60 : Int))), ())) else (some (true, ()))) (fun y2 => (bif y2.1 then (some ((3 : Int), ())) else (bif (@List.any (Int × (Bool × Unit)) a0 Sp07.badR) then (some ((2 : Int), ())) else (Option.bind (Loop (@g61_s0 a0) ((0 : Int), ())) (fun y3 => (bif y3.1 then (some y3.2.1) else (bif (@List.any (Int × (Int × (Int × (Int × (Int × Unit))))) a1 Sp07.badK) then (some ((2 : Int), ())) else (bif (@List.any (Int × (Int × (Int × (Int × (Int × Unit))))) a1 (fun y4 => ((Sp07.unk (a0, (a1, ())) y4.1) || (Sp07.unk (a0, (a1, ())) y4.2.1)))) then (some ((4 : Int), ())) else (bif (@List.any (Int × (Int × (Int × (Int × (Int × Unit))))) a1 Sp07.down) then (some ((8 : Int), ())) else (Option.bind (Loop (@g61_s1 a1) ((0 : Int), ())) (fun y4 => (bif y4.1 then (some y4.2.1) else (some ((0 : Int), ())))))))))))))))
theorem g61_eq (a0 : (List Sp07.Rt)) (a1 : (List Sp07.Lk)) : (evF (fun _ _ => Loop) E61 G61 Go.Proofs.Try.f61 plan61 c61 ((), ((a0, (a1, ())), ()))).den = g61 a0 a1 := by kernel_rfl

noncomputable def g88 (a0 : (List Sp07.Rt)) (a1 : (List Sp07.Lk)) (a2 : Int) : (Option (((Int × (Bool × Unit)) × (Bool × Unit)) × Unit)) :=
  (bif (!(Sp07.bs a0 a2).2.1) then (some (((0, false, ()), (false, ())), ())) else (bif ((decide (0 ≤ (Sp07.bs a0 a2).1)) && (decide ((Sp07.bs a0 a2).1 < (Int.ofNat a0.length)))) then (some (((List.getD a0 (Int.toNat (Sp07.bs a0 a2).1) (0, false, ())), (true, ())), ())) else none))
theorem g88_eq (a0 : (List Sp07.Rt)) (a1 : (List Sp07.Lk)) (a2 : Int) : (evF (fun _ _ => Loop) E88 G88 Go.Proofs.Try.f88 plan88 c88 ((), ((a0, (a1, ())), (a2, ())))).den = g88 a0 a1 a2 := by kernel_rfl

noncomputable def g89 (a0 : (List Sp07.Rt)) (a1 : (List Sp07.Lk)) : (Option (Bool × Unit)) :=
  (some ((decide ((Sp07.chk (a0, (a1, ()))) = (0 : Int))), ()))
theorem g89_eq (a0 : (List Sp07.Rt)) (a1 : (List Sp07.Lk)) : (evF (fun _ _ => Loop) E89 G89 Go.Proofs.Try.f89 plan89 c89 ((), ((a0, (a1, ())), ()))).den = g89 a0 a1 := by kernel_rfl

noncomputable def g62 (a0 : (List Sp07.Rt)) (a1 : (List Sp07.Lk)) (a2 : Int) : (Option (Bool × Unit)) :=
  (Option.bind (bif (Sp07.okT (a0, (a1, ()))) then (some (Sp07.find (a0, (a1, ())) a2).2) else (some (false, ()))) (fun y3 => (some y3)))
theorem g62_eq (a0 : (List Sp07.Rt)) (a1 : (List Sp07.Lk)) (a2 : Int) : (evF (fun _ _ => Loop) E62 G62 Go.Proofs.Try.f62 plan62 c62 ((), ((a0, (a1, ())), (a2, ())))).den = g62 a0 a1 a2 := by kernel_rfl

noncomputable def g63 (a0 : (List Sp07.Rt)) (a1 : (List Sp07.Lk)) (a2 : Int) : (Option (Bool × Unit)) :=
  (Option.bind (bif (Sp07.okT (a0, (a1, ()))) then (some (Sp07.find (a0, (a1, ())) a2).1.2) else (some (false, ()))) (fun y3 => (some y3)))
theorem g63_eq (a0 : (List Sp07.Rt)) (a1 : (List Sp07.Lk)) (a2 : Int) : (evF (fun _ _ => Loop) E63 G63 Go.Proofs.Try.f63 plan63 c63 ((), ((a0, (a1, ())), (a2, ())))).den = g63 a0 a1 a2 := by kernel_rfl
end Go.Abs.C07

namespace Go.Abs.C07
open Go Go.Abs
set_option maxRecDepth 20000
set_option linter.unusedVariables false
noncomputable def g90 (a0 : Int) : (Option (Bool × Unit)) :=
  (Option.bind (bif (decide (a0 ≥ (1 : Int))) then (some ((decide (a0 ≤ (1000 : Int))), ())) else (some (false, ()))) (fun y1 => (some y1)))
theorem g90_eq (a0 : Int) : (evF (fun _ _ => Loop) E90 G90 Go.Proofs.Try.f90 plan90 c90 ((), (a0, ()))).den = g90 a0 := by kernel_rfl

noncomputable def g91_s0 (a0 : (List Sp07.Rt)) (a1 : Int) (a2 : (Int × Unit)) : (Option (Sum (Int × Unit) (Bool × ((Bool × Unit) × Unit)))) :=
  (bif (decide (a2.1 < (Int.ofNat a0.length))) then (bif ((decide (0 ≤ a2.1)) && (decide (a2.1 < (Int.ofNat a0.length)))) then (bif (decide ((List.getD a0 (Int.toNat a2.1) (0, false, ())).1 = a1)) then (some (.inr (true, ((true, ()), ())))) else (some (.inl ((IntKind.wrap .i64 (a2.1 + (1 : Int))), ())))) else none) else (some (.inr (false, ((false, ()), ())))))
noncomputable def g91 (a0 : (List Sp07.Rt)) (a1 : (List Sp07.Lk)) (a2 : Int) : (Option (Bool × Unit)) :=
  (Option.bind (Loop (@g91_s0 a0 a2) ((0 : Int), ())) (fun y3 => (bif y3.1 then (some y3.2.1) else (some (false, ())))))
theorem g91_eq (a0 : (List Sp07.Rt)) (a1 : (List Sp07.Lk)) (a2 : Int) : (evF (fun _ _ => Loop) E91 G91 Go.Proofs.Try.f91 plan91 c91 ((), ((a0, (a1, ())), (a2, ())))).den = g91 a0 a1 a2 := by kernel_rfl

noncomputable def g64_s0 (a0 : (List Sp07.Rt)) (a1 : (Int × Unit)) : (Option (Sum (Int × Unit) (Bool × ((Int × Unit) × Unit)))) :=
  (bif (decide (a1.1 < (Int.ofNat a0.length))) then (Option.bind (bif ((decide (0 ≤ a1.1)) && (decide (a1.1 < (Int.ofNat a0.length)))) then (bif (!(decide ((List.getD a0 (Int.toNat a1.1) (0, false, ())).1 < (1 : Int)))) then (bif ((decide (0 ≤ a1.1)) && (decide (a1.1 < (Int.ofNat a0.length)))) then (some ((decide ((List.getD a0 (Int.toNat a1.1) (0, false, ())).1 > (99 : Int))), ())) else none) else (some (true, ()))) else none) (fun y2 => (bif y2.1 then (some (.inr (true, (((2 : Int), ()), ())))) else (some (.inl ((IntKind.wrap .i64 (a1.1 + (1 : Int))), ())))))) else (some (.inr (false, (((0 : Int), ()), ())))))
noncomputable def g64_s1 (a0 : (List Sp07.Rt)) (a1 : (Int × Unit)) : (Option (Sum (Int × Unit) (Bool × ((Int × Unit) × Unit)))) :=
  (bif (decide (a1.1 < (Int.ofNat a0.length))) then (bif ((decide (0 ≤ (IntKind.wrap .i64 (a1.1 - (1 : Int))))) && (decide ((IntKind.wrap .i64 (a1.1 - (1 : Int))) < (Int.ofNat a0.length)))) then (bif ((decide (0 ≤ a1.1)) && (decide (a1.1 < (Int.ofNat a0.length)))) then (bif (decide ((List.getD a0 (Int.toNat (IntKind.wrap .i64 (a1.1 - (1 : Int)))) (0, false, ())).1 ≥ (List.getD a0 (Int.toNat a1.1) (0, false, ())).1)) then (some (.inr (true, (((25 : Int), ()), ())))) else (some (.inl ((IntKind.wrap .i64 (a1.1 + (1 : Int))), ())))) else none) else none) else (some (.inr (false, (((0 : Int), ()), ())))))
noncomputable def g64_s2 (a0 : (List Sp07.Lk)) (a1 : (Int × Unit)) : (Option (Sum (Int × Unit) (Bool × ((Int × Unit) × Unit)))) :=
  (bif (decide (a1.1 < (Int.ofNat a0.length))) then (bif ((decide (0 ≤ a1.1)) && (decide (a1.1 < (Int.ofNat a0.length)))) then (Option.bind (bif (!(!(Sp07.inside (List.getD a0 (Int.toNat a1.1) (0, 0, 0, 0, 0, ())).2.2.1 (1 : Int) (1000 : Int)))) then (bif (!(!(Sp07.inside (List.getD a0 (Int.toNat a1.1) (0, 0, 0, 0, 0, ())).2.2.2.1 (1 : Int) (1000 : Int)))) then (bif (!(decide ((List.getD a0 (Int.toNat a1.1) (0, 0, 0, 0, 0, ())).2.2.2.2.1 < (0 : Int)))) then (some ((decide ((List.getD a0 (Int.toNat a1.1) (0, 0, 0, 0, 0, ())).2.2.2.2.1 > (1000 : Int))), ())) else (some (true, ()))) else (some (true, ()))) else (some (true, ()))) (fun y2 => (bif y2.1 then (some (.inr (true, (((2 : Int), ()), ())))) else (some (.inl ((IntKind.wrap .i64 (a1.1 + (1 : Int))), ())))))) else none) else (some (.inr (false, (((0 : Int), ()), ())))))
noncomputable def g64_s3 (a0 : (List Sp07.Rt)) (a1 : (List Sp07.Lk)) (a2 : (Int × Unit)) : (Option (Sum (Int × Unit) (Bool × ((Int × Unit) × Unit)))) :=
  (bif (decide (a2.1 < (Int.ofNat a1.length))) then (Option.bind (bif ((decide (0 ≤ a2.1)) && (decide (a2.1 < (Int.ofNat a1.length)))) then (bif (!(!(Sp07.hasR a0 (List.getD a1 (Int.toNat a2.1) (0, 0, 0, 0, 0, ())).1))) then (bif (!(!(Sp07.hasR a0 (List.getD a1 (Int.toNat a2.1) (0, 0, 0, 0, 0, ())).1))) then (bif (!(!(Sp07.hasR a0 (List.getD a1 (Int.toNat a2.1) (0, 0, 0, 0, 0, ())).1))) then (bif (!(!(Sp07.hasR a0 (List.getD a1 (Int.toNat a2.1) (0, 0, 0, 0, 0, ())).1))) then (bif (!(!(Sp07.hasR a0 (List.getD a1 (Int.toNat a2.1) (0, 0, 0, 0, 0, ())).1))) then (bif ((decide (0 ≤ a2.1)) && (decide (a2.1 < (Int.ofNat a1.length)))) then (bif (!(!(Sp07.hasR a0 (List.getD a1 (Int.toNat a2.1) (0, 0, 0, 0, 0, ())).1))) then (bif (!(!(Sp07.hasR a0 (List.getD a1 (Int.toNat a2.1) (0, 0, 0, 0, 0, ())).1))) then (bif (!(!(Sp07.hasR a0 (List.getD a1 (Int.toNat a2.1) (0, 0, 0, 0, 0, ())).1))) then (bif (!(!(Sp07.hasR a0 (List.getD a1 (Int.toNat a2.1) (0, 0, 0, 0, 0, ())).1))) then (bif (!(!(Sp07.hasR a0 (List.getD a1 (Int.toNat a2.1) (0, 0, 0, 0, 0, ())).1))) then (some ((!(Sp07.hasR a0 (List.getD a1 (Int.toNat a2.1) (0, 0, 0, 0, 0, ())).2.1)), ())) else none) else none) else none) else none) else none) else none) else none) else none) else none) else none) else (bif (!(Sp07.hasR a0 (List.getD a1 (Int.toNat a2.1) (0, 0, 0, 0, 0, ())).1)) then (bif (!(Sp07.hasR a0 (List.getD a1 (Int.toNat a2.1) (0, 0, 0, 0, 0, ())).1)) then (bif (!(Sp07.hasR a0 (List.getD a1 (Int.toNat a2.1) (0, 0, 0, 0, 0, ())).1)) then (bif (!(Sp07.hasR a0 (List.getD a1 (Int.toNat a2.1) (0, 0, 0, 0, 0, ())).1)) then (bif (!(Sp07.hasR a0 (List.getD a1 (Int.toNat a2.1) (0, 0, 0, 0, 0, ())).1)) then (bif (!(Sp07.hasR a0 (List.getD a1 (Int.toNat a2.1) (0, 0, 0, 0, 0, ())).1)) then (bif (!(Sp07.hasR a0 (List.getD a1 (Int.toNat a2.1) (0, 0, 0, 0, 0, ())).1)) then (bif (!(Sp07.hasR a0 (List.getD a1 (Int.toNat a2.1) (0, 0, 0, 0, 0, ())).1)) then (bif (!(Sp07.hasR a0 (List.getD a1 (Int.toNat a2.1) (0, 0, 0, 0, 0, ())).1)) then (some (true, ())) else none) else none) else none) else none) else none) else none) else none) else none) else none)) else none) (fun y3 => (bif y3.1 then (some (.inr (true, (((4 : Int), ()), ())))) else (some (.inl ((IntKind.wrap .i64 (a2.1 + (1 : Int))), ())))))) else (some (.inr (false, (((0 : Int), ()), ())))))
noncomputable def g64_s4 (a0 : (List Sp07.Lk)) (a1 : (Int × Unit)) : (Option (Sum (Int × Unit) (Bool × ((Int × Unit) × Unit)))) :=
  (bif (decide (a1.1 < (Int.ofNat a0.length))) then (bif ((decide (0 ≤ a1.1)) && (decide (a1.1 < (Int.ofNat a0.length)))) then (bif ((decide (0 ≤ a1.1)) && (decide (a1.1 < (Int.ofNat a0.length)))) then (bif (decide ((List.getD a0 (Int.toNat a1.1) (0, 0, 0, 0, 0, ())).1 ≥ (List.getD a0 (Int.toNat a1.1) (0, 0, 0, 0, 0, ())).2.1)) then (some (.inr (true, (((8 : Int), ()), ())))) else (some (.inl ((IntKind.wrap .i64 (a1.1 + (1 : Int))), ())))) else none) else none) else (some (.inr (false, (((0 : Int), ()), ())))))
noncomputable def g64_s5 (a0 : (List Sp07.Lk)) (a1 : (Int × Unit)) : (Option (Sum (Int × Unit) (Bool × ((Int × Unit) × Unit)))) :=
  (bif (decide (a1.1 < (Int.ofNat a0.length))) then (bif ((decide (0 ≤ (IntKind.wrap .i64 (a1.1 - (1 : Int))))) && (decide ((IntKind.wrap .i64 (a1.1 - (1 : Int))) < (Int.ofNat a0.length)))) then (bif ((decide (0 ≤ a1.1)) && (decide (a1.1 < (Int.ofNat a0.length)))) then (Option.bind (bif (!(decide ((List.getD a0 (Int.toNat (IntKind.wrap .i64 (a1.1 - (1 : Int)))) (0, 0, 0, 0, 0, ())).1 > (List.getD a0 (Int.toNat a1.1) (0, 0, 0, 0, 0, ())).1))) then (bif (decide ((List.getD a0 (Int.toNat (IntKind.wrap .i64 (a1.1 - (1 : Int)))) (0, 0, 0, 0, 0, ())).1 = (List.getD a0 (Int.toNat a1.1) (0, 0, 0, 0, 0, ())).1)) then (some ((decide ((List.getD a0 (Int.toNat (IntKind.wrap .i64 (a1.1 - (1 : Int)))) (0, 0, 0, 0, 0, ())).2.1 ≥ (List.getD a0 (Int.toNat a1.1) (0, 0, 0, 0, 0, ())).2.1)), ())) else (some (false, ()))) else (some (true, ()))) (fun y2 => (bif y2.1 then (some (.inr (true, (((25 : Int), ()), ())))) else (some (.inl ((IntKind.wrap .i64 (a1.1 + (1 : Int))), ())))))) else none) else none) else (some (.inr (false, (((0 : Int), ()), ())))))
noncomputable def g64 (a0 : (List Sp07.Rt)) (a1 : (List Sp07.Lk)) : (Option (Int × Unit)) :=
  (Option.bind (bif (!(decide ((Int.ofNat a0.length) > (24 : Int)))) then (some ((decide ((Int.ofNat a1.length) > (60 : Int))), ())) else (some (true, ()))) (fun y2 => (bif y2.1 then (some ((3 : Int), ())) else (Option.bind (Loop (@g64_s0 a0) ((0 : Int), ())) (fun y3 => (bif y3.1 then (some y3.2.1) else (Option.bind (Loop (@g64_s1 a0) ((1 : Int), ())) (fun y4 => (bif y4.1 then (some y4.2.1) else (Option.bind (Loop (@g64_s2 a1) ((0 : Int), ())) (fun y5 => (bif y5.1 then (some y5.2.1) else (Option.bind (Loop (@g64_s3 a0 a1) ((0 : Int), ())) (fun y6 => (bif y6.1 then (some y6.2.1) else (Option.bind (Loop (@g64_s4 a1) ((0 : Int), ())) (fun y7 => (bif y7.1 then (some y7.2.1) else (Option.bind (Loop (@g64_s5 a1) ((1 : Int), ())) (fun y8 => (bif y8.1 then (some y8.2.1) else (some ((0 : Int), ())))))))))))))))))))))))
theorem g64_eq (a0 : (List Sp07.Rt)) (a1 : (List Sp07.Lk)) : (evF (fun _ _ => Loop) E64 G64 Go.Proofs.Try.f64 plan64 c64 ((), ((a0, (a1, ())), ()))).den = g64 a0 a1 := by kernel_rfl

noncomputable def g65 (a0 : (List Sp07.Rt)) (a1 : (List Sp07.Lk)) (a2 : Int) : (Option (Bool × Unit)) :=
  (Option.bind (bif (decide ((Sp07.chk (a0, (a1, ()))) = (0 : Int))) then (some ((Sp07.hasR a0 a2), ())) else (some (false, ()))) (fun y3 => (some y3)))
theorem g65_eq (a0 : (List Sp07.Rt)) (a1 : (List Sp07.Lk)) (a2 : Int) : (evF (fun _ _ => Loop) E65 G65 Go.Proofs.Try.f65 plan65 c65 ((), ((a0, (a1, ())), (a2, ())))).den = g65 a0 a1 a2 := by kernel_rfl

noncomputable def g66_s0 (a0 : (List Sp07.Rt)) (a1 : Int) (a2 : (Int × Unit)) : (Option (Sum (Int × Unit) (Bool × ((Bool × Unit) × Unit)))) :=
  (bif (decide (a2.1 < (Int.ofNat a0.length))) then (bif ((decide (0 ≤ a2.1)) && (decide (a2.1 < (Int.ofNat a0.length)))) then (bif (decide ((List.getD a0 (Int.toNat a2.1) (0, false, ())).1 = a1)) then (bif ((decide (0 ≤ a2.1)) && (decide (a2.1 < (Int.ofNat a0.length)))) then (some (.inr (true, ((List.getD a0 (Int.toNat a2.1) (0, false, ())).2, ())))) else none) else (some (.inl ((IntKind.wrap .i64 (a2.1 + (1 : Int))), ())))) else none) else (some (.inr (false, ((false, ()), ())))))
noncomputable def g66 (a0 : (List Sp07.Rt)) (a1 : (List Sp07.Lk)) (a2 : Int) : (Option (Bool × Unit)) :=
  (bif (!(decide ((Sp07.chk (a0, (a1, ()))) = (0 : Int)))) then (some (false, ())) else (Option.bind (Loop (@g66_s0 a0 a2) ((0 : Int), ())) (fun y3 => (bif y3.1 then (some y3.2.1) else (some (false, ()))))))
theorem g66_eq (a0 : (List Sp07.Rt)) (a1 : (List Sp07.Lk)) (a2 : Int) : (evF (fun _ _ => Loop) E66 G66 Go.Proofs.Try.f66 plan66 c66 ((), ((a0, (a1, ())), (a2, ())))).den = g66 a0 a1 a2 := by kernel_rfl

noncomputable def g68_s0 (a0 : (List Sp07.Lk)) (a1 : Int) (a2 : Int) (a3 : (Int × Unit)) : (Option (Sum (Int × Unit) (Bool × ((Bool × (Int × Unit)) × Unit)))) :=
  (bif (decide (a3.1 < (Int.ofNat a0.length))) then (bif ((decide (0 ≤ a3.1)) && (decide (a3.1 < (Int.ofNat a0.length)))) then (Option.bind (bif (decide ((List.getD a0 (Int.toNat a3.1) (0, 0, 0, 0, 0, ())).1 = a1)) then (some ((decide ((List.getD a0 (Int.toNat a3.1) (0, 0, 0, 0, 0, ())).2.1 = a2)), ())) else (some (false, ()))) (fun y4 => (bif y4.1 then (some (.inr (true, ((true, ((List.getD a0 (Int.toNat a3.1) (0, 0, 0, 0, 0, ())).2.2.1, ())), ())))) else (Option.bind (bif (decide ((List.getD a0 (Int.toNat a3.1) (0, 0, 0, 0, 0, ())).2.1 = a1)) then (some ((decide ((List.getD a0 (Int.toNat a3.1) (0, 0, 0, 0, 0, ())).1 = a2)), ())) else (some (false, ()))) (fun y5 => (bif y5.1 then (some (.inr (true, ((true, ((List.getD a0 (Int.toNat a3.1) (0, 0, 0, 0, 0, ())).2.2.2.1, ())), ())))) else (some (.inl ((IntKind.wrap .i64 (a3.1 + (1 : Int))), ()))))))))) else none) else (some (.inr (false, ((false, ((0 : Int), ())), ())))))
noncomputable def g68 (a0 : (List Sp07.Rt)) (a1 : (List Sp07.Lk)) (a2 : Int) (a3 : Int) : (Option ((Int × (Bool × Unit)) × Unit)) :=
  (Option.bind (Loop (@g68_s0 a1 a2 a3) ((0 : Int), ())) (fun y4 => (bif y4.1 then (some ((y4.2.1.2.1, (y4.2.1.1, ())), ())) else (some ((0, false, ()), ())))))
theorem g68_eq (a0 : (List Sp07.Rt)) (a1 : (List Sp07.Lk)) (a2 : Int) (a3 : Int) : (evF (fun _ _ => Loop) E68 G68 Go.Proofs.Try.f68 plan68 c68 ((), ((a0, (a1, ())), (a2, (a3, ()))))).den = g68 a0 a1 a2 a3 := by kernel_rfl

noncomputable def g67_s0 (a0 : (List Sp07.Rt)) (a1 : (List Sp07.Lk)) (a2 : Int) (a3 : Sp07.Tp) : (Option (Sum Sp07.Tp ((List Int) × Unit))) :=
  (bif (decide (a3.2.1 < (Int.ofNat a0.length))) then (bif ((decide (0 ≤ a3.2.1)) && (decide (a3.2.1 < (Int.ofNat a0.length)))) then (Option.bind (bif (Sp07.price a1 a2 (List.getD a0 (Int.toNat a3.2.1) (0, false, ())).1).2.1 then (bif ((decide (0 ≤ a3.2.1)) && (decide (a3.2.1 < (Int.ofNat a0.length)))) then (bif (Nat.ble ((a3.1.length + 1) * 8) 140737488355328) then (some ((a3.1 ++ ((List.getD a0 (Int.toNat a3.2.1) (0, false, ())).1 :: [])), ())) else none) else none) else (some (a3.1, ()))) (fun (y4 : ((List Int) × Unit)) => (some (.inl (y4.1, ((IntKind.wrap .i64 (a3.2.1 + (1 : Int))), ())))))) else none) else (some (.inr (a3.1, ()))))
noncomputable def g67 (a0 : (List Sp07.Rt)) (a1 : (List Sp07.Lk)) (a2 : Int) : (Option ((List Int) × Unit)) :=
  (Option.bind (Loop (@g67_s0 a0 a1 a2) ([], ((0 : Int), ()))) (fun (y3 : ((List Int) × Unit)) => (some y3)))
theorem g67_eq (a0 : (List Sp07.Rt)) (a1 : (List Sp07.Lk)) (a2 : Int) : (evF (fun _ _ => Loop) E67 G67 Go.Proofs.Try.f67 plan67 c67 ((), ((a0, (a1, ())), (a2, ())))).den = g67 a0 a1 a2 := by kernel_rfl

noncomputable def g33_s0 (a0 : (List Sp07.Lk)) (a1 : Int) (a2 : (Sp07.Ad × (Int × Unit))) : (Option (Sum (Sp07.Ad × (Int × Unit)) (Sp07.Ad × Unit))) :=
  (bif (decide (a2.2.1 < (Int.ofNat a0.length))) then (bif ((decide (0 ≤ a2.2.1)) && (decide (a2.2.1 < (Int.ofNat a0.length)))) then (Option.bind (bif (decide (a1 = (List.getD a0 (Int.toNat a2.2.1) (0, 0, 0, 0, 0, ())).1)) then (bif (Nat.ble ((a2.1.2.2.2.1.length + 1) * 24) 140737488355328) then (some ((a2.1.1, (a2.1.2.1, (a2.1.2.2.1, ((a2.1.2.2.2.1 ++ (((List.getD a0 (Int.toNat a2.2.1) (0, 0, 0, 0, 0, ())).2.1, ((List.getD a0 (Int.toNat a2.2.1) (0, 0, 0, 0, 0, ())).2.2.1, (List.getD a0 (Int.toNat a2.2.1) (0, 0, 0, 0, 0, ())).2.2.2.2)) :: [])), a2.1.2.2.2.2)))), ())) else none) else (Option.bind (bif (decide (a1 = (List.getD a0 (Int.toNat a2.2.1) (0, 0, 0, 0, 0, ())).2.1)) then (bif (Nat.ble ((a2.1.2.2.2.1.length + 1) * 24) 140737488355328) then (some ((a2.1.1, (a2.1.2.1, (a2.1.2.2.1, ((a2.1.2.2.2.1 ++ (((List.getD a0 (Int.toNat a2.2.1) (0, 0, 0, 0, 0, ())).1, (List.getD a0 (Int.toNat a2.2.1) (0, 0, 0, 0, 0, ())).2.2.2) :: [])), a2.1.2.2.2.2)))), ())) else none) else (some (a2.1, ()))) (fun (y3 : (Sp07.Ad × Unit)) => (some y3)))) (fun (y3 : (Sp07.Ad × Unit)) => (some (.inl (y3.1, ((IntKind.wrap .i64 (a2.2.1 + (1 : Int))), ())))))) else none) else (some (.inr (a2.1, ()))))
noncomputable def g33 (a0 : (List Sp07.Rt)) (a1 : (List Sp07.Lk)) (a2 : Int) (a3 : Int) (a4 : (List Sp07.Rc)) : (Option ((Sp07.Ad × (Int × Unit)) × Unit)) :=
  (bif (!(decide ((Sp07.chk (a0, (a1, ()))) = (0 : Int)))) then (some ((((0 : Int), ((0 : Int), (false, ([], ([], ()))))), ((1 : Int), ())), ())) else (bif (!(Sp07.hasT (a0, (a1, ())) a2)) then (some ((((0 : Int), ((0 : Int), (false, ([], ([], ()))))), ((4 : Int), ())), ())) else (bif (Nat.ble (a4.length * 24) 140737488355328) then (Option.bind (Loop (@g33_s0 a1 a2) ((a2, (a3, ((Sp07.capT (a0, (a1, ())) a2), ([], (a4, ()))))), ((0 : Int), ()))) (fun (y5 : (Sp07.Ad × Unit)) => (bif (!(Sp07.validA y5.1)) then (some ((((0 : Int), ((0 : Int), (false, ([], ([], ()))))), ((2 : Int), ())), ())) else (some ((y5.1, ((0 : Int), ())), ()))))) else none)))
theorem g33_eq (a0 : (List Sp07.Rt)) (a1 : (List Sp07.Lk)) (a2 : Int) (a3 : Int) (a4 : (List Sp07.Rc)) : (evF (fun _ _ => Loop) E33 G33 Go.Proofs.Try.f33 plan33 c33 ((), ((a0, (a1, ())), (a2, (a3, (a4, ())))))).den = g33 a0 a1 a2 a3 a4 := by kernel_rfl

noncomputable def g34_s0 (a0 : (List Sp07.Lk)) (a1 : Int) (a2 : (Sp07.Ad × (Int × ((List Int) × Unit)))) (a3 : ((List Int) × ((Int × (Int × (Int × Unit))) × (Int × Unit)))) : (Option (Sum ((List Int) × ((Int × (Int × (Int × Unit))) × (Int × Unit))) ((List Int) × ((Int × (Int × (Int × Unit))) × Unit)))) :=
  (bif (decide (a3.2.2.1 < (Int.ofNat a0.length))) then (bif ((decide (0 ≤ a3.2.2.1)) && (decide (a3.2.2.1 < (Int.ofNat a0.length)))) then (Option.bind (bif ((decide (0 ≤ a2.2.1)) && (decide (a2.2.1 < (Int.ofNat a3.1.length)))) then (bif (Nat.blt (Int.toNat a2.2.1) a3.1.length) then (bif (decide ((List.getD a0 (Int.toNat a3.2.2.1) (0, 0, 0, 0, 0, ())).1 = (bif (decide ((List.getD a3.1 (Int.toNat a2.2.1) (0 : Int)) < a1)) then (List.getD a3.1 (Int.toNat a2.2.1) (0 : Int)) else a1))) then (bif (decide ((List.getD a0 (Int.toNat a3.2.2.1) (0, 0, 0, 0, 0, ())).1 = (bif (decide ((List.getD a3.1 (Int.toNat a2.2.1) (0 : Int)) < a1)) then (List.getD a3.1 (Int.toNat a2.2.1) (0 : Int)) else a1))) then (bif (decide ((List.getD a0 (Int.toNat a3.2.2.1) (0, 0, 0, 0, 0, ())).1 = (bif (decide ((List.getD a3.1 (Int.toNat a2.2.1) (0 : Int)) < a1)) then (List.getD a3.1 (Int.toNat a2.2.1) (0 : Int)) else a1))) then (bif (decide ((List.getD a0 (Int.toNat a3.2.2.1) (0, 0, 0, 0, 0, ())).1 = (bif (decide ((List.getD a3.1 (Int.toNat a2.2.1) (0 : Int)) < a1)) then (List.getD a3.1 (Int.toNat a2.2.1) (0 : Int)) else a1))) then (bif (decide ((List.getD a0 (Int.toNat a3.2.2.1) (0, 0, 0, 0, 0, ())).1 = (bif (decide ((List.getD a3.1 (Int.toNat a2.2.1) (0 : Int)) < a1)) then (List.getD a3.1 (Int.toNat a2.2.1) (0 : Int)) else a1))) then (bif (decide ((List.getD a0 (Int.toNat a3.2.2.1) (0, 0, 0, 0, 0, ())).1 = (bif (decide ((List.getD a3.1 (Int.toNat a2.2.1) (0 : Int)) < a1)) then (List.getD a3.1 (Int.toNat a2.2.1) (0 : Int)) else a1))) then (bif ((decide (0 ≤ a2.2.1)) && (decide (a2.2.1 < (Int.ofNat a3.1.length)))) then (bif (decide ((List.getD a0 (Int.toNat a3.2.2.1) (0, 0, 0, 0, 0, ())).1 = (bif (decide ((List.getD a3.1 (Int.toNat a2.2.1) (0 : Int)) < a1)) then (List.getD a3.1 (Int.toNat a2.2.1) (0 : Int)) else a1))) then (bif (Nat.blt (Int.toNat a2.2.1) a3.1.length) then (bif (decide ((List.getD a0 (Int.toNat a3.2.2.1) (0, 0, 0, 0, 0, ())).1 = (bif (decide ((List.getD a3.1 (Int.toNat a2.2.1) (0 : Int)) < a1)) then (List.getD a3.1 (Int.toNat a2.2.1) (0 : Int)) else a1))) then (bif (decide ((List.getD a0 (Int.toNat a3.2.2.1) (0, 0, 0, 0, 0, ())).1 = (bif (decide ((List.getD a3.1 (Int.toNat a2.2.1) (0 : Int)) < a1)) then (List.getD a3.1 (Int.toNat a2.2.1) (0 : Int)) else a1))) then (bif (decide ((List.getD a0 (Int.toNat a3.2.2.1) (0, 0, 0, 0, 0, ())).1 = (bif (decide ((List.getD a3.1 (Int.toNat a2.2.1) (0 : Int)) < a1)) then (List.getD a3.1 (Int.toNat a2.2.1) (0 : Int)) else a1))) then (some (a3.1, ((decide ((List.getD a0 (Int.toNat a3.2.2.1) (0, 0, 0, 0, 0, ())).2.1 = (bif (decide (a1 < (List.getD a3.1 (Int.toNat a2.2.1) (0 : Int)))) then (List.getD a3.1 (Int.toNat a2.2.1) (0 : Int)) else a1))), ()))) else none) else none) else none) else none) else none) else none) else none) else none) else none) else none) else none) else (bif (!(decide ((List.getD a0 (Int.toNat a3.2.2.1) (0, 0, 0, 0, 0, ())).1 = (bif (decide ((List.getD a3.1 (Int.toNat a2.2.1) (0 : Int)) < a1)) then (List.getD a3.1 (Int.toNat a2.2.1) (0 : Int)) else a1)))) then (bif (!(decide ((List.getD a0 (Int.toNat a3.2.2.1) (0, 0, 0, 0, 0, ())).1 = (bif (decide ((List.getD a3.1 (Int.toNat a2.2.1) (0 : Int)) < a1)) then (List.getD a3.1 (Int.toNat a2.2.1) (0 : Int)) else a1)))) then (bif (!(decide ((List.getD a0 (Int.toNat a3.2.2.1) (0, 0, 0, 0, 0, ())).1 = (bif (decide ((List.getD a3.1 (Int.toNat a2.2.1) (0 : Int)) < a1)) then (List.getD a3.1 (Int.toNat a2.2.1) (0 : Int)) else a1)))) then (bif (!(decide ((List.getD a0 (Int.toNat a3.2.2.1) (0, 0, 0, 0, 0, ())).1 = (bif (decide ((List.getD a3.1 (Int.toNat a2.2.1) (0 : Int)) < a1)) then (List.getD a3.1 (Int.toNat a2.2.1) (0 : Int)) else a1)))) then (bif (!(decide ((List.getD a0 (Int.toNat a3.2.2.1) (0, 0, 0, 0, 0, ())).1 = (bif (decide ((List.getD a3.1 (Int.toNat a2.2.1) (0 : Int)) < a1)) then (List.getD a3.1 (Int.toNat a2.2.1) (0 : Int)) else a1)))) then (bif (!(decide ((List.getD a0 (Int.toNat a3.2.2.1) (0, 0, 0, 0, 0, ())).1 = (bif (decide ((List.getD a3.1 (Int.toNat a2.2.1) (0 : Int)) < a1)) then (List.getD a3.1 (Int.toNat a2.2.1) (0 : Int)) else a1)))) then (bif (!(decide ((List.getD a0 (Int.toNat a3.2.2.1) (0, 0, 0, 0, 0, ())).1 = (bif (decide ((List.getD a3.1 (Int.toNat a2.2.1) (0 : Int)) < a1)) then (List.getD a3.1 (Int.toNat a2.2.1) (0 : Int)) else a1)))) then (bif (!(decide ((List.getD a0 (Int.toNat a3.2.2.1) (0, 0, 0, 0, 0, ())).1 = (bif (decide ((List.getD a3.1 (Int.toNat a2.2.1) (0 : Int)) < a1)) then (List.getD a3.1 (Int.toNat a2.2.1) (0 : Int)) else a1)))) then (bif (!(decide ((List.getD a0 (Int.toNat a3.2.2.1) (0, 0, 0, 0, 0, ())).1 = (bif (decide ((List.getD a3.1 (Int.toNat a2.2.1) (0 : Int)) < a1)) then (List.getD a3.1 (Int.toNat a2.2.1) (0 : Int)) else a1)))) then (some (a3.1, (false, ()))) else none) else none) else none) else none) else none) else none) else none) else none) else none)) else none) else none) (fun y4 => (Option.bind (bif y4.2.1 then (some ((a3.2.1.1, (a3.2.1.2.1, (List.getD a0 (Int.toNat a3.2.2.1) (0, 0, 0, 0, 0, ())).2.2.2.2)), ())) else (some (a3.2.1, ()))) (fun y5 => (some (.inl (y4.1, (y5.1, ((IntKind.wrap .i64 (a3.2.2.1 + (1 : Int))), ()))))))))) else none) else (some (.inr (a3.1, (a3.2.1, ())))))
noncomputable def g34_s1 (a0 : (List Sp07.Lk)) (a1 : Int) (a2 : (Sp07.Ad × (Int × ((List Int) × Unit)))) : (Option (Sum (Sp07.Ad × (Int × ((List Int) × Unit))) (Sp07.Ad × Unit))) :=
  (bif (decide (a2.2.1 < (Int.ofNat a2.2.2.1.length))) then (bif ((decide (0 ≤ a2.2.1)) && (decide (a2.2.1 < (Int.ofNat a2.2.2.1.length)))) then (bif (Nat.blt (Int.toNat a2.2.1) a2.2.2.1.length) then (bif ((decide (0 ≤ a2.2.1)) && (decide (a2.2.1 < (Int.ofNat a2.2.2.1.length)))) then (bif (Nat.blt (Int.toNat a2.2.1) a2.2.2.1.length) then (Option.bind (Loop (@g34_s0 a0 a1 a2) (a2.2.2.1, (((List.getD a2.2.2.1 (Int.toNat a2.2.1) (0 : Int)), ((Sp07.price a0 a1 (List.getD a2.2.2.1 (Int.toNat a2.2.1) (0 : Int))).1, ((0 : Int), ()))), ((0 : Int), ())))) (fun (y3 : ((List Int) × ((Int × (Int × (Int × Unit))) × Unit))) => (bif (Nat.ble ((a2.1.2.2.2.1.length + 1) * 24) 140737488355328) then (some (.inl ((a2.1.1, (a2.1.2.1, (a2.1.2.2.1, ((a2.1.2.2.2.1 ++ (y3.2.1 :: [])), a2.1.2.2.2.2)))), ((IntKind.wrap .i64 (a2.2.1 + (1 : Int))), (y3.1, ()))))) else none))) else none) else none) else none) else none) else (some (.inr (a2.1, ()))))
noncomputable def g34 (a0 : (List Sp07.Rt)) (a1 : (List Sp07.Lk)) (a2 : Int) (a3 : Int) (a4 : (List Sp07.Rc)) : (Option ((Sp07.Ad × (Int × Unit)) × Unit)) :=
  (bif (!(decide ((Sp07.chk (a0, (a1, ()))) = (0 : Int)))) then (some ((((0 : Int), ((0 : Int), (false, ([], ([], ()))))), ((1 : Int), ())), ())) else (bif (!(Sp07.hasT (a0, (a1, ())) a2)) then (some ((((0 : Int), ((0 : Int), (false, ([], ([], ()))))), ((4 : Int), ())), ())) else (Option.bind (Loop (@g34_s1 a1 a2) ((a2, (a3, ((Sp07.capT (a0, (a1, ())) a2), ([], (a4, ()))))), ((0 : Int), ((Sp07.near (a0, (a1, ())) a2), ())))) (fun (y5 : (Sp07.Ad × Unit)) => (bif (!(Sp07.validA y5.1)) then (some ((((0 : Int), ((0 : Int), (false, ([], ([], ()))))), ((2 : Int), ())), ())) else (some ((y5.1, ((0 : Int), ())), ())))))))
theorem g34_eq (a0 : (List Sp07.Rt)) (a1 : (List Sp07.Lk)) (a2 : Int) (a3 : Int) (a4 : (List Sp07.Rc)) : (evF (fun _ _ => Loop) E34 G34 Go.Proofs.Try.f34 plan34 c34 ((), ((a0, (a1, ())), (a2, (a3, (a4, ())))))).den = g34 a0 a1 a2 a3 a4 := by kernel_rfl

noncomputable def g60_s0 (a0 : (List Sp07.Lk)) (a1 : (Int × ((List Sp07.Lk) × Unit))) (a2 : (Int × ((List Sp07.Lk) × Unit))) : (Option (Sum (Int × ((List Sp07.Lk) × Unit)) (Int × ((List Sp07.Lk) × Unit)))) :=
  (Option.bind (bif (decide (a2.1 < (Int.ofNat a2.2.1.length))) then (bif (decide (a2.1 < (Int.ofNat a2.2.1.length))) then (bif (decide (a2.1 < (Int.ofNat a2.2.1.length))) then (bif ((decide (0 ≤ a2.1)) && (decide (a2.1 < (Int.ofNat a2.2.1.length)))) then (bif (decide (a2.1 < (Int.ofNat a2.2.1.length))) then (bif (decide (a2.1 < (Int.ofNat a2.2.1.length))) then (bif (Nat.blt (Int.toNat a2.1) a2.2.1.length) then (bif (decide (a2.1 < (Int.ofNat a2.2.1.length))) then (bif (decide (a2.1 < (Int.ofNat a2.2.1.length))) then (bif (decide (a2.1 < (Int.ofNat a2.2.1.length))) then (bif ((decide (0 ≤ a1.1)) && (decide (a1.1 < (Int.ofNat a0.length)))) then (bif (decide (a2.1 < (Int.ofNat a2.2.1.length))) then (bif (decide (a2.1 < (Int.ofNat a2.2.1.length))) then (bif (decide (a2.1 < (Int.ofNat a2.2.1.length))) then (bif (decide (a2.1 < (Int.ofNat a2.2.1.length))) then (bif (!(decide ((List.getD a2.2.1 (Int.toNat a2.1) (0, 0, 0, 0, 0, ())).1 < (List.getD a0 (Int.toNat a1.1) (0, 0, 0, 0, 0, ())).1))) then (bif (!(decide ((List.getD a2.2.1 (Int.toNat a2.1) (0, 0, 0, 0, 0, ())).1 < (List.getD a0 (Int.toNat a1.1) (0, 0, 0, 0, 0, ())).1))) then (bif (!(decide ((List.getD a2.2.1 (Int.toNat a2.1) (0, 0, 0, 0, 0, ())).1 < (List.getD a0 (Int.toNat a1.1) (0, 0, 0, 0, 0, ())).1))) then (bif ((decide (0 ≤ a2.1)) && (decide (a2.1 < (Int.ofNat a2.2.1.length)))) then (bif (!(decide ((List.getD a2.2.1 (Int.toNat a2.1) (0, 0, 0, 0, 0, ())).1 < (List.getD a0 (Int.toNat a1.1) (0, 0, 0, 0, 0, ())).1))) then (bif (!(decide ((List.getD a2.2.1 (Int.toNat a2.1) (0, 0, 0, 0, 0, ())).1 < (List.getD a0 (Int.toNat a1.1) (0, 0, 0, 0, 0, ())).1))) then (bif (Nat.blt (Int.toNat a2.1) a2.2.1.length) then (bif (!(decide ((List.getD a2.2.1 (Int.toNat a2.1) (0, 0, 0, 0, 0, ())).1 < (List.getD a0 (Int.toNat a1.1) (0, 0, 0, 0, 0, ())).1))) then (bif (!(decide ((List.getD a2.2.1 (Int.toNat a2.1) (0, 0, 0, 0, 0, ())).1 < (List.getD a0 (Int.toNat a1.1) (0, 0, 0, 0, 0, ())).1))) then (bif (!(decide ((List.getD a2.2.1 (Int.toNat a2.1) (0, 0, 0, 0, 0, ())).1 < (List.getD a0 (Int.toNat a1.1) (0, 0, 0, 0, 0, ())).1))) then (bif ((decide (0 ≤ a1.1)) && (decide (a1.1 < (Int.ofNat a0.length)))) then (bif (!(decide ((List.getD a2.2.1 (Int.toNat a2.1) (0, 0, 0, 0, 0, ())).1 < (List.getD a0 (Int.toNat a1.1) (0, 0, 0, 0, 0, ())).1))) then (bif (!(decide ((List.getD a2.2.1 (Int.toNat a2.1) (0, 0, 0, 0, 0, ())).1 < (List.getD a0 (Int.toNat a1.1) (0, 0, 0, 0, 0, ())).1))) then (bif (!(decide ((List.getD a2.2.1 (Int.toNat a2.1) (0, 0, 0, 0, 0, ())).1 < (List.getD a0 (Int.toNat a1.1) (0, 0, 0, 0, 0, ())).1))) then (bif (!(decide ((List.getD a2.2.1 (Int.toNat a2.1) (0, 0, 0, 0, 0, ())).1 < (List.getD a0 (Int.toNat a1.1) (0, 0, 0, 0, 0, ())).1))) then (bif (decide ((List.getD a2.2.1 (Int.toNat a2.1) (0, 0, 0, 0, 0, ())).1 = (List.getD a0 (Int.toNat a1.1) (0, 0, 0, 0, 0, ())).1)) then (bif (decide ((List.getD a2.2.1 (Int.toNat a2.1) (0, 0, 0, 0, 0, ())).1 = (List.getD a0 (Int.toNat a1.1) (0, 0, 0, 0, 0, ())).1)) then (bif (decide ((List.getD a2.2.1 (Int.toNat a2.1) (0, 0, 0, 0, 0, ())).1 = (List.getD a0 (Int.toNat a1.1) (0, 0, 0, 0, 0, ())).1)) then (bif ((decide (0 ≤ a2.1)) && (decide (a2.1 < (Int.ofNat a2.2.1.length)))) then (bif (decide ((List.getD a2.2.1 (Int.toNat a2.1) (0, 0, 0, 0, 0, ())).1 = (List.getD a0 (Int.toNat a1.1) (0, 0, 0, 0, 0, ())).1)) then (bif (decide ((List.getD a2.2.1 (Int.toNat a2.1) (0, 0, 0, 0, 0, ())).1 = (List.getD a0 (Int.toNat a1.1) (0, 0, 0, 0, 0, ())).1)) then (bif (Nat.blt (Int.toNat a2.1) a2.2.1.length) then (bif (decide ((List.getD a2.2.1 (Int.toNat a2.1) (0, 0, 0, 0, 0, ())).1 = (List.getD a0 (Int.toNat a1.1) (0, 0, 0, 0, 0, ())).1)) then (bif (decide ((List.getD a2.2.1 (Int.toNat a2.1) (0, 0, 0, 0, 0, ())).1 = (List.getD a0 (Int.toNat a1.1) (0, 0, 0, 0, 0, ())).1)) then (bif (decide ((List.getD a2.2.1 (Int.toNat a2.1) (0, 0, 0, 0, 0, ())).1 = (List.getD a0 (Int.toNat a1.1) (0, 0, 0, 0, 0, ())).1)) then (bif ((decide (0 ≤ a1.1)) && (decide (a1.1 < (Int.ofNat a0.length)))) then (bif (decide ((List.getD a2.2.1 (Int.toNat a2.1) (0, 0, 0, 0, 0, ())).1 = (List.getD a0 (Int.toNat a1.1) (0, 0, 0, 0, 0, ())).1)) then (bif (decide ((List.getD a2.2.1 (Int.toNat a2.1) (0, 0, 0, 0, 0, ())).1 = (List.getD a0 (Int.toNat a1.1) (0, 0, 0, 0, 0, ())).1)) then (bif (decide ((List.getD a2.2.1 (Int.toNat a2.1) (0, 0, 0, 0, 0, ())).1 = (List.getD a0 (Int.toNat a1.1) (0, 0, 0, 0, 0, ())).1)) then (bif (!(decide ((List.getD a2.2.1 (Int.toNat a2.1) (0, 0, 0, 0, 0, ())).1 < (List.getD a0 (Int.toNat a1.1) (0, 0, 0, 0, 0, ())).1))) then (bif (decide ((List.getD a2.2.1 (Int.toNat a2.1) (0, 0, 0, 0, 0, ())).1 = (List.getD a0 (Int.toNat a1.1) (0, 0, 0, 0, 0, ())).1)) then (bif (decide (a2.1 < (Int.ofNat a2.2.1.length))) then (bif (!(decide ((List.getD a2.2.1 (Int.toNat a2.1) (0, 0, 0, 0, 0, ())).1 < (List.getD a0 (Int.toNat a1.1) (0, 0, 0, 0, 0, ())).1))) then (bif (decide (a2.1 < (Int.ofNat a2.2.1.length))) then (some (a2.2.1, ((decide ((List.getD a2.2.1 (Int.toNat a2.1) (0, 0, 0, 0, 0, ())).2.1 < (List.getD a0 (Int.toNat a1.1) (0, 0, 0, 0, 0, ())).2.1)), ()))) else none) else none) else none) else none) else none) else none) else none) else none) else none) else none) else none) else none) else none) else none) else none) else none) else none) else none) else (bif (!(decide ((List.getD a2.2.1 (Int.toNat a2.1) (0, 0, 0, 0, 0, ())).1 = (List.getD a0 (Int.toNat a1.1) (0, 0, 0, 0, 0, ())).1))) then (bif (!(decide ((List.getD a2.2.1 (Int.toNat a2.1) (0, 0, 0, 0, 0, ())).1 = (List.getD a0 (Int.toNat a1.1) (0, 0, 0, 0, 0, ())).1))) then (bif (!(decide ((List.getD a2.2.1 (Int.toNat a2.1) (0, 0, 0, 0, 0, ())).1 = (List.getD a0 (Int.toNat a1.1) (0, 0, 0, 0, 0, ())).1))) then (bif (!(decide ((List.getD a2.2.1 (Int.toNat a2.1) (0, 0, 0, 0, 0, ())).1 = (List.getD a0 (Int.toNat a1.1) (0, 0, 0, 0, 0, ())).1))) then (bif (!(decide ((List.getD a2.2.1 (Int.toNat a2.1) (0, 0, 0, 0, 0, ())).1 = (List.getD a0 (Int.toNat a1.1) (0, 0, 0, 0, 0, ())).1))) then (bif (!(decide ((List.getD a2.2.1 (Int.toNat a2.1) (0, 0, 0, 0, 0, ())).1 = (List.getD a0 (Int.toNat a1.1) (0, 0, 0, 0, 0, ())).1))) then (bif (!(decide ((List.getD a2.2.1 (Int.toNat a2.1) (0, 0, 0, 0, 0, ())).1 = (List.getD a0 (Int.toNat a1.1) (0, 0, 0, 0, 0, ())).1))) then (bif (!(decide ((List.getD a2.2.1 (Int.toNat a2.1) (0, 0, 0, 0, 0, ())).1 = (List.getD a0 (Int.toNat a1.1) (0, 0, 0, 0, 0, ())).1))) then (bif (!(decide ((List.getD a2.2.1 (Int.toNat a2.1) (0, 0, 0, 0, 0, ())).1 = (List.getD a0 (Int.toNat a1.1) (0, 0, 0, 0, 0, ())).1))) then (bif (!(decide ((List.getD a2.2.1 (Int.toNat a2.1) (0, 0, 0, 0, 0, ())).1 = (List.getD a0 (Int.toNat a1.1) (0, 0, 0, 0, 0, ())).1))) then (bif (!(decide ((List.getD a2.2.1 (Int.toNat a2.1) (0, 0, 0, 0, 0, ())).1 < (List.getD a0 (Int.toNat a1.1) (0, 0, 0, 0, 0, ())).1))) then (bif (!(decide ((List.getD a2.2.1 (Int.toNat a2.1) (0, 0, 0, 0, 0, ())).1 = (List.getD a0 (Int.toNat a1.1) (0, 0, 0, 0, 0, ())).1))) then (bif (decide (a2.1 < (Int.ofNat a2.2.1.length))) then (bif (!(decide ((List.getD a2.2.1 (Int.toNat a2.1) (0, 0, 0, 0, 0, ())).1 < (List.getD a0 (Int.toNat a1.1) (0, 0, 0, 0, 0, ())).1))) then (bif (decide (a2.1 < (Int.ofNat a2.2.1.length))) then (some (a2.2.1, (false, ()))) else none) else none) else none) else none) else none) else none) else none) else none) else none) else none) else none) else none) else none) else none) else none)) else none) else none) else none) else none) else none) else none) else none) else none) else none) else none) else none) else none) else none) else none) else (bif (decide ((List.getD a2.2.1 (Int.toNat a2.1) (0, 0, 0, 0, 0, ())).1 < (List.getD a0 (Int.toNat a1.1) (0, 0, 0, 0, 0, ())).1)) then (bif (decide ((List.getD a2.2.1 (Int.toNat a2.1) (0, 0, 0, 0, 0, ())).1 < (List.getD a0 (Int.toNat a1.1) (0, 0, 0, 0, 0, ())).1)) then (bif (decide ((List.getD a2.2.1 (Int.toNat a2.1) (0, 0, 0, 0, 0, ())).1 < (List.getD a0 (Int.toNat a1.1) (0, 0, 0, 0, 0, ())).1)) then (bif (decide ((List.getD a2.2.1 (Int.toNat a2.1) (0, 0, 0, 0, 0, ())).1 < (List.getD a0 (Int.toNat a1.1) (0, 0, 0, 0, 0, ())).1)) then (bif (decide ((List.getD a2.2.1 (Int.toNat a2.1) (0, 0, 0, 0, 0, ())).1 < (List.getD a0 (Int.toNat a1.1) (0, 0, 0, 0, 0, ())).1)) then (bif (decide ((List.getD a2.2.1 (Int.toNat a2.1) (0, 0, 0, 0, 0, ())).1 < (List.getD a0 (Int.toNat a1.1) (0, 0, 0, 0, 0, ())).1)) then (bif (decide ((List.getD a2.2.1 (Int.toNat a2.1) (0, 0, 0, 0, 0, ())).1 < (List.getD a0 (Int.toNat a1.1) (0, 0, 0, 0, 0, ())).1)) then (bif (decide ((List.getD a2.2.1 (Int.toNat a2.1) (0, 0, 0, 0, 0, ())).1 < (List.getD a0 (Int.toNat a1.1) (0, 0, 0, 0, 0, ())).1)) then (bif (decide ((List.getD a2.2.1 (Int.toNat a2.1) (0, 0, 0, 0, 0, ())).1 < (List.getD a0 (Int.toNat a1.1) (0, 0, 0, 0, 0, ())).1)) then (bif (decide ((List.getD a2.2.1 (Int.toNat a2.1) (0, 0, 0, 0, 0, ())).1 < (List.getD a0 (Int.toNat a1.1) (0, 0, 0, 0, 0, ())).1)) then (bif (decide ((List.getD a2.2.1 (Int.toNat a2.1) (0, 0, 0, 0, 0, ())).1 < (List.getD a0 (Int.toNat a1.1) (0, 0, 0, 0, 0, ())).1)) then (bif (decide ((List.getD a2.2.1 (Int.toNat a2.1) (0, 0, 0, 0, 0, ())).1 < (List.getD a0 (Int.toNat a1.1) (0, 0, 0, 0, 0, ())).1)) then (bif (decide (a2.1 < (Int.ofNat a2.2.1.length))) then (bif (decide ((List.getD a2.2.1 (Int.toNat a2.1) (0, 0, 0, 0, 0, ())).1 < (List.getD a0 (Int.toNat a1.1) (0, 0, 0, 0, 0, ())).1)) then (bif (decide (a2.1 < (Int.ofNat a2.2.1.length))) then (some (a2.2.1, (true, ()))) else none) else none) else none) else none) else none) else none) else none) else none) else none) else none) else none) else none) else none) else none) else none)) else none) else none) else none) else none) else none) else none) else none) else none) else none) else none) else none) else none) else none) else none) else (bif (!(decide (a2.1 < (Int.ofNat a2.2.1.length)))) then (bif (!(decide (a2.1 < (Int.ofNat a2.2.1.length)))) then (bif (!(decide (a2.1 < (Int.ofNat a2.2.1.length)))) then (bif (!(decide (a2.1 < (Int.ofNat a2.2.1.length)))) then (bif (!(decide (a2.1 < (Int.ofNat a2.2.1.length)))) then (bif (!(decide (a2.1 < (Int.ofNat a2.2.1.length)))) then (bif (!(decide (a2.1 < (Int.ofNat a2.2.1.length)))) then (bif (!(decide (a2.1 < (Int.ofNat a2.2.1.length)))) then (bif (!(decide (a2.1 < (Int.ofNat a2.2.1.length)))) then (bif (!(decide (a2.1 < (Int.ofNat a2.2.1.length)))) then (bif (!(decide (a2.1 < (Int.ofNat a2.2.1.length)))) then (bif (!(decide (a2.1 < (Int.ofNat a2.2.1.length)))) then (bif (!(decide (a2.1 < (Int.ofNat a2.2.1.length)))) then (some (a2.2.1, (false, ()))) else none) else none) else none) else none) else none) else none) else none) else none) else none) else none) else none) else none) else none)) (fun y3 => (bif y3.2.1 then (some (.inl ((IntKind.wrap .i64 (a2.1 + (1 : Int))), (y3.1, ())))) else (some (.inr (a2.1, (y3.1, ())))))))
noncomputable def g60_s1 (a0 : (List Sp07.Lk)) (a1 : (Int × ((List Sp07.Lk) × Unit))) : (Option (Sum (Int × ((List Sp07.Lk) × Unit)) ((List Sp07.Lk) × Unit))) :=
  (bif (decide (a1.1 < (Int.ofNat a0.length))) then (Option.bind (Loop (@g60_s0 a0 a1) ((0 : Int), a1.2)) (fun (y2 : (Int × ((List Sp07.Lk) × Unit))) => (bif ((true && (decide (0 ≤ y2.1))) && (decide (y2.1 ≤ (Int.ofNat y2.2.1.length)))) then (bif (Nat.ble ((0 + (List.drop 0 (List.take (Int.toNat y2.1) y2.2.1)).length) * 40) 140737488355328) then (bif ((decide (0 ≤ a1.1)) && (decide (a1.1 < (Int.ofNat a0.length)))) then (bif (Nat.ble ((([] ++ (List.drop 0 (List.take (Int.toNat y2.1) y2.2.1))).length + 1) * 40) 140737488355328) then (bif (((decide (0 ≤ y2.1)) && (decide (y2.1 ≤ (Int.ofNat y2.2.1.length)))) && (decide ((Int.ofNat y2.2.1.length) ≤ (Int.ofNat y2.2.1.length)))) then (bif (Nat.ble (((([] ++ (List.drop 0 (List.take (Int.toNat y2.1) y2.2.1))) ++ ((List.getD a0 (Int.toNat a1.1) (0, 0, 0, 0, 0, ())) :: [])).length + (List.drop (Int.toNat y2.1) (List.take (Int.toNat (Int.ofNat y2.2.1.length)) y2.2.1)).length) * 40) 140737488355328) then (some (.inl ((IntKind.wrap .i64 (a1.1 + (1 : Int))), (((([] ++ (List.drop 0 (List.take (Int.toNat y2.1) y2.2.1))) ++ ((List.getD a0 (Int.toNat a1.1) (0, 0, 0, 0, 0, ())) :: [])) ++ (List.drop (Int.toNat y2.1) (List.take (Int.toNat (Int.ofNat y2.2.1.length)) y2.2.1))), ())))) else none) else none) else none) else none) else none) else none))) else (some (.inr a1.2)))
noncomputable def g60 (a0 : (List Sp07.Lk)) : (Option ((List Sp07.Lk) × Unit)) :=
  (Option.bind (Loop (@g60_s1 a0) ((0 : Int), ([], ()))) (fun (y1 : ((List Sp07.Lk) × Unit)) => (some y1)))
theorem g60_eq (a0 : (List Sp07.Lk)) : (evF (fun _ _ => Loop) E60 G60 Go.Proofs.Try.f60 plan60 c60 ((), (a0, ()))).den = g60 a0 := by kernel_rfl

noncomputable def g31_s0 (a0 : (Int × (Sp07.Tp × (Sp07.To × Unit)))) : (Option (Sum (Int × (Sp07.Tp × (Sp07.To × Unit))) (Sp07.Tp × (Sp07.To × Unit)))) :=
  (bif (decide (a0.1 < (Int.ofNat a0.2.2.1.1.length))) then (Option.bind (Sp07.on ((Sp07.wf a0.2.1) && (Sp07.small (3 : Int))) (Sp07.one a0.2.1 (3 : Int))) (fun y1 => (bif ((decide (0 ≤ a0.1)) && (decide (a0.1 < (Int.ofNat a0.2.2.1.1.length)))) then (bif (Nat.blt (Int.toNat a0.1) a0.2.2.1.1.length) then (some (.inl ((IntKind.wrap .i64 (a0.1 + (1 : Int))), (y1.2, (((List.set a0.2.2.1.1 (Int.toNat a0.1) ((List.getD a0.2.2.1.1 (Int.toNat a0.1) (0, false, ())).1, ((!y1.1), ()))), a0.2.2.1.2), ()))))) else none) else none))) else (some (.inr a0.2)))
noncomputable def g31 (a0 : (List Int)) (a1 : Int) (a2 : Int) : (Option (Sp07.To × Sp07.Tp)) :=
  (Option.bind (Sp07.on (((Sp07.wf (a0, (a1, ()))) && (Sp07.inside a2 (1 : Int) (50 : Int))) && (Sp07.small (0 : Int))) (Sp07.topo (a0, (a1, ())) a2 (0 : Int))) (fun y3 => (Option.bind (Loop g31_s0 ((0 : Int), (y3.2, (y3.1, ())))) (fun y4 => (some (y4.2.1, y4.1))))))
theorem g31_eq (a0 : (List Int)) (a1 : Int) (a2 : Int) : (evF (fun _ _ => Loop) E31 G31 Go.Proofs.Try.f31 plan31 c31 ((a0, (a1, ())), (a2, ()))).den = g31 a0 a1 a2 := by kernel_rfl

noncomputable def g32 (a0 : (List Int)) (a1 : Int) (a2 : (List Sp07.Rt)) (a3 : (List Sp07.Lk)) (a4 : Int) : (Option (Int × Sp07.Tp)) :=
  (Option.bind (bif (decide (a4 > (0 : Int))) then (Option.bind (Sp07.on ((Sp07.wf (a0, (a1, ()))) && (Sp07.small a4)) (Sp07.one (a0, (a1, ())) a4)) (fun (y5 : (Bool × Sp07.Tp)) => (bif (!y5.1) then (some (y5.2, ((decide ((Int.ofNat a2.length) = (0 : Int))), ()))) else (some (y5.2, (true, ())))))) else (some ((a0, (a1, ())), ((decide ((Int.ofNat a2.length) = (0 : Int))), ())))) (fun (y5 : (Sp07.Tp × (Bool × Unit))) => (bif y5.2.1 then (Option.bind (Sp07.on (((Sp07.wf y5.1) && (decide (0 < 6))) && (decide (6 ≤ 1000))) (Sp07.pick y5.1 ((0 : Int) :: ((1 : Int) :: ((2 : Int) :: ((7 : Int) :: ((77 : Int) :: ((-1 : Int) :: [])))))))) (fun (y6 : (Int × Sp07.Tp)) => (some y6))) else (Option.bind (Sp07.on (Sp07.wf y5.1) (Sp07.next y5.1 (Int.ofNat a2.length))) (fun (y6 : (Int × Sp07.Tp)) => (bif ((decide (0 ≤ y6.1)) && (decide (y6.1 < (Int.ofNat a2.length)))) then (some ((List.getD a2 (Int.toNat y6.1) (0, false, ())).1, y6.2)) else none))))))
theorem g32_eq (a0 : (List Int)) (a1 : Int) (a2 : (List Sp07.Rt)) (a3 : (List Sp07.Lk)) (a4 : Int) : (evF (fun _ _ => Loop) E32 G32 Go.Proofs.Try.f32 plan32 c32 ((a0, (a1, ())), ((a2, (a3, ())), (a4, ())))).den = g32 a0 a1 a2 a3 a4 := by kernel_rfl

noncomputable def g9 (a0 : (List Int)) (a1 : Int) (a2 : Int) (a3 : (List Sp07.Rc)) : (Option (Bool × Unit)) :=
  (Option.bind (Sp07.on (((Sp07.wf (Sp07.tape a0)) && (Sp07.inside (7 : Int) (1 : Int) (50 : Int))) && (Sp07.small (6 : Int))) (Sp07.topo (Sp07.tape a0) (7 : Int) (6 : Int))) (fun (y4 : (Sp07.To × Sp07.Tp)) => (Option.bind (Sp07.on (Sp07.wf y4.2) (Sp07.next y4.2 (2 : Int))) (fun (y5 : (Int × Sp07.Tp)) => (Option.bind (bif (decide (y5.1 = (0 : Int))) then (Option.bind (Sp07.on ((Sp07.wf y5.2) && (Sp07.inside (7 : Int) (1 : Int) (50 : Int))) (Sp07.mixed y5.2 (7 : Int))) (fun (y6 : (Sp07.To × Sp07.Tp)) => (some (y6.1, (y6.2, ()))))) else (some (y4.1, (y5.2, ())))) (fun (y6 : (Sp07.To × (Sp07.Tp × Unit))) => (Option.bind (Sp07.on ((Sp07.wf y6.2.1) && (Sp07.inside (4 : Int) (0 : Int) (1000 : Int))) (Sp07.advert y6.2.1 (1 : Int) (4 : Int))) (fun (y7 : (Sp07.Ad × Sp07.Tp)) => (bif (Nat.ble ((0 + y7.1.2.2.2.2.1.length) * 24) 140737488355328) then (Option.bind (Sp07.on (((Sp07.wf y7.2) && (Sp07.small (4 : Int))) && (decide (y6.1.1.length ≤ 1000))) (Sp07.routerT y7.2 y6.1 (4 : Int))) (fun (y8 : (Int × Sp07.Tp)) => (Option.bind (Sp07.on (((Sp07.wf y8.2) && (decide (0 < 6))) && (decide (6 ≤ 1000))) (Sp07.pick y8.2 ((1 : Int) :: ((2 : Int) :: ((1000000 : Int) :: ((0 : Int) :: ((1000001 : Int) :: ((-1 : Int) :: [])))))))) (fun (y9 : (Int × Sp07.Tp)) => (Option.bind (bif (!(!(Sp07.sameA (Sp07.advOf y6.1 y8.1 y9.1 ([] ++ y7.1.2.2.2.2.1)).1 (Sp07.advOf y6.1 y8.1 y9.1 ([] ++ y7.1.2.2.2.2.1)).1))) then (some ((!(decide ((Sp07.advOf y6.1 y8.1 y9.1 ([] ++ y7.1.2.2.2.2.1)).2.1 = (Sp07.advOf y6.1 y8.1 y9.1 ([] ++ y7.1.2.2.2.2.1)).2.1))), ())) else (some (true, ()))) (fun (y10 : (Bool × Unit)) => (bif y10.1 then (some (false, ())) else (bif (decide ((Int.ofNat a3.length) > (50 : Int))) then (some (true, ())) else (Option.bind (bif (Sp07.sameA (Sp07.advOf y6.1 a1 a2 a3).1 (Sp07.advOf y6.1 a1 a2 a3).1) then (bif (decide ((Sp07.advOf y6.1 a1 a2 a3).2.1 = (Sp07.advOf y6.1 a1 a2 a3).2.1)) then (some (true, ())) else (some (false, ()))) else (some (false, ()))) (fun (y11 : (Bool × Unit)) => (some y11))))))))))) else none)))))))))
theorem g9_eq (a0 : (List Int)) (a1 : Int) (a2 : Int) (a3 : (List Sp07.Rc)) : (evF (fun _ _ => Loop) E9 G9 Go.Proofs.Try.f9 plan9 c9 ((), (a0, (a1, (a2, (a3, ())))))).den = g9 a0 a1 a2 a3 := by kernel_rfl
end Go.Abs.C07

namespace Go.Abs.C07
open Go Go.Abs
set_option maxRecDepth 20000
set_option linter.unusedVariables false
noncomputable def g30_s0 (a0 : (Int × Sp07.Tp)) (a1 : (Sp07.To × (Int × Unit))) : (Option (Sum (Sp07.To × (Int × Unit)) (Sp07.To × Unit))) :=
  (bif (decide (a1.2.1 ≤ a0.1)) then (bif (Nat.ble ((a1.1.1.length + 1) * 16) 140737488355328) then (some (.inl (((a1.1.1 ++ ((a1.2.1, (true, ())) :: [])), a1.1.2), ((IntKind.wrap .i64 (a1.2.1 + (1 : Int))), ())))) else none) else (some (.inr (a1.1, ()))))
noncomputable def g30_s1 (a0 : (Int × Sp07.Tp)) (a1 : (Int × (Sp07.Tp × (Sp07.To × Unit)))) (a2 : (Int × Sp07.Tp)) (a3 : (Bool × Sp07.Tp)) (a4 : (Int × (Sp07.Tp × (Sp07.To × Unit)))) : (Option (Sum (Int × (Sp07.Tp × (Sp07.To × Unit))) (Sp07.Tp × (Sp07.To × Unit)))) :=
  (bif (decide (a4.1 < a1.1)) then (Option.bind (bif (decide (a4.1 = a2.1)) then (bif (!(!a3.1)) then (Option.bind (Sp07.on ((Sp07.wf a4.2.1) && (Sp07.small (3 : Int))) (Sp07.one a4.2.1 (3 : Int))) (fun (y5 : (Bool × Sp07.Tp)) => (some (y5.2, (y5.1, ()))))) else (some (a4.2.1, (true, ())))) else (Option.bind (Sp07.on ((Sp07.wf a4.2.1) && (Sp07.small (3 : Int))) (Sp07.one a4.2.1 (3 : Int))) (fun (y5 : (Bool × Sp07.Tp)) => (some (y5.2, (y5.1, ())))))) (fun (y5 : (Sp07.Tp × (Bool × Unit))) => (Option.bind (bif y5.2.1 then (Option.bind (Sp07.on (((Sp07.wf y5.1) && (Sp07.small (1 : Int))) && (Sp07.small a0.1)) (Sp07.range y5.1 (1 : Int) a0.1)) (fun (y6 : (Int × Sp07.Tp)) => (Option.bind (Sp07.on (((Sp07.wf y6.2) && (Sp07.small (1 : Int))) && (Sp07.small a0.1)) (Sp07.range y6.2 (1 : Int) a0.1)) (fun (y7 : (Int × Sp07.Tp)) => (Option.bind (Sp07.on (Sp07.wf y7.2) (Sp07.next y7.2 (4 : Int))) (fun (y8 : (Int × Sp07.Tp)) => (bif (Nat.ble ((a4.2.2.1.2.1.length + 1) * 40) 140737488355328) then (some (y8.2, ((a4.2.2.1.1, ((a4.2.2.1.2.1 ++ ((a4.1, (a1.1, (y6.1, (y7.1, (y8.1, ()))))) :: [])), ())), ()))) else none))))))) else (some (y5.1, a4.2.2))) (fun (y6 : (Sp07.Tp × (Sp07.To × Unit))) => (some (.inl ((IntKind.wrap .i64 (a4.1 + (1 : Int))), y6))))))) else (some (.inr a4.2)))
noncomputable def g30_s2 (a0 : (Int × Sp07.Tp)) (a1 : (Int × Sp07.Tp)) (a2 : (Int × (Sp07.Tp × (Sp07.To × Unit)))) : (Option (Sum (Int × (Sp07.Tp × (Sp07.To × Unit))) (Sp07.Tp × (Sp07.To × Unit)))) :=
  (bif (decide (a2.1 ≤ a0.1)) then (Option.bind (Sp07.on (((Sp07.wf a2.2.1) && (Sp07.small (1 : Int))) && (Sp07.small (IntKind.wrap .i64 (a2.1 - (1 : Int))))) (Sp07.range a2.2.1 (1 : Int) (IntKind.wrap .i64 (a2.1 - (1 : Int))))) (fun y3 => (Option.bind (Sp07.on ((Sp07.wf y3.2) && (Sp07.small (9 : Int))) (Sp07.one y3.2 (9 : Int))) (fun y4 => (Option.bind (Loop (@g30_s1 a1 a2 y3 y4) ((1 : Int), (y4.2, a2.2.2))) (fun y5 => (some (.inl ((IntKind.wrap .i64 (a2.1 + (1 : Int))), y5))))))))) else (some (.inr a2.2)))
noncomputable def g30_s3 (a0 : (Sp07.To × (Int × Unit))) : (Option (Sum (Sp07.To × (Int × Unit)) (Sp07.To × Unit))) :=
  (bif (decide (a0.2.1 < (75 : Int))) then (bif (Nat.ble ((a0.1.1.length + 1) * 16) 140737488355328) then (some (.inl (((a0.1.1 ++ ((a0.2.1, (false, ())) :: [])), a0.1.2), ((IntKind.wrap .i64 (a0.2.1 + (1 : Int))), ())))) else none) else (some (.inr (a0.1, ()))))
noncomputable def g30 (a0 : (List Int)) (a1 : Int) (a2 : Int) (a3 : Int) : (Option (Sp07.To × Sp07.Tp)) :=
  (Option.bind (Sp07.on (((Sp07.wf (a0, (a1, ()))) && (Sp07.small (1 : Int))) && (Sp07.small a2)) (Sp07.range (a0, (a1, ())) (1 : Int) a2)) (fun (y4 : (Int × Sp07.Tp)) => (Option.bind (Loop (@g30_s0 y4) (([], ([], ())), ((1 : Int), ()))) (fun (y5 : (Sp07.To × Unit)) => (Option.bind (Sp07.on (((Sp07.wf y4.2) && (decide (0 < 4))) && (decide (4 ≤ 1000))) (Sp07.pick y4.2 ((1 : Int) :: ((2 : Int) :: ((2 : Int) :: ((5 : Int) :: [])))))) (fun (y6 : (Int × Sp07.Tp)) => (Option.bind (Loop (@g30_s2 y4 y6) ((2 : Int), (y6.2, y5))) (fun (y7 : (Sp07.Tp × (Sp07.To × Unit))) => (Option.bind (Sp07.on (decide (y7.2.1.2.1.length ≤ 10000)) ((Sp07.ord y7.2.1.2.1), ())) (fun (y8 : ((List Sp07.Lk) × Unit)) => (Option.bind (bif (decide (a3 > (0 : Int))) then (Option.bind (Sp07.on ((Sp07.wf y7.1) && (Sp07.small a3)) (Sp07.one y7.1 a3)) (fun (y9 : (Bool × Sp07.Tp)) => (some (y9.2, (y9.1, ()))))) else (some (y7.1, (false, ())))) (fun (y9 : (Sp07.Tp × (Bool × Unit))) => (Option.bind (bif y9.2.1 then (Option.bind (Sp07.on (Sp07.wf y9.1) (Sp07.next y9.1 (7 : Int))) (fun (y10 : (Int × Sp07.Tp)) => (Option.bind (bif (decide (y10.1 = (0 : Int))) then (Option.bind (Sp07.on (((Sp07.wf y10.2) && (decide (0 < 5))) && (decide (5 ≤ 1000))) (Sp07.pick y10.2 ((0 : Int) :: ((1 : Int) :: ((99 : Int) :: ((100 : Int) :: ((-1 : Int) :: []))))))) (fun (y11 : (Int × Sp07.Tp)) => (bif (Nat.ble ((y7.2.1.1.length + 1) * 16) 140737488355328) then (some (((y7.2.1.1 ++ ((y11.1, (false, ())) :: [])), y8), (y11.2, ()))) else none))) else (Option.bind (bif (decide (y10.1 = (1 : Int))) then (Option.bind (Sp07.on (Sp07.wf y10.2) (Sp07.next y10.2 (4 : Int))) (fun (y11 : (Int × Sp07.Tp)) => (Option.bind (Sp07.on (Sp07.wf y11.2) (Sp07.next y11.2 (4 : Int))) (fun (y12 : (Int × Sp07.Tp)) => (bif (Nat.ble ((y8.1.length + 1) * 40) 140737488355328) then (some (y12.2, ((y7.2.1.1, ((y8.1 ++ ((y11.1, (y12.1, ((1 : Int), ((1 : Int), ((0 : Int), ()))))) :: [])), ())), ()))) else none))))) else (Option.bind (bif (decide (y10.1 = (2 : Int))) then (Option.bind (bif (decide ((Int.ofNat y8.1.length) > (0 : Int))) then (Option.bind (Sp07.on (Sp07.wf y10.2) (Sp07.next y10.2 (Int.ofNat y8.1.length))) (fun (y11 : (Int × Sp07.Tp)) => (Option.bind (Sp07.on (Sp07.wf y11.2) (Sp07.wild y11.2)) (fun (y12 : (Int × Sp07.Tp)) => (bif ((decide (0 ≤ y11.1)) && (decide (y11.1 < (Int.ofNat y8.1.length)))) then (bif (Nat.blt (Int.toNat y11.1) y8.1.length) then (some ((y7.2.1.1, ((List.set y8.1 (Int.toNat y11.1) ((List.getD y8.1 (Int.toNat y11.1) (0, 0, 0, 0, 0, ())).1, ((List.getD y8.1 (Int.toNat y11.1) (0, 0, 0, 0, 0, ())).2.1, (y12.1, (List.getD y8.1 (Int.toNat y11.1) (0, 0, 0, 0, 0, ())).2.2.2)))), ())), (y12.2, ()))) else none) else none))))) else (some ((y7.2.1.1, y8), (y10.2, ())))) (fun (y11 : (Sp07.To × (Sp07.Tp × Unit))) => (some y11))) else (Option.bind (bif (decide (y10.1 = (3 : Int))) then (Option.bind (bif (decide ((Int.ofNat y8.1.length) > (0 : Int))) then (Option.bind (Sp07.on (Sp07.wf y10.2) (Sp07.next y10.2 (Int.ofNat y8.1.length))) (fun (y11 : (Int × Sp07.Tp)) => (Option.bind (Sp07.on (Sp07.wf y11.2) (Sp07.wild y11.2)) (fun (y12 : (Int × Sp07.Tp)) => (bif ((decide (0 ≤ y11.1)) && (decide (y11.1 < (Int.ofNat y8.1.length)))) then (bif (Nat.blt (Int.toNat y11.1) y8.1.length) then (some ((y7.2.1.1, ((List.set y8.1 (Int.toNat y11.1) ((List.getD y8.1 (Int.toNat y11.1) (0, 0, 0, 0, 0, ())).1, ((List.getD y8.1 (Int.toNat y11.1) (0, 0, 0, 0, 0, ())).2.1, ((List.getD y8.1 (Int.toNat y11.1) (0, 0, 0, 0, 0, ())).2.2.1, (y12.1, (List.getD y8.1 (Int.toNat y11.1) (0, 0, 0, 0, 0, ())).2.2.2.2))))), ())), (y12.2, ()))) else none) else none))))) else (some ((y7.2.1.1, y8), (y10.2, ())))) (fun (y11 : (Sp07.To × (Sp07.Tp × Unit))) => (some (y11.2.1, (y11.1, ()))))) else (Option.bind (bif (decide (y10.1 = (4 : Int))) then (Option.bind (bif (decide ((Int.ofNat y8.1.length) > (0 : Int))) then (Option.bind (Sp07.on (Sp07.wf y10.2) (Sp07.next y10.2 (Int.ofNat y8.1.length))) (fun (y11 : (Int × Sp07.Tp)) => (Option.bind (Sp07.on (Sp07.wf y11.2) (Sp07.wild y11.2)) (fun (y12 : (Int × Sp07.Tp)) => (bif ((decide (0 ≤ y11.1)) && (decide (y11.1 < (Int.ofNat y8.1.length)))) then (bif (Nat.blt (Int.toNat y11.1) y8.1.length) then (some ((y7.2.1.1, ((List.set y8.1 (Int.toNat y11.1) ((List.getD y8.1 (Int.toNat y11.1) (0, 0, 0, 0, 0, ())).1, ((List.getD y8.1 (Int.toNat y11.1) (0, 0, 0, 0, 0, ())).2.1, ((List.getD y8.1 (Int.toNat y11.1) (0, 0, 0, 0, 0, ())).2.2.1, ((List.getD y8.1 (Int.toNat y11.1) (0, 0, 0, 0, 0, ())).2.2.2.1, (y12.1, ())))))), ())), (y12.2, ()))) else none) else none))))) else (some ((y7.2.1.1, y8), (y10.2, ())))) (fun (y11 : (Sp07.To × (Sp07.Tp × Unit))) => (some y11))) else (Option.bind (bif (decide (y10.1 = (5 : Int))) then (Option.bind (bif (decide ((Int.ofNat y8.1.length) > (0 : Int))) then (Option.bind (Sp07.on (Sp07.wf y10.2) (Sp07.next y10.2 (Int.ofNat y8.1.length))) (fun (y11 : (Int × Sp07.Tp)) => (bif ((decide (0 ≤ y11.1)) && (decide (y11.1 < (Int.ofNat y8.1.length)))) then (bif (Nat.blt (Int.toNat y11.1) y8.1.length) then (bif (Nat.ble ((y8.1.length + 1) * 40) 140737488355328) then (some (y11.2, ((y7.2.1.1, ((y8.1 ++ ((List.getD y8.1 (Int.toNat y11.1) (0, 0, 0, 0, 0, ())) :: [])), ())), ()))) else none) else none) else none))) else (some (y10.2, ((y7.2.1.1, y8), ())))) (fun (y11 : (Sp07.Tp × (Sp07.To × Unit))) => (some y11))) else (Option.bind (Loop g30_s3 ((y7.2.1.1, y8), ((50 : Int), ()))) (fun (y11 : (Sp07.To × Unit)) => (some (y10.2, y11))))) (fun (y11 : (Sp07.Tp × (Sp07.To × Unit))) => (some (y11.2.1, (y11.1, ())))))) (fun (y11 : (Sp07.To × (Sp07.Tp × Unit))) => (some (y11.2.1, (y11.1, ())))))) (fun (y11 : (Sp07.Tp × (Sp07.To × Unit))) => (some (y11.2.1, (y11.1, ())))))) (fun (y11 : (Sp07.To × (Sp07.Tp × Unit))) => (some (y11.2.1, (y11.1, ())))))) (fun (y11 : (Sp07.Tp × (Sp07.To × Unit))) => (some (y11.2.1, (y11.1, ())))))) (fun (y11 : (Sp07.To × (Sp07.Tp × Unit))) => (some y11))))) else (some ((y7.2.1.1, y8), (y9.1, ())))) (fun (y10 : (Sp07.To × (Sp07.Tp × Unit))) => (some (y10.1, y10.2.1))))))))))))))))
theorem g30_eq (a0 : (List Int)) (a1 : Int) (a2 : Int) (a3 : Int) : (evF (fun _ _ => Loop) E30 G30 Go.Proofs.Try.f30 plan30 c30 ((a0, (a1, ())), (a2, (a3, ())))).den = g30 a0 a1 a2 a3 := by kernel_rfl
end Go.Abs.C07

namespace Sp07
open Go Go.Abs

theorem on_some {α : Type} {b : Bool} {x y : α} (h : on b x = some y) : b = true ∧ x = y := by
  unfold on at h
  cases b with
  | false => cases h
  | true => exact ⟨rfl, Option.some.inj h⟩
theorem on_true {α : Type} {b : Bool} {x : α} (h : b = true) : on b x = some x := by rw [h]; rfl

def bytesOk (l : List Int) : Prop := ∀ x ∈ l, 0 ≤ x ∧ x < 256

theorem bitOf_testBit {x : Int} (h : 0 ≤ x) (j : Nat) : bitOf x j = x.toNat.testBit j := by
  unfold bitOf
  rw [Nat.testBit_eq_decide_div_mod_eq, ← toNat_div_pow h]
  have h2 : 0 ≤ x / 2 ^ j := Int.ediv_nonneg h (Int.le_of_lt (pow2_pos j))
  congr 1
  apply propext
  omega
theorem bitOf_zero (j : Nat) : bitOf 0 j = false := by rw [bitOf_testBit (by omega)]; simp

theorem byte_self : ∀ n : Fin 256, n.val = byteOf (fun j => n.val.testBit (7 - j)) := by decide +kernel
theorem ext_byte {x y : Int} (hx : 0 ≤ x ∧ x < 256) (hy : 0 ≤ y ∧ y < 256) (h : ∀ j, j < 8 → bitOf x j = bitOf y j) : x = y := by
  have k : ∀ j, j < 8 → x.toNat.testBit j = y.toNat.testBit j := fun j hj => by
    rw [← bitOf_testBit hx.1, ← bitOf_testBit hy.1]; exact h j hj
  have e1 := byte_self ⟨x.toNat, by omega⟩
  have e2 := byte_self ⟨y.toNat, by omega⟩
  simp only at e1 e2
  have : x.toNat = y.toNat := by
    rw [e1, e2]
    simp only [byteOf, k 0 (by omega), k 1 (by omega), k 2 (by omega), k 3 (by omega), k 4 (by omega), k 5 (by omega), k 6 (by omega), k 7 (by omega), Nat.sub_self, Nat.sub_zero, Nat.reduceSub]
  omega
theorem byteOf_lt (f : Nat → Bool) : byteOf f < 256 := by
  unfold byteOf
  have (b : Bool) : b.toNat ≤ 1 := by cases b <;> decide
  have h0 := this (f 0); have h1 := this (f 1); have h2 := this (f 2); have h3 := this (f 3)
  have h4 := this (f 4); have h5 := this (f 5); have h6 := this (f 6); have h7 := this (f 7)
  omega
theorem bitOf_byteOf (f : Nat → Bool) (j : Nat) (h : j < 8) : bitOf (byteOf f : Nat) (7 - j) = f j := by
  rw [bitOf_testBit (by omega)]
  have key : ∀ b0 b1 b2 b3 b4 b5 b6 b7 : Bool, ∀ j : Fin 8, (b0.toNat * 128 + b1.toNat * 64 + b2.toNat * 32 + b3.toNat * 16 + b4.toNat * 8 + b5.toNat * 4 + b6.toNat * 2 + b7.toNat).testBit (7 - j.val) =
    (match j with | 0 => b0 | 1 => b1 | 2 => b2 | 3 => b3 | 4 => b4 | 5 => b5 | 6 => b6 | 7 => b7) := by decide +kernel
  have := key (f 0) (f 1) (f 2) (f 3) (f 4) (f 5) (f 6) (f 7) ⟨j, h⟩
  rw [show ((byteOf f : Nat) : Int).toNat = byteOf f from rfl]
  unfold byteOf
  rw [this]
  match j, h with
  | 0, _ => rfl
  | 1, _ => rfl
  | 2, _ => rfl
  | 3, _ => rfl
  | 4, _ => rfl
  | 5, _ => rfl
  | 6, _ => rfl
  | 7, _ => rfl

theorem bitAt_ge {l : List Int} {i : Nat} (h : 8 * l.length ≤ i) : bitAt l i = false := by
  unfold bitAt
  rw [getD_ge (by omega), bitOf_zero]
theorem bitAt_app0 (l : List Int) (i : Nat) : bitAt (l ++ [0]) i = bitAt l i := by
  unfold bitAt
  rw [getD_append0]
theorem bitAt_set {l : List Int} {k : Nat} {v : Int} (h : k < l.length) (i : Nat) : bitAt (l.set k v) i = if k = i / 8 then bitOf v (7 - i % 8) else bitAt l i := by
  unfold bitAt
  rw [getD_set h]
  split <;> rfl
theorem list_ext {l l' : List Int} (hl : l.length = l'.length) (h1 : bytesOk l) (h2 : bytesOk l') (h : ∀ i, i < 8 * l.length → bitAt l i = bitAt l' i) : l = l' := by
  refine List.ext_getElem hl fun i hi hi' => ?_
  refine ext_byte (h1 _ (List.getElem_mem hi)) (h2 _ (List.getElem_mem hi')) fun j hj => ?_
  have := h (8 * i + (7 - j)) (by omega)
  unfold bitAt at this
  have e1 : (8 * i + (7 - j)) / 8 = i := by omega
  have e2 : 7 - (8 * i + (7 - j)) % 8 = j := by omega
  rw [e1, e2] at this
  simpa [List.getD_eq_getElem?_getD, hi, hi'] using this

theorem pack_length (bs : List Bool) : (pack bs).length = (bs.length + 7) / 8 := by simp [pack]
theorem pack_ok (bs : List Bool) : bytesOk (pack bs) := by
  intro x hx
  simp only [pack, List.mem_map] at hx
  obtain ⟨i, _, rfl⟩ := hx
  have := byteOf_lt (fun j => bs.getD (8 * i + j) false)
  omega
theorem bitAt_pack (bs : List Bool) (i : Nat) : bitAt (pack bs) i = bs.getD i false := by
  by_cases h : i / 8 < (bs.length + 7) / 8
  · unfold bitAt
    have : (pack bs).getD (i / 8) 0 = (byteOf fun j => bs.getD (8 * (i / 8) + j) false : Nat) := by
      simp [pack, List.getD_eq_getElem?_getD, List.getElem?_map, List.getElem?_range h]
    rw [this, bitOf_byteOf _ _ (by omega)]
    congr 1
    omega
  · rw [bitAt_ge (by rw [pack_length]; omega), getD_ge (by omega)]

theorem bitsR_length (l : List Int) (i n : Nat) : (bitsR l i n).length = n := by simp [bitsR]
theorem bitsR_getD (l : List Int) (i n j : Nat) : (bitsR l i n).getD j false = if j < n then bitAt l (i + j) else false := by
  by_cases h : j < n
  · simp [bitsR, List.getD_eq_getElem?_getD, h]
  · rw [getD_ge (by rw [bitsR_length]; omega)]; simp [h]
theorem bits_length (s : S) : (bits s).length = s.2.1.toNat := bitsR_length ..
theorem bits_getD (s : S) (j : Nat) : (bits s).getD j false = if j < s.2.1.toNat then bitAt s.1 j else false := by
  unfold bits
  rw [bitsR_getD, Nat.zero_add]
theorem getD_append {α : Type} (a b : List α) (i : Nat) (d : α) : (a ++ b).getD i d = if i < a.length then a.getD i d else b.getD (i - a.length) d := by
  simp only [List.getD_eq_getElem?_getD]
  split
  · rw [List.getElem?_append_left (by assumption)]
  · rw [List.getElem?_append_right (by omega)]
theorem vbits_length (v n : Nat) : (vbits v n).length = n := by simp [vbits]
theorem vbits_getD (v n i : Nat) : (vbits v n).getD i false = if i < n then v.testBit (n - 1 - i) else false := by
  by_cases h : i < n
  · simp [vbits, List.getD_eq_getElem?_getD, h]
  · rw [getD_ge (by rw [vbits_length]; omega)]; simp [h]
theorem bools_ext {a b : List Bool} (h : a.length = b.length) (k : ∀ i, i < a.length → a.getD i false = b.getD i false) : a = b := by
  refine List.ext_getElem h fun i hi hi' => ?_
  have := k i hi
  simpa [List.getD_eq_getElem?_getD, hi, hi'] using this
theorem bits_enc (bs : List Bool) : bits (enc bs) = bs := by
  refine bools_ext (by rw [bits_length]; rfl) fun i hi => ?_
  rw [bits_length] at hi
  rw [bits_getD, if_pos hi]
  exact bitAt_pack bs i

theorem tail_iff {l : List Int} {n : Nat} (h : 8 * l.length < n + 8) : tail l n = true ↔ ∀ i, n ≤ i → bitAt l i = false := by
  simp only [tail, List.all_eq_true, List.mem_range, Bool.or_eq_true, decide_eq_true_eq, Bool.not_eq_true']
  constructor
  · intro k i hi
    by_cases h8 : 8 * l.length ≤ i
    · exact bitAt_ge h8
    · rcases k (i - n) (by omega) with k | k
      · omega
      · rwa [show n + (i - n) = i by omega] at k
  · intro k j _
    exact .inr (k _ (by omega))
theorem shape_iff {s : S} : shape s = true ↔ 0 ≤ s.2.1 ∧ s.2.1 ≤ 8192 ∧ (s.1.length : Int) = (s.2.1 + 7) / 8 := by
  simp [shape, and_assoc]
theorem valid_iff {s : S} : valid s = true ↔ 0 ≤ s.2.1 ∧ s.2.1 ≤ 8192 ∧ (s.1.length : Int) = (s.2.1 + 7) / 8 ∧ ∀ i, s.2.1.toNat ≤ i → bitAt s.1 i = false := by
  unfold valid
  rw [Bool.and_eq_true, shape_iff]
  constructor
  · rintro ⟨⟨h1, h2, h3⟩, h4⟩
    exact ⟨h1, h2, h3, (tail_iff (by omega)).1 h4⟩
  · rintro ⟨h1, h2, h3, h4⟩
    exact ⟨⟨h1, h2, h3⟩, (tail_iff (by omega)).2 h4⟩
theorem valid_enc {bs : List Bool} (h : bs.length ≤ 8192) : valid (enc bs) = true := by
  refine valid_iff.2 ⟨by simp [enc], by simp [enc]; omega, by simp [enc, pack_length], fun i hi => ?_⟩
  show bitAt (pack bs) i = false
  rw [bitAt_pack, getD_ge (by simpa [enc] using hi)]
theorem eq_enc {l : List Int} {n : Int} {bs : List Bool} (h1 : bytesOk l) (hn : n = bs.length) (hl : (l.length : Int) = (n + 7) / 8) (hb : ∀ i, i < 8 * l.length → bitAt l i = bs.getD i false) : ((l, n, ()) : S) = enc bs := by
  have : l = pack bs := list_ext (by rw [pack_length]; omega) h1 (pack_ok bs) fun i hi => by rw [bitAt_pack]; exact hb i hi
  unfold enc
  rw [this, hn]
theorem enc_bits {s : S} (h : valid s = true) (hb : bytesOk s.1) : enc (bits s) = s := by
  obtain ⟨l, n, ⟨⟩⟩ := s
  obtain ⟨h1, h2, h3, h4⟩ := valid_iff.1 h
  simp only at h1 h2 h3 h4 hb
  refine (eq_enc hb (by rw [bits_length]; simp only; omega) h3 fun i _ => ?_).symm
  rw [bits_getD]
  split
  · rfl
  · rename_i k; exact h4 i (by simp only at k; omega)
theorem enc_ok (bs : List Bool) : bytesOk (enc bs).1 := pack_ok bs
theorem bytesOk_app {l m : List Int} (h : bytesOk l) (h2 : bytesOk m) : bytesOk (l ++ m) := fun x hx => by
  rcases List.mem_append.1 hx with k | k
  · exact h x k
  · exact h2 x k
theorem bytesOk_one {x : Int} (h : 0 ≤ x ∧ x < 256) : bytesOk [x] := fun y hy => by
  simp only [List.mem_singleton] at hy; subst hy; exact h
theorem bytesOk_set {l : List Int} (h : bytesOk l) {i : Nat} {x : Int} (hx : 0 ≤ x ∧ x < 256) : bytesOk (l.set i x) := fun y hy => by
  rcases List.mem_or_eq_of_mem_set hy with k | k
  · exact h y k
  · subst k; exact hx
theorem bytesOk_getD {l : List Int} (h : bytesOk l) (i : Nat) : 0 ≤ l.getD i 0 ∧ l.getD i 0 < 256 := by
  by_cases hi : i < l.length
  · exact h _ (getD_mem hi)
  · rw [getD_ge (by omega)]; omega

theorem valOf_snoc (bs : List Bool) (b : Bool) : valOf (bs ++ [b]) = 2 * valOf bs + b.toNat := by simp [valOf]
theorem valOf_lt (bs : List Bool) : valOf bs < 2 ^ bs.length := by
  suffices h : ∀ n (bs : List Bool), bs.length = n → valOf bs < 2 ^ n from h _ bs rfl
  intro n
  induction n with
  | zero => intro bs h; rw [List.length_eq_zero_iff.1 h]; decide
  | succ n ih =>
    intro bs h
    obtain ⟨l, b, rfl⟩ : ∃ l b, bs = l ++ [b] := by
      have hne : bs ≠ [] := by intro k; subst k; simp at h
      exact ⟨bs.dropLast, bs.getLast hne, (List.dropLast_concat_getLast hne).symm⟩
    rw [valOf_snoc]
    have := ih l (by simpa using h)
    have hb : b.toNat ≤ 1 := by cases b <;> decide
    rw [Nat.pow_succ]; omega
theorem vbits_snoc (v n : Nat) : vbits v (n + 1) = vbits (v / 2) n ++ [v.testBit 0] := by
  refine bools_ext (by simp [vbits_length]) fun i hi => ?_
  rw [vbits_length] at hi
  rw [vbits_getD, if_pos hi, getD_append, vbits_length]
  split
  · rename_i k
    rw [vbits_getD, if_pos k, Nat.testBit_div_two]
    congr 1; omega
  · have : i = n := by omega
    subst this
    simp
theorem vbits_valOf (bs : List Bool) : vbits (valOf bs) bs.length = bs := by
  suffices h : ∀ n (bs : List Bool), bs.length = n → vbits (valOf bs) n = bs from h _ bs rfl
  intro n
  induction n with
  | zero => intro bs h; rw [List.length_eq_zero_iff.1 h]; rfl
  | succ n ih =>
    intro bs h
    obtain ⟨l, b, rfl⟩ : ∃ l b, bs = l ++ [b] := by
      have hne : bs ≠ [] := by intro k; subst k; simp at h
      exact ⟨bs.dropLast, bs.getLast hne, (List.dropLast_concat_getLast hne).symm⟩
    rw [vbits_snoc, valOf_snoc]
    have e1 : (2 * valOf l + b.toNat) / 2 = valOf l := by cases b <;> simp <;> omega
    have e2 : (2 * valOf l + b.toNat).testBit 0 = b := by cases b <;> simp [Nat.testBit_zero]
    rw [e1, e2, ih l (by simpa using h)]
theorem bitsR_snoc (l : List Int) (i n : Nat) : bitsR l i (n + 1) = bitsR l i n ++ [bitAt l (i + n)] := by
  simp [bitsR, List.range_succ]
theorem bitsR_add (l : List Int) (i n m : Nat) : bitsR l i (n + m) = bitsR l i n ++ bitsR l (i + n) m := by
  simp [bitsR, List.range_add, Nat.add_assoc]
theorem vbits_split {v n k : Nat} (h : k ≤ n) : vbits v n = (vbits v n).take k ++ vbits v (n - k) := by
  refine bools_ext (by simp [vbits_length]; omega) fun i hi => ?_
  rw [vbits_length] at hi
  rw [vbits_getD, if_pos hi, getD_append]
  simp only [List.length_take, vbits_length]
  rw [Nat.min_eq_left h]
  split
  · rename_i hk
    simp [List.getD_eq_getElem?_getD, List.getElem?_take, hk]
    have := vbits_getD v n i
    rw [if_pos hi, List.getD_eq_getElem?_getD] at this
    exact this.symm
  · rw [vbits_getD, if_pos (by omega)]
    congr 1; omega
end Sp07

namespace Go.Abs.C07
open Go Go.Proofs Sp07

abbrev B : Env := mkE tab gl 0 false []
theorem glue {f : Nat} {fn : Func} {n : Nat} {hp : Bool} {md : List (Nat × Nat)} (L : List (Nat × Con)) (hL : ∀ g con, lookC L g = some con → FunOk Try.prog B (g % 1000000) con) (plan : Plan) {c : Con}
    (hf : Try.prog.funcs[f]? = some fn) (hck : fnCheck (mkE tab gl n hp md) fn c = true)
    (hF : ∀ x y, (Ty.cons (lfTy c.pre) (shTy c.ps)).ok x → c.F x = some y → (evF (fun _ _ => Loop) (mkE tab gl n hp md) (lookC L) fn plan c x).den = some y) : FunOk Try.prog B f c :=
  FunOk.env (E := mkE tab gl n hp md) rfl (fun_ok (pok n hp md) mix (fun g con h => FunOk.env (E := B) rfl (hL g con h)) plan hf hck hF)

theorem dat {l : List Int} (h : (Ty.sl (.int .u8)).ok l) : l.length ≤ 140737488355328 ∧ bytesOk l := by
  obtain ⟨h1, h2⟩ := h
  have h1 : l.length * 1 ≤ 140737488355328 := h1
  exact ⟨by omega, fun x hx => has_u8 (h2 x hx)⟩

theorem g94_ok (a0 : Int) (r0 : IntKind.i64.has a0) (h : (decide (0 ≤ a0) && decide (a0 ≤ 1099511627776)) = true) : g94 a0 = some ((a0 + 7) / 8, ()) := by
  simp only [Bool.and_eq_true, decide_eq_true_eq] at h
  have e1 : IntKind.wrap .i64 (a0 + 7) = a0 + 7 := wi64 (by omega) (by omega)
  have e2 : Int.tdiv (a0 + 7) 8 = (a0 + 7) / 8 := tdiv_nn (by omega)
  have e3 : IntKind.wrap .i64 ((a0 + 7) / 8) = (a0 + 7) / 8 := wi64 (by omega) (by omega)
  unfold g94
  rw [e1, e2, e3]

theorem and_bit {w : Nat} (hw : 8 ≤ w) {x : Int} (h1 : 0 ≤ x) (h2 : x < 256) (m : Nat) : (BitVec.and (BitVec.ofInt w (x / 2 ^ m)) (BitVec.ofInt w 1)).toNat = (b2i (bitOf x m)).toNat := by
  have k1 : 0 ≤ x / 2 ^ m := Int.ediv_nonneg h1 (Int.le_of_lt (pow2_pos m))
  have k2 : x / 2 ^ m ≤ x := Int.ediv_le_self _ h1
  have k3 : (256 : Int) ≤ 2 ^ w := by
    rw [pow_cast]
    have := Nat.pow_le_pow_right (show 0 < 2 by omega) hw
    omega
  rw [bvand k1 (by omega) (by omega) (by omega), show Int.toNat 1 = 1 from rfl, Nat.and_one_is_mod]
  unfold bitOf b2i
  have : (x / 2 ^ m) % 2 = 0 ∨ (x / 2 ^ m) % 2 = 1 := by omega
  rcases this with k | k
  · simp only [k]
    have : (x / 2 ^ m).toNat % 2 = 0 := by omega
    rw [this]; rfl
  · simp only [k]
    have : (x / 2 ^ m).toNat % 2 = 1 := by omega
    rw [this]; rfl
theorem b2i_u64 (b : Bool) : IntKind.wrap .u64 (((b2i b).toNat : Nat) : Int) = b2i b := by cases b <;> decide
theorem b2i_u8 (b : Bool) : IntKind.wrap .u8 (((b2i b).toNat : Nat) : Int) = (((b2i b).toNat : Nat) : Int) := by cases b <;> decide
theorem b2i_bound (b : Bool) : 0 ≤ b2i b ∧ b2i b ≤ 1 := by cases b <;> decide

theorem g51_ok (a0 : (List Int)) (a1 : Int) (r0 : (Ty.sl (.int .u8)).ok a0) (r1 : IntKind.i64.has a1) (h : (decide (0 ≤ a1) && decide (a1 < 8 * (a0.length : Int))) = true) : g51 a0 a1 = some (Sp07.b2i (Sp07.bitAt a0 a1.toNat), ()) := by
  simp only [Bool.and_eq_true, decide_eq_true_eq] at h
  obtain ⟨hl, hb⟩ := dat r0
  have e1 : Int.tdiv a1 8 = a1 / 8 := tdiv_nn h.1
  have e2 : Int.tmod a1 8 = a1 % 8 := tmod_nn h.1
  have e3 : IntKind.wrap .i64 (a1 / 8) = a1 / 8 := wi64 (by omega) (by omega)
  have e4 : IntKind.wrap .i64 (7 - a1 % 8) = 7 - a1 % 8 := wi64 (by omega) (by omega)
  have e5 : IntKind.wrap .u64 (7 - a1 % 8) = 7 - a1 % 8 := wu64 (by omega) (by omega)
  have e6 : min (7 - a1 % 8).toNat 8 = (7 - a1 % 8).toNat := by omega
  have hx := bytesOk_getD hb (a1 / 8).toNat
  have k2 : a0.getD (a1 / 8).toNat 0 / 2 ^ (7 - a1 % 8).toNat ≤ a0.getD (a1 / 8).toNat 0 := Int.ediv_le_self _ hx.1
  have k1 : 0 ≤ a0.getD (a1 / 8).toNat 0 / 2 ^ (7 - a1 % 8).toNat := Int.ediv_nonneg hx.1 (Int.le_of_lt (pow2_pos _))
  have e7 : IntKind.wrap .u64 (a0.getD (a1 / 8).toNat 0 / 2 ^ (7 - a1 % 8).toNat) = a0.getD (a1 / 8).toNat 0 / 2 ^ (7 - a1 % 8).toNat := wu64 k1 (by omega)
  have e8 := and_bit (w := 64) (by omega) hx.1 hx.2 (7 - a1 % 8).toNat
  have c1 : (0 : Int) ≤ a1 / 8 := by omega
  have c2 : a1 / 8 < (a0.length : Int) := by omega
  have c3 : (0 : Int) ≤ 7 - a1 % 8 := by omega
  unfold g51
  simp only [e1, e2, e3, e4, e5, e6, pow2, fdiv_pow, e7, e8, b2i_u64, c1, c2, c3, decide_true, cond_true, Bool.and_self, Int.ofNat_eq_natCast]
  unfold bitAt
  rw [show (a1 / 8).toNat = a1.toNat / 8 by omega, show (7 - a1 % 8).toNat = 7 - a1.toNat % 8 by omega]

theorem g71_ok (a0 : (List Int)) (a1 : Int) (a2 : Int) (r0 : (Ty.sl (.int .u8)).ok a0) (r1 : IntKind.i64.has a1) (r2 : IntKind.i64.has a2) (h : (decide (0 ≤ a2) && decide (a2 < 8 * (a0.length : Int))) = true) : g71 a0 a1 a2 = some (Sp07.b2i (Sp07.bitAt a0 a2.toNat), ()) := by
  simp only [Bool.and_eq_true, decide_eq_true_eq] at h
  obtain ⟨hl, hb⟩ := dat r0
  have e1 : Int.tdiv a2 8 = a2 / 8 := tdiv_nn h.1
  have e2 : Int.tmod a2 8 = a2 % 8 := tmod_nn h.1
  have e3 : IntKind.wrap .i64 (a2 / 8) = a2 / 8 := wi64 (by omega) (by omega)
  have e4 : IntKind.wrap .i64 (7 - a2 % 8) = 7 - a2 % 8 := wi64 (by omega) (by omega)
  have e6 : min (7 - a2 % 8).toNat 8 = (7 - a2 % 8).toNat := by omega
  have hx := bytesOk_getD hb (a2 / 8).toNat
  have e8 := and_bit (w := 8) (by omega) hx.1 hx.2 (7 - a2 % 8).toNat
  have c1 : (0 : Int) ≤ a2 / 8 := by omega
  have c2 : a2 / 8 < (a0.length : Int) := by omega
  have c3 : (0 : Int) ≤ 7 - a2 % 8 := by omega
  unfold g71
  simp only [e1, e2, e3, e4, e6, pow2, fdiv_pow, e8, b2i_u8, b2i_u64, c1, c2, c3, decide_true, cond_true, Bool.and_self, Int.ofNat_eq_natCast]
  unfold bitAt
  rw [show (a2 / 8).toNat = a2.toNat / 8 by omega, show (7 - a2 % 8).toNat = 7 - a2.toNat % 8 by omega]
end Go.Abs.C07

namespace Go.Abs.C07
open Go Go.Proofs Sp07

theorem wf_iff {t : Tp} : wf t = true ↔ 0 ≤ t.2.1 ∧ t.2.1 ≤ t.1.length ∧ t.1.length ≤ 600 := by
  simp [wf, and_assoc]
theorem small_iff {n : Int} : small n = true ↔ -2305843009213693952 ≤ n ∧ n ≤ 2305843009213693952 := by
  simp [small]
theorem raw_wf {t : Tp} (h : wf t = true) : wf (raw t).2 = true := by
  obtain ⟨l, a, ⟨⟩⟩ := t
  obtain ⟨h1, h2, h3⟩ := wf_iff.1 h
  simp only at h1 h2 h3
  unfold raw
  by_cases h4 : a < l.length
  · simp only [h4, decide_true, cond_true]
    exact wf_iff.2 ⟨by simp only; omega, by simp only; omega, h3⟩
  · simp only [h4, decide_false, cond_false]
    exact h
theorem next_wf {t : Tp} {n : Int} (h : wf t = true) : wf (next t n).2 = true := raw_wf h
theorem cut_nonneg {x n : Int} : 0 ≤ cut x n := by
  unfold cut
  by_cases h : n < 1
  · simp [h]
  · simp only [h, decide_false, cond_false]
    exact Int.emod_nonneg x (by omega)
theorem cut_lt {x n : Int} (h : 1 ≤ n) : cut x n < n := by
  unfold cut
  have h' : ¬ n < 1 := by omega
  simp only [h', decide_false, cond_false]
  exact Int.emod_lt_of_pos x (by omega)
theorem next_range {t : Tp} {n : Int} (h : 1 ≤ n) : 0 ≤ (next t n).1 ∧ (next t n).1 < n := ⟨cut_nonneg, cut_lt h⟩
theorem range_wf {t : Tp} {a b : Int} (h : wf t = true) : wf (range t a b).2 = true := next_wf (n := b - a + 1) h
theorem range_in {t : Tp} {a b : Int} (h : a ≤ b) : a ≤ (range t a b).1 ∧ (range t a b).1 ≤ b := by
  have := next_range (t := t) (n := b - a + 1) (by omega)
  unfold range
  simp only
  omega
theorem next_bound {t : Tp} {n : Int} : 0 ≤ (next t n).1 ∧ ((next t n).1 < n ∨ (next t n).1 = 0) := by
  by_cases h : 1 ≤ n
  · have := next_range (t := t) h
    exact ⟨this.1, .inl this.2⟩
  · refine ⟨cut_nonneg, .inr ?_⟩
    show cut (raw t).1 n = 0
    unfold cut
    have : n < 1 := by omega
    simp [this]
theorem one_wf {t : Tp} {n : Int} (h : wf t = true) : wf (one t n).2 = true := next_wf (n := n) h
theorem wild_wf {t : Tp} (h : wf t = true) : wf (wild t).2 = true := next_wf (n := (wilds.length : Int)) h
theorem tape_wf (l : List Int) : wf (Sp07.tape l) = true := wf_iff.2 ⟨by simp [Sp07.tape], by simp [Sp07.tape], by simp [Sp07.tape]; omega⟩

theorem g45_ok (a0 : (List Int)) (a1 : Int) (r0 : (Ty.sl (.int .i64)).ok a0) (r1 : IntKind.i64.has a1) (h : (Sp07.wf (a0, a1, ())) = true) : g45 a0 a1 = some (Sp07.raw (a0, a1, ())) := by
  obtain ⟨h1, h2, h3⟩ := wf_iff.1 h
  simp only at h1 h2 h3
  unfold g45 Sp07.raw
  by_cases h4 : a1 < a0.length
  · have h5 : ¬ a1 ≥ (a0.length : Int) := by omega
    have e1 : IntKind.wrap .i64 (a1 + 1) = a1 + 1 := wi64 (by omega) (by omega)
    have e2 : IntKind.wrap .i64 (a1 + 1 - 1) = a1 := by rw [show a1 + 1 - 1 = a1 by omega]; exact wi64 (by omega) (by omega)
    simp only [Int.ofNat_eq_natCast, e1, e2, h5, h4, h1, decide_true, decide_false, cond_true, cond_false, Bool.and_self]
  · have h5 : a1 ≥ (a0.length : Int) := by omega
    simp only [Int.ofNat_eq_natCast, h5, h4, decide_true, decide_false, cond_true, cond_false]

theorem g44_ok (a0 : Int) (a1 : Int) (r0 : IntKind.i64.has a0) (r1 : IntKind.i64.has a1) : g44 a0 a1 = some (Sp07.cut a0 a1, ()) := by
  have hm := (has_i64 r1).2
  unfold g44 Sp07.cut
  by_cases h : a1 < 1
  · simp [h]
  · have h0 : ¬ a1 = 0 := by omega
    have hp : 0 < a1 := by omega
    have e1 := Int.emod_nonneg a0 h0
    have e2 := Int.emod_lt_of_pos a0 hp
    have e3 : a0.tmod a1 = if 0 ≤ a0 ∨ a1 ∣ a0 then a0 % a1 else a0 % a1 - a1 := by
      rw [Int.tmod_eq_emod]
      split <;> rename_i h <;> simp [h]
      omega
    by_cases h5 : 0 ≤ a0 ∨ a1 ∣ a0
    · rw [if_pos h5] at e3
      have : ¬ a0 % a1 < 0 := by omega
      simp [h, h0, e3, this]
      rfl
    · rw [if_neg h5] at e3
      have h6 : a0 % a1 - a1 < 0 := by omega
      have h7 : a0 % a1 - a1 + a1 = a0 % a1 := by omega
      have h8 : IntKind.wrap .i64 (a0 % a1) = a0 % a1 := wi64 (by omega) (by omega)
      simp only [h, h0, e3, h6, h7, h8, decide_true, decide_false, cond_true, cond_false, Bool.not_false, Option.bind]
      rfl

theorem g19_ok (a0 : (List Int)) (a1 : Int) (a2 : Int) (r0 : (Ty.sl (.int .i64)).ok a0) (r1 : IntKind.i64.has a1) (r2 : IntKind.i64.has a2) (h : (Sp07.wf (a0, a1, ())) = true) : g19 a0 a1 a2 = some (Sp07.next (a0, a1, ()) a2) := by
  unfold g19
  rw [on_true h]
  rfl

theorem g12_ok (a0 : (List Int)) (a1 : Int) (a2 : Int) (a3 : Int) (r0 : (Ty.sl (.int .i64)).ok a0) (r1 : IntKind.i64.has a1) (r2 : IntKind.i64.has a2) (r3 : IntKind.i64.has a3) (h : (Sp07.wf (a0, a1, ()) && Sp07.small a2 && Sp07.small a3) = true) : g12 a0 a1 a2 a3 = some (Sp07.range (a0, a1, ()) a2 a3) := by
  simp only [Bool.and_eq_true] at h
  have k2 := small_iff.1 h.1.2
  have k3 := small_iff.1 h.2
  unfold g12 Sp07.range
  rw [on_true h.1.1]
  have e1 : IntKind.wrap .i64 (a3 - a2) = a3 - a2 := wi64 (by omega) (by omega)
  have e2 : IntKind.wrap .i64 (a3 - a2 + 1) = a3 - a2 + 1 := wi64 (by omega) (by omega)
  have hb := next_bound (t := (a0, a1, ())) (n := a3 - a2 + 1)
  have e3 : IntKind.wrap .i64 (a2 + (next (a0, a1, ()) (a3 - a2 + 1)).1) = a2 + (next (a0, a1, ()) (a3 - a2 + 1)).1 := wi64 (by omega) (by omega)
  simp only [e1, e2, Option.bind, e3]

theorem g36_ok (a0 : (List Int)) (a1 : Int) (a2 : Int) (r0 : (Ty.sl (.int .i64)).ok a0) (r1 : IntKind.i64.has a1) (r2 : IntKind.i64.has a2) (h : (Sp07.wf (a0, a1, ()) && Sp07.small a2) = true) : g36 a0 a1 a2 = some (Sp07.one (a0, a1, ()) a2) := by
  simp only [Bool.and_eq_true] at h
  have k2 := small_iff.1 h.2
  unfold g36 Sp07.one
  rw [on_true h.1]
  have e1 : IntKind.wrap .i64 (a2 - 1) = a2 - 1 := wi64 (by omega) (by omega)
  simp only [e1, Option.bind]

theorem g22_ok (a0 : (List Int)) (a1 : Int) (a2 : (List Int)) (r0 : (Ty.sl (.int .i64)).ok a0) (r1 : IntKind.i64.has a1) (r2 : (Ty.sl (.int .i64)).ok a2) (h : (Sp07.wf (a0, a1, ()) && decide (0 < a2.length) && decide (a2.length ≤ 1000)) = true) : g22 a0 a1 a2 = some (Sp07.pick (a0, a1, ()) a2) := by
  simp only [Bool.and_eq_true, decide_eq_true_eq] at h
  unfold g22 Sp07.pick
  rw [on_true h.1.1]
  have hb := next_range (t := (a0, a1, ())) (n := (a2.length : Int)) (by omega)
  simp only [Int.ofNat_eq_natCast, Option.bind, hb.1, hb.2, decide_true, Bool.and_self, cond_true]

theorem g37_ok (a0 : List Int) (a1 : Int) (r0 : (Ty.sl (.int .i64)).ok a0) (r1 : IntKind.i64.has a1) (h : (Sp07.wf (a0, a1, ())) = true) : g37 a0 a1 = some (Sp07.wild (a0, a1, ())) := by
  unfold g37
  rw [show (wf (a0, a1, ()) && true && true) = true by rw [h]; rfl]
  rfl

theorem g10_ok (a0 : (List Int)) (r0 : (Ty.sl (.int .i64)).ok a0) : g10 a0 = some (Sp07.tape a0, ()) := by
  unfold g10 Sp07.tape
  by_cases h : (600 : Int) < a0.length
  · have h2 : (600 : Int) ≤ a0.length := by omega
    simp [GT.gt, h, h2]
  · have : a0.take 600 = a0 := List.take_of_length_le (by omega)
    simp [GT.gt, h, this]

end Go.Abs.C07
