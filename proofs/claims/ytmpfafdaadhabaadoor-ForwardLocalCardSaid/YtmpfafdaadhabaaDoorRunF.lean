/- Chapter 13 (forward): proved is that functions that the law reaches keep their contracts (tables of tapes, the law); no conditions but those that each theorem states. -/
import Derived.Test.YtmpfafdaadhabaaDoorRunE
set_option linter.unusedVariables false
set_option linter.unusedSimpArgs false
namespace Go.Abs.C13
open Go Go.Proofs Sp13
open Sp13.Bt
set_option maxRecDepth 100000
abbrev pk0 : Pk := (1, 0, 0, 8, 4, 0, 0, 0, 35, [], ())
theorem awk : fwd t0 pk0 = ((0, 32, [(2, ([], (1, 0, 0, 8, 3, 0, 0, 0, 1, [], ()), ()), ()), (3, ([], (1, 0, 0, 8, 3, 0, 0, 0, 2, [], ()), ()), ())], ()), 0, ()) := by kernel_rfl
theorem g42_ok   : g42  = some (Sp13.t0, ()) := by
  rfl
theorem g11_ok   : g11  = some (true, ()) := by
  unfold g11
  rw [awk]
  rfl
end Go.Abs.C13

namespace Go.Abs.C13
open Go Go.Abs
set_option maxRecDepth 20000
set_option linter.unusedVariables false
noncomputable def g7_s0 (a0 : (Sp13.Tp × ((@List ((@List (Int × (Sp13.Pk × Unit))) × ((@List (Int × (Sp13.Pk × Unit))) × Unit))) × Unit))) (a1 : (Int × Unit)) (a2 : (Int × Unit)) : (Option (Sum (Int × Unit) (Bool × ((Bool × Unit) × Unit)))) :=
  (bif ((decide (0 ≤ a1.1)) && (decide (a1.1 < (Int.ofNat a0.2.1.length)))) then (bif (decide (a2.1 < (Int.ofNat (List.getD a0.2.1 (Int.toNat a1.1) ([], ([], ()))).1.length))) then (bif ((decide (0 ≤ a1.1)) && (decide (a1.1 < (Int.ofNat a0.2.1.length)))) then (bif ((decide (0 ≤ a2.1)) && (decide (a2.1 < (Int.ofNat (List.getD a0.2.1 (Int.toNat a1.1) ([], ([], ()))).1.length)))) then (bif ((decide (0 ≤ a1.1)) && (decide (a1.1 < (Int.ofNat a0.2.1.length)))) then (bif ((decide (0 ≤ a2.1)) && (decide (a2.1 < (Int.ofNat (List.getD a0.2.1 (Int.toNat a1.1) ([], ([], ()))).2.1.length)))) then (bif (!((decide ((List.getD (List.getD a0.2.1 (Int.toNat a1.1) ([], ([], ()))).1 (Int.toNat a2.1) (0, ((0, (0, (0, (0, (0, (0, (0, (0, (0, ([], ())))))))))), ()))).1 = (List.getD (List.getD a0.2.1 (Int.toNat a1.1) ([], ([], ()))).2.1 (Int.toNat a2.1) (0, ((0, (0, (0, (0, (0, (0, (0, (0, (0, ([], ())))))))))), ()))).1)) && ((decide ((List.getD (List.getD a0.2.1 (Int.toNat a1.1) ([], ([], ()))).1 (Int.toNat a2.1) (0, ((0, (0, (0, (0, (0, (0, (0, (0, (0, ([], ())))))))))), ()))).2.1.1 = (List.getD (List.getD a0.2.1 (Int.toNat a1.1) ([], ([], ()))).2.1 (Int.toNat a2.1) (0, ((0, (0, (0, (0, (0, (0, (0, (0, (0, ([], ())))))))))), ()))).2.1.1)) && ((decide ((List.getD (List.getD a0.2.1 (Int.toNat a1.1) ([], ([], ()))).1 (Int.toNat a2.1) (0, ((0, (0, (0, (0, (0, (0, (0, (0, (0, ([], ())))))))))), ()))).2.1.2.1 = (List.getD (List.getD a0.2.1 (Int.toNat a1.1) ([], ([], ()))).2.1 (Int.toNat a2.1) (0, ((0, (0, (0, (0, (0, (0, (0, (0, (0, ([], ())))))))))), ()))).2.1.2.1)) && ((decide ((List.getD (List.getD a0.2.1 (Int.toNat a1.1) ([], ([], ()))).1 (Int.toNat a2.1) (0, ((0, (0, (0, (0, (0, (0, (0, (0, (0, ([], ())))))))))), ()))).2.1.2.2.1 = (List.getD (List.getD a0.2.1 (Int.toNat a1.1) ([], ([], ()))).2.1 (Int.toNat a2.1) (0, ((0, (0, (0, (0, (0, (0, (0, (0, (0, ([], ())))))))))), ()))).2.1.2.2.1)) && ((decide ((List.getD (List.getD a0.2.1 (Int.toNat a1.1) ([], ([], ()))).1 (Int.toNat a2.1) (0, ((0, (0, (0, (0, (0, (0, (0, (0, (0, ([], ())))))))))), ()))).2.1.2.2.2.1 = (List.getD (List.getD a0.2.1 (Int.toNat a1.1) ([], ([], ()))).2.1 (Int.toNat a2.1) (0, ((0, (0, (0, (0, (0, (0, (0, (0, (0, ([], ())))))))))), ()))).2.1.2.2.2.1)) && ((decide ((List.getD (List.getD a0.2.1 (Int.toNat a1.1) ([], ([], ()))).1 (Int.toNat a2.1) (0, ((0, (0, (0, (0, (0, (0, (0, (0, (0, ([], ())))))))))), ()))).2.1.2.2.2.2.1 = (List.getD (List.getD a0.2.1 (Int.toNat a1.1) ([], ([], ()))).2.1 (Int.toNat a2.1) (0, ((0, (0, (0, (0, (0, (0, (0, (0, (0, ([], ())))))))))), ()))).2.1.2.2.2.2.1)) && ((decide ((List.getD (List.getD a0.2.1 (Int.toNat a1.1) ([], ([], ()))).1 (Int.toNat a2.1) (0, ((0, (0, (0, (0, (0, (0, (0, (0, (0, ([], ())))))))))), ()))).2.1.2.2.2.2.2.1 = (List.getD (List.getD a0.2.1 (Int.toNat a1.1) ([], ([], ()))).2.1 (Int.toNat a2.1) (0, ((0, (0, (0, (0, (0, (0, (0, (0, (0, ([], ())))))))))), ()))).2.1.2.2.2.2.2.1)) && ((decide ((List.getD (List.getD a0.2.1 (Int.toNat a1.1) ([], ([], ()))).1 (Int.toNat a2.1) (0, ((0, (0, (0, (0, (0, (0, (0, (0, (0, ([], ())))))))))), ()))).2.1.2.2.2.2.2.2.1 = (List.getD (List.getD a0.2.1 (Int.toNat a1.1) ([], ([], ()))).2.1 (Int.toNat a2.1) (0, ((0, (0, (0, (0, (0, (0, (0, (0, (0, ([], ())))))))))), ()))).2.1.2.2.2.2.2.2.1)) && ((decide ((List.getD (List.getD a0.2.1 (Int.toNat a1.1) ([], ([], ()))).1 (Int.toNat a2.1) (0, ((0, (0, (0, (0, (0, (0, (0, (0, (0, ([], ())))))))))), ()))).2.1.2.2.2.2.2.2.2.1 = (List.getD (List.getD a0.2.1 (Int.toNat a1.1) ([], ([], ()))).2.1 (Int.toNat a2.1) (0, ((0, (0, (0, (0, (0, (0, (0, (0, (0, ([], ())))))))))), ()))).2.1.2.2.2.2.2.2.2.1)) && ((decide ((List.getD (List.getD a0.2.1 (Int.toNat a1.1) ([], ([], ()))).1 (Int.toNat a2.1) (0, ((0, (0, (0, (0, (0, (0, (0, (0, (0, ([], ())))))))))), ()))).2.1.2.2.2.2.2.2.2.2.1 = (List.getD (List.getD a0.2.1 (Int.toNat a1.1) ([], ([], ()))).2.1 (Int.toNat a2.1) (0, ((0, (0, (0, (0, (0, (0, (0, (0, (0, ([], ())))))))))), ()))).2.1.2.2.2.2.2.2.2.2.1)) && ((@List.beq Int (@instBEqOfDecidableEq Int Int.instDecidableEq) (List.getD (List.getD a0.2.1 (Int.toNat a1.1) ([], ([], ()))).1 (Int.toNat a2.1) (0, ((0, (0, (0, (0, (0, (0, (0, (0, (0, ([], ())))))))))), ()))).2.1.2.2.2.2.2.2.2.2.2.1 (List.getD (List.getD a0.2.1 (Int.toNat a1.1) ([], ([], ()))).2.1 (Int.toNat a2.1) (0, ((0, (0, (0, (0, (0, (0, (0, (0, (0, ([], ())))))))))), ()))).2.1.2.2.2.2.2.2.2.2.2.1) && true)))))))))))) then (some (.inr (true, ((false, ()), ())))) else (some (.inl ((IntKind.wrap .i64 (a2.1 + 1)), ())))) else none) else none) else none) else none) else (some (.inr (false, ((false, ()), ()))))) else none)
noncomputable def g7_s1 (a0 : (Sp13.Tp × ((@List ((@List (Int × (Sp13.Pk × Unit))) × ((@List (Int × (Sp13.Pk × Unit))) × Unit))) × Unit))) (a1 : (Int × Unit)) : (Option (Sum (Int × Unit) (Bool × ((Bool × Unit) × Unit)))) :=
  (bif (decide (a1.1 < 2)) then (bif ((decide (0 ≤ a1.1)) && (decide (a1.1 < (Int.ofNat a0.2.1.length)))) then (bif ((decide (0 ≤ a1.1)) && (decide (a1.1 < (Int.ofNat a0.2.1.length)))) then (bif (!(decide ((Int.ofNat (List.getD a0.2.1 (Int.toNat a1.1) ([], ([], ()))).1.length) = (Int.ofNat (List.getD a0.2.1 (Int.toNat a1.1) ([], ([], ()))).2.1.length)))) then (some (.inr (true, ((false, ()), ())))) else (Option.bind (Loop (@g7_s0 a0 a1) (0, ())) (fun y2 => (bif y2.1 then (some (.inr (true, y2.2))) else (some (.inl ((IntKind.wrap .i64 (a1.1 + 1)), ()))))))) else none) else none) else (some (.inr (false, ((false, ()), ())))))
noncomputable def g7 (a0 : (List Int)) (a1 : Int) (a2 : Int) (a3 : (@List Sp13.Cp)) (a4 : Int) (a5 : Int) (a6 : Int) (a7 : Int) (a8 : Int) (a9 : Int) (a10 : Int) (a11 : Int) (a12 : Int) (a13 : (List Int)) (a14 : Int) : (Option (Bool × Unit)) :=
  (Option.bind (Sp13.on ((Sp13.wf (Sp13.tape a0)) && (Sp13.small 4)) (Sp13.packet (Sp13.tape a0) 4)) (fun y15 => (Option.bind (Option.bind (Sp13.on (Sp13.wf y15.2) (Sp13.Bt.bits y15.2 64)) (fun y16 => (some (y16.2, ((), (((IntKind.wrap .u64 (Int.ofNat (BitVec.toNat (BitVec.and (BitVec.ofInt 64 y15.1.2.2.2.2.2.2.2.2.1) (BitVec.ofInt 64 y16.1))))), (0, ([], ()))), ())))))) (fun y16 => (Option.bind (Option.bind (Sp13.x26 y16.1 0) (fun y17 => (some (y17.2, ((((Sp13.local1 a14 y16.2.2.1 y15.1), ((Sp13.local1 a14 y16.2.2.1 y15.1), ())) :: (((Sp13.local1 a14 (a1, (a2, (a3, ()))) (a4, (a5, (a6, (a7, (a8, (a9, (a10, (a11, (a12, (a13, ()))))))))))), ((Sp13.local1 a14 (a1, (a2, (a3, ()))) (a4, (a5, (a6, (a7, (a8, (a9, (a10, (a11, (a12, (a13, ()))))))))))), ())) :: [])), ()))))) (fun y17 => (Option.bind (Loop (@g7_s1 y17) (0, ())) (fun y18 => (bif y18.1 then (some y18.2.1) else (some (true, ())))))))))))
theorem g7_eq (a0 : (List Int)) (a1 : Int) (a2 : Int) (a3 : (@List Sp13.Cp)) (a4 : Int) (a5 : Int) (a6 : Int) (a7 : Int) (a8 : Int) (a9 : Int) (a10 : Int) (a11 : Int) (a12 : Int) (a13 : (List Int)) (a14 : Int) : (evF (fun _ _ => Loop) E7 G7 Go.Proofs.Tryd.f7 plan7 c7 ((), (a0, ((a1, (a2, (a3, ()))), ((a4, (a5, (a6, (a7, (a8, (a9, (a10, (a11, (a12, (a13, ())))))))))), (a14, ())))))).den = g7 a0 a1 a2 a3 a4 a5 a6 a7 a8 a9 a10 a11 a12 a13 a14 := by kernel_rfl
end Go.Abs.C13

namespace Go.Abs.C13
open Go Go.Proofs Sp13
set_option maxRecDepth 100000
theorem g107_ok (a0 : (List Int)) (a1 : Int) (r0 : (Ty.sl (.int .i64)).ok a0) (r1 : IntKind.i64.has a1) : g107 a0 a1 = Sp13.x107 a0 a1 := by
  rfl
theorem g108_ok (a0 : (List (Int × (Bool × Unit)))) (a1 : (List Sp13.Lk)) (a2 : Int) (r0 : (Ty.sl (rtT)).ok a0) (r1 : (Ty.sl (lkT)).ok a1) (r2 : IntKind.i64.has a2) : g108 a0 a1 a2 = Sp13.x108 (a0, a1, ()) a2 := by
  rfl
theorem g105_ok (a0 : (List (Int × (Bool × Unit)))) (a1 : (List Sp13.Lk)) (a2 : Int) (r0 : (Ty.sl (rtT)).ok a0) (r1 : (Ty.sl (lkT)).ok a1) (r2 : IntKind.i64.has a2) : g105 a0 a1 a2 = Sp13.x105 (a0, a1, ()) a2 := by
  rfl
theorem g109_ok (a0 : (List (Int × (Bool × Unit)))) (a1 : (List Sp13.Lk)) (a2 : (List Int)) (a3 : Int) (r0 : (Ty.sl (rtT)).ok a0) (r1 : (Ty.sl (lkT)).ok a1) (r2 : (Ty.sl (.int .i64)).ok a2) (r3 : IntKind.i64.has a3) : g109 a0 a1 a2 a3 = Sp13.x109 (a0, a1, ()) a2 a3 := by
  rfl
theorem g106_ok (a0 : (List (Int × (Bool × Unit)))) (a1 : (List Sp13.Lk)) (a2 : (List Int)) (a3 : Int) (r0 : (Ty.sl (rtT)).ok a0) (r1 : (Ty.sl (lkT)).ok a1) (r2 : (Ty.sl (.int .i64)).ok a2) (r3 : IntKind.i64.has a3) : g106 a0 a1 a2 a3 = Sp13.x106 (a0, a1, ()) a2 a3 := by
  rfl
theorem g102_ok (a0 : (List (Int × (Bool × Unit)))) (a1 : (List Sp13.Lk)) (a2 : Int) (a3 : Int) (r0 : (Ty.sl (rtT)).ok a0) (r1 : (Ty.sl (lkT)).ok a1) (r2 : IntKind.i64.has a2) (r3 : IntKind.i64.has a3) : g102 a0 a1 a2 a3 = Sp13.x102 (a0, a1, ()) a2 a3 := by
  rfl
theorem g87_ok (a0 : (List (Int × (Bool × Unit)))) (a1 : (List Sp13.Lk)) (a2 : Int) (a3 : Int) (a4 : (List (Int × (Int × Unit)))) (a5 : Int) (r0 : (Ty.sl (rtT)).ok a0) (r1 : (Ty.sl (lkT)).ok a1) (r2 : IntKind.i64.has a2) (r3 : IntKind.i64.has a3) (r4 : (Ty.sl (edT)).ok a4) (r5 : IntKind.i64.has a5) : g87 a0 a1 a2 a3 a4 a5 = Sp13.x87 (a0, a1, ()) (a2, a3, a4, ()) a5 := by
  rfl
theorem g57_ok (a0 : (List (Int × (Bool × Unit)))) (a1 : (List Sp13.Lk)) (a2 : Int) (a3 : Int) (a4 : (List (Int × (Int × Unit)))) (r0 : (Ty.sl (rtT)).ok a0) (r1 : (Ty.sl (lkT)).ok a1) (r2 : IntKind.i64.has a2) (r3 : IntKind.i64.has a3) (r4 : (Ty.sl (edT)).ok a4) : g57 a0 a1 a2 a3 a4 = Sp13.x57 (a0, a1, ()) (a2, a3, a4, ()) := by
  rfl
theorem g58_ok (a0 : Int) (a1 : Int) (a2 : Int) (a3 : (List (Int × ((List Int) × Unit)))) (r0 : IntKind.i64.has a0) (r1 : IntKind.i64.has a1) (r2 : IntKind.i64.has a2) (r3 : (Ty.sl (rwT)).ok a3) : g58 a0 a1 a2 a3 = Sp13.x58 (a0, a1, a2, a3, ()) := by
  rfl
theorem g26_ok (a0 : (List Int)) (a1 : Int) (a2 : Int) (r0 : (Ty.sl (.int .i64)).ok a0) (r1 : IntKind.i64.has a1) (r2 : IntKind.i64.has a2) : g26 a0 a1 a2 = Sp13.x26 (a0, a1, ()) a2 := by
  rfl
theorem Loop_cnt {τ σ ε : Type} {step : τ → Option (Sum τ ε)} (enc : Nat → σ → τ) (n : Nat) (J : Nat → σ → Prop) (Q : ε → Prop)
    (h : ∀ k s, k < n → J k s → (∃ e, step (enc k s) = some (.inr e) ∧ Q e) ∨ ∃ s', step (enc k s) = some (.inl (enc (k + 1) s')) ∧ J (k + 1) s')
    (he : ∀ s, J n s → ∃ e, step (enc n s) = some (.inr e) ∧ Q e) (s : σ) (h0 : J 0 s) : ∃ e, Loop step (enc 0 s) = some e ∧ Q e := by
  have key : ∀ j k s, k + j = n → J k s → ∃ e, Loop step (enc k s) = some e ∧ Q e := by
    intro j
    induction j with
    | zero =>
      intro k s hk hJ
      have : k = n := by omega
      subst this
      obtain ⟨e, h1, h2⟩ := he s hJ
      exact ⟨e, by rw [Loop_step, h1], h2⟩
    | succ j ih =>
      intro k s hk hJ
      rcases h k s (by omega) hJ with ⟨e, h1, h2⟩ | ⟨s', h1, h2⟩
      · exact ⟨e, by rw [Loop_step, h1], h2⟩
      · obtain ⟨e, h3, h4⟩ := ih (k + 1) s' (by omega) h2
        exact ⟨e, by rw [Loop_step, h1]; exact h3, h4⟩
  exact key n 0 s (by omega) h0
theorem ltT {k n : Nat} (h : k < n) : decide ((k : Int) < Int.ofNat n) = true := by rw [Int.ofNat_eq_natCast]; exact decide_eq_true (by omega)
theorem ltF {n : Nat} : decide ((n : Int) < Int.ofNat n) = false := by rw [Int.ofNat_eq_natCast]; exact decide_eq_false (by omega)
theorem nnT (k : Nat) : decide ((0 : Int) ≤ (k : Int)) = true := decide_eq_true (by omega)
theorem x108_ok (g : To) (r : Int) (hn : g.1.length ≤ 100000) : ∃ i : Nat, x108 g r = some ((i : Int), ()) ∧ (0 < g.1.length → i < g.1.length) := by
  obtain ⟨e, h1, h2⟩ := Loop_cnt (step := r108_s0 g.1 r) (fun k (_ : Unit) => ((k : Int), ())) g.1.length (fun _ _ => True) (fun e => e.1 = true → ∃ i : Nat, e.2.1 = ((i : Int), ()) ∧ i < g.1.length)
    (fun k s hk _ => by
      unfold r108_s0
      simp only
      rw [ltT hk, nnT, wi64n (by omega)]
      simp only [Bool.and_self, cond_true]
      cases decide ((g.1.getD (Int.toNat (k : Int)) zR).1 = r) with
      | true => exact .inl ⟨_, rfl, fun _ => ⟨k, rfl, hk⟩⟩
      | false => exact .inr ⟨(), rfl, trivial⟩)
    (fun s _ => by
      unfold r108_s0
      simp only
      rw [ltF]
      exact ⟨_, rfl, fun h => (by cases h)⟩) () trivial
  unfold x108 r108
  have h1 : Loop (r108_s0 g.1 r) ((0 : Int), ()) = some e := h1
  rw [h1]
  simp only [Option.bind_some]
  cases he : e.1 with
  | true =>
    obtain ⟨i, h3, h4⟩ := h2 he
    exact ⟨i, by rw [h3]; rfl, fun _ => h4⟩
  | false => exact ⟨0, rfl, fun h => h⟩
theorem x109_ok (g : To) (d : List Int) (r : Int) (hn : g.1.length ≤ 100000) (hd : d.length = g.1.length) : ∃ v, x109 g d r = some (v, ()) := by
  obtain ⟨e, h1, -⟩ := Loop_cnt (step := r109_s0 g.1 d r) (fun k (_ : Unit) => ((k : Int), ())) g.1.length (fun _ _ => True) (fun _ => True)
    (fun k s hk _ => by
      unfold r109_s0
      simp only
      rw [ltT hk, nnT, wi64n (by omega), ltT (show k < d.length by omega)]
      simp only [Bool.and_self, cond_true]
      cases decide ((g.1.getD (Int.toNat (k : Int)) zR).1 = r) with
      | true => exact .inl ⟨_, rfl, trivial⟩
      | false => exact .inr ⟨(), rfl, trivial⟩)
    (fun s _ => by
      unfold r109_s0
      simp only
      rw [ltF]
      exact ⟨_, rfl, trivial⟩) () trivial
  unfold x109 r109
  have h1 : Loop (r109_s0 g.1 d r) ((0 : Int), ()) = some e := h1
  rw [h1]
  simp only [Option.bind_some]
  cases e.1 with
  | true => exact ⟨_, rfl⟩
  | false => exact ⟨_, rfl⟩
theorem x107_ok (l : List Int) (x : Int) (hl : l.length ≤ 100000) : ∃ l', x107 l x = some (l', ()) ∧ l'.length ≤ l.length + 1 := by
  obtain ⟨e, h1, i, hi, hil⟩ := Loop_cnt (step := r107_s0 l x) (fun k (_ : Unit) => ((k : Int), ())) l.length (fun _ _ => True) (fun e => ∃ i : Nat, e = ((i : Int), ()) ∧ i ≤ l.length)
    (fun k s hk _ => by
      unfold r107_s0
      simp only
      rw [ltT hk, nnT, wi64n (by omega)]
      simp only [Bool.and_self, cond_true, Option.bind_some]
      cases decide (l.getD (Int.toNat (k : Int)) 0 < x) with
      | true => exact .inr ⟨(), rfl, trivial⟩
      | false => exact .inl ⟨_, rfl, k, rfl, by omega⟩)
    (fun s _ => by
      unfold r107_s0
      simp only
      rw [ltF]
      exact ⟨_, rfl, l.length, rfl, Nat.le_refl _⟩) () trivial
  subst hi
  unfold x107 r107
  have h1 : Loop (r107_s0 l x) ((0 : Int), ()) = some ((i : Int), ()) := h1
  rw [h1]
  simp only [Option.bind_some]
  have big : ∀ n : Nat, n ≤ 1000000 → Nat.ble (n * 8) 140737488355328 = true := fun n h => ble_t (by omega)
  have tail : ∃ l', (bif (true && decide ((0 : Int) ≤ (i : Int))) && decide ((i : Int) ≤ Int.ofNat l.length) then
      (bif Nat.ble ((0 + (List.drop 0 (List.take (Int.toNat (i : Int)) l)).length) * 8) 140737488355328 then
        (bif Nat.ble ((([] ++ List.drop 0 (List.take (Int.toNat (i : Int)) l)).length + 1) * 8) 140737488355328 then
          (bif (decide ((0 : Int) ≤ (i : Int)) && decide ((i : Int) ≤ Int.ofNat l.length)) && decide (Int.ofNat l.length ≤ Int.ofNat l.length) then
            (bif Nat.ble (((([] ++ List.drop 0 (List.take (Int.toNat (i : Int)) l)) ++ [x]).length + (List.drop (Int.toNat (i : Int)) (List.take (Int.toNat (Int.ofNat l.length)) l)).length) * 8) 140737488355328 then
              some ((([] ++ List.drop 0 (List.take (Int.toNat (i : Int)) l)) ++ [x]) ++ List.drop (Int.toNat (i : Int)) (List.take (Int.toNat (Int.ofNat l.length)) l), ()) else none) else none) else none) else none) else none) = some (l', ()) ∧ l'.length ≤ l.length + 1 := by
    have e1 : decide ((i : Int) ≤ Int.ofNat l.length) = true := by rw [Int.ofNat_eq_natCast]; exact decide_eq_true (by omega)
    rw [nnT, e1, big _ (by simp; omega), big _ (by simp; omega), big _ (by simp; omega), decide_eq_true (Int.le_refl (Int.ofNat l.length))]
    refine ⟨_, rfl, ?_⟩
    simp
    omega
  by_cases h : i < l.length
  · rw [ltT h, nnT]
    simp only [Bool.and_self, cond_true, Option.bind_some]
    cases decide (l.getD (Int.toNat (i : Int)) 0 = x) with
    | true => exact ⟨l, rfl, by omega⟩
    | false => exact tail
  · have : i = l.length := by omega
    subst this
    rw [ltF]
    simp only [cond_false, Option.bind_some]
    exact tail
theorem x105_ok (g : To) (r : Int) (hn : g.1.length ≤ 100000) (hl : g.2.1.length ≤ 100000) (h0 : 0 < g.1.length) : ∃ d, x105 g r = some (d, ()) ∧ d.length = g.1.length := by
  have s0 : ∃ e, Loop (r105_s0 g.1 r) ((0 : Int), (List.replicate (Int.toNat (Int.ofNat g.1.length)) (0 : Int), ())) = some e ∧ e.1.length = g.1.length := by
    refine Loop_cnt (step := r105_s0 g.1 r) (fun k (d : List Int) => ((k : Int), (d, ()))) g.1.length (fun _ d => d.length = g.1.length) (fun e => e.1.length = g.1.length) (fun k d hk hd => ?_) (fun d hd => ?_) _ (by simp)
    · unfold r105_s0
      simp only
      rw [ltT (show k < d.length by omega), nnT, wi64n (by omega), ltT hk, blt_t (show Int.toNat (k : Int) < d.length by simp; omega)]
      simp only [Bool.and_self, cond_true]
      cases decide ((g.1.getD (Int.toNat (k : Int)) zR).1 = r) with
      | false => exact .inr ⟨d.set (Int.toNat (k : Int)) 1073741824, rfl, by rw [List.length_set]; exact hd⟩
      | true =>
        simp only [cond_true]
        rw [ltT (show k < (d.set (Int.toNat (k : Int)) 1073741824).length by rw [List.length_set]; omega), blt_t (show Int.toNat (k : Int) < (d.set (Int.toNat (k : Int)) 1073741824).length by rw [List.length_set]; simp; omega)]
        exact .inr ⟨(d.set (Int.toNat (k : Int)) 1073741824).set (Int.toNat (k : Int)) 0, rfl, by rw [List.length_set, List.length_set]; exact hd⟩
    · unfold r105_s0
      simp only
      rw [show g.1.length = d.length from hd.symm, ltF]
      exact ⟨_, rfl, rfl⟩
  have s1 : ∀ d : List Int, d.length = g.1.length → ∃ e, Loop (r105_s1 g.1 g.2.1) (d, ((0 : Int), ())) = some e ∧ e.1.length = g.1.length := by
    intro d hd
    refine Loop_cnt (step := r105_s1 g.1 g.2.1) (fun k (d : List Int) => (d, ((k : Int), ()))) g.2.1.length (fun _ d => d.length = g.1.length) (fun e => e.1.length = g.1.length) (fun k d hk hd => ?_) (fun d hd => ?_) d hd
    · unfold r105_s1
      simp only
      obtain ⟨a, ha, hal⟩ := x108_ok (g.1, g.2.1, ()) (g.2.1.getD (Int.toNat (k : Int)) zL).1 hn
      obtain ⟨b, hb, hbl⟩ := x108_ok (g.1, g.2.1, ()) (g.2.1.getD (Int.toNat (k : Int)) zL).2.1 hn
      have hal : a < g.1.length := hal h0
      have hbl : b < g.1.length := hbl h0
      rw [ltT hk, nnT, wi64n (by omega), ha, hb]
      simp only [Bool.and_self, cond_true, Option.bind_some]
      have stp : ∀ (d : List Int) (u v : Nat) (c : Int), d.length = g.1.length → u < g.1.length → v < g.1.length → ∃ d', (bif decide (d.getD (Int.toNat (v : Int)) 0 < 1073741824) then
          (bif decide ((0 : Int) ≤ (u : Int)) && decide ((u : Int) < Int.ofNat d.length) then (bif Nat.blt (Int.toNat (u : Int)) d.length then
            (bif decide ((0 : Int) ≤ (v : Int)) && decide ((v : Int) < Int.ofNat d.length) then (bif Nat.blt (Int.toNat (v : Int)) d.length then
              (bif decide ((0 : Int) ≤ (u : Int)) && decide ((u : Int) < Int.ofNat d.length) then (bif Nat.blt (Int.toNat (u : Int)) d.length then
                some (d.set (Int.toNat (u : Int)) (bif decide (IntKind.wrap .i64 (c + d.getD (Int.toNat (v : Int)) 0) < d.getD (Int.toNat (u : Int)) 0) then IntKind.wrap .i64 (c + d.getD (Int.toNat (v : Int)) 0) else d.getD (Int.toNat (u : Int)) 0), ())
              else none) else none) else none) else none) else none) else none) else some (d, ())) = some (d', ()) ∧ d'.length = g.1.length := by
        intro d u v c hd hu hv
        rw [nnT, nnT, ltT (show u < d.length by omega), ltT (show v < d.length by omega), blt_t (show Int.toNat (u : Int) < d.length by simp; omega), blt_t (show Int.toNat (v : Int) < d.length by simp; omega)]
        cases decide (d.getD (Int.toNat (v : Int)) 0 < 1073741824) with
        | true => exact ⟨_, rfl, by rw [List.length_set]; exact hd⟩
        | false => exact ⟨d, rfl, hd⟩
      obtain ⟨d1, e1, l1⟩ := stp d a b (g.2.1.getD (Int.toNat (k : Int)) zL).2.2.1 hd hal hbl
      obtain ⟨d2, e2, l2⟩ := stp d1 b a (g.2.1.getD (Int.toNat (k : Int)) zL).2.2.2.1 l1 hbl hal
      rw [nnT b, ltT (show b < d.length by omega), blt_t (show Int.toNat (b : Int) < d.length by simp; omega)]
      rw [nnT b, ltT (show b < d.length by omega), blt_t (show Int.toNat (b : Int) < d.length by simp; omega)] at e1
      simp only [Bool.and_self, cond_true] at e1 ⊢
      rw [e1]
      simp only [Option.bind_some]
      rw [nnT a, ltT (show a < d1.length by omega), blt_t (show Int.toNat (a : Int) < d1.length by simp; omega)]
      rw [nnT b, nnT a, ltT (show a < d1.length by omega), blt_t (show Int.toNat (a : Int) < d1.length by simp; omega)] at e2
      simp only [Bool.and_self, cond_true] at e2 ⊢
      rw [e2]
      exact .inr ⟨d2, rfl, l2⟩
    · unfold r105_s1
      simp only
      rw [ltF]
      exact ⟨_, rfl, hd⟩
  obtain ⟨⟨d0, ⟨⟩⟩, e0, l0⟩ := s0
  have s2 : ∃ e, Loop (r105_s2 g.1 g.2.1) ((0 : Int), (d0, ())) = some e ∧ e.1.length = g.1.length := by
    refine Loop_cnt (step := r105_s2 g.1 g.2.1) (fun k (d : List Int) => ((k : Int), (d, ()))) g.1.length (fun _ d => d.length = g.1.length) (fun e => e.1.length = g.1.length) (fun k d hk hd => ?_) (fun d hd => ?_) d0 l0
    · unfold r105_s2
      simp only
      obtain ⟨⟨d1, ⟨⟩⟩, e1, l1⟩ := s1 d hd
      rw [ltT (show k < d.length by omega), wi64n (by omega), e1]
      exact .inr ⟨d1, rfl, l1⟩
    · unfold r105_s2
      simp only
      rw [show g.1.length = d.length from hd.symm, ltF]
      exact ⟨_, rfl, rfl⟩
  obtain ⟨⟨d3, ⟨⟩⟩, e3, l3⟩ := s2
  refine ⟨d3, ?_, l3⟩
  unfold x105 r105
  have g1 : (decide ((0 : Int) ≤ Int.ofNat g.1.length) && decide (Int.ofNat g.1.length ≤ Int.ofNat g.1.length) && decide (Int.ofNat g.1.length * 8 ≤ 140737488355328)) = true := by
    simp only [Int.ofNat_eq_natCast]
    rw [decide_eq_true (show (0 : Int) ≤ (g.1.length : Int) by omega), decide_eq_true (Int.le_refl _), decide_eq_true (show (g.1.length : Int) * 8 ≤ 140737488355328 by omega)]
    rfl
  rw [g1, e0]
  simp only [cond_true, Option.bind_some]
  rw [e3]
  rfl
abbrev ids (g : To) : List Int := g.1.map fun x => x.1
theorem near_in (g : To) (r : Int) : (near g r).length ≤ g.1.length ∧ ∀ x ∈ near g r, x ∈ ids g := by
  unfold near
  refine ⟨by rw [List.length_map]; exact List.length_filter_le _ _, fun x hx => ?_⟩
  obtain ⟨y, hy, rfl⟩ := List.mem_map.1 hx
  exact List.mem_map.2 ⟨y, (List.mem_filter.1 hy).1, rfl⟩
theorem x106_ok (g : To) (d : List Int) (r : Int) (hn : g.1.length ≤ 100) (hd : d.length = g.1.length) : ∃ l, x106 g d r = some (l, ()) ∧ l.length ≤ g.1.length ∧ ∀ x ∈ l, x ∈ ids g := by
  obtain ⟨x, hx⟩ := x109_ok g d r (by omega) hd
  have hx' : x109 (g.1, (g.2.1, ())) d r = some (x, ()) := hx
  unfold x106 r106
  rw [hx']
  simp only [Option.bind_some]
  obtain ⟨n1, n2⟩ := near_in g r
  have tail : ∃ l, (Option.bind (bif !decide (x = 1073741824) then some (decide (x = 0), ()) else some (true, ())) fun y5 => bif y5.1 then some (([] : List Int), ()) else Option.bind (Loop (r106_s0 g.1 g.2.1 d r (x, ())) ((0 : Int), (([] : List Int), (near (g.1, (g.2.1, ())) r, ())))) fun y6 => some y6) = some (l, ()) ∧ l.length ≤ g.1.length ∧ ∀ x ∈ l, x ∈ ids g := by
    have hL : ∃ e, Loop (r106_s0 g.1 g.2.1 d r (x, ())) ((0 : Int), (([] : List Int), (near (g.1, (g.2.1, ())) r, ()))) = some e ∧ (e.1.length ≤ g.1.length ∧ ∀ x ∈ e.1, x ∈ ids g) := by
      have n1' : (near (g.1, (g.2.1, ())) r).length ≤ g.1.length := n1
      have n2' : ∀ x ∈ near (g.1, (g.2.1, ())) r, x ∈ ids g := n2
      generalize near (g.1, (g.2.1, ())) r = nr at n1' n2' ⊢
      refine Loop_cnt (step := r106_s0 g.1 g.2.1 d r (x, ())) (fun k (out : List Int) => ((k : Int), (out, (nr, ())))) nr.length (fun k out => out.length ≤ k ∧ ∀ x ∈ out, x ∈ ids g) (fun e => e.1.length ≤ g.1.length ∧ ∀ x ∈ e.1, x ∈ ids g) (fun k out hk hJ => ?_) (fun out hJ => ?_) [] ⟨Nat.le_refl _, fun x hx => (by cases hx)⟩
      · obtain ⟨v, hv⟩ := x109_ok g d (nr.getD (Int.toNat (k : Int)) 0) (by omega) hd
        have hv' : x109 (g.1, (g.2.1, ())) d (nr.getD (Int.toNat (k : Int)) 0) = some (v, ()) := hv
        unfold r106_s0
        simp only
        rw [ltT hk, nnT, wi64n (by omega), blt_t (show Int.toNat (k : Int) < nr.length by simp; omega), hv']
        simp only [Bool.and_self, cond_true, Option.bind_some]
        have fin : ∀ q : Bool, ∃ s', (Option.bind (some (nr, (q, ()))) fun (y6 : List Int × (Bool × Unit)) => Option.bind (bif y6.2.1 then (bif decide ((0 : Int) ≤ (k : Int)) && decide ((k : Int) < Int.ofNat y6.1.length) then (bif Nat.blt (Int.toNat (k : Int)) y6.1.length then (bif Nat.ble ((out.length + 1) * 8) 140737488355328 then some (out ++ [y6.1.getD (Int.toNat (k : Int)) 0], (y6.1, ())) else none) else none) else none) else some (out, (y6.1, ()))) fun y7 => some (Sum.inl (((k + 1 : Nat) : Int), y7))) = (some (.inl (((k + 1 : Nat) : Int), (s', (nr, ())))) : Option (Sum (Int × (List Int × (List Int × Unit))) (List Int × Unit))) ∧ (s'.length ≤ k + 1 ∧ ∀ x ∈ s', x ∈ ids g) := by
          intro q
          simp only [Option.bind_some]
          rw [ltT hk, nnT, blt_t (show Int.toNat (k : Int) < nr.length by simp; omega), ble_t (show (out.length + 1) * 8 ≤ 140737488355328 by omega)]
          cases q with
          | false => exact ⟨out, rfl, by omega, hJ.2⟩
          | true =>
            refine ⟨_, rfl, by simp; omega, fun y hy => ?_⟩
            rcases List.mem_append.1 hy with hy | hy
            · exact hJ.2 y hy
            · rw [List.mem_singleton.1 hy]
              exact n2' _ (getD_mem (by simp; omega))
        right
        cases hc : decide (v < 1073741824) with
        | true =>
          simp only [cond_true, Option.bind_some]
          exact fin _
        | false =>
          simp only [cond_false, Bool.not_false, cond_true]
          exact fin false
      · unfold r106_s0
        simp only
        rw [ltF]
        exact ⟨_, rfl, by show out.length ≤ _; omega, hJ.2⟩
    obtain ⟨e, h1, h2, h3⟩ := hL
    rw [h1]
    by_cases c1 : x = 1073741824
    · rw [dT c1]; exact ⟨[], rfl, Nat.zero_le _, fun x hx => (by cases hx)⟩
    · rw [dF c1]
      simp only [Bool.not_false, cond_true, Option.bind_some]
      cases decide (x = 0) with
      | true => exact ⟨[], rfl, Nat.zero_le _, fun x hx => (by cases hx)⟩
      | false => exact ⟨e.1, rfl, h2, h3⟩
  exact tail
theorem x102_ok (g : To) (a b : Int) (hn : g.1.length ≤ 100) (hl : g.2.1.length ≤ 1000) : ∃ l, x102 g a b = some (l, ()) ∧ l.length ≤ 11000 := by
  have main : hasT g b = true → ∃ l, (Option.bind (x105 (g.1, (g.2.1, ())) b) fun y5 => Option.bind (Loop (r102_s1 g.1 g.2.1 y5) ((0 : Int), (([] : List Int), ([a], ())))) fun y6 => some y6) = some (l, ()) ∧ l.length ≤ 11000 := by
    intro hb
    have h0 : 0 < g.1.length := by
      unfold hasT Sp13.hasR at hb
      rw [Bool.and_eq_true, List.any_eq_true] at hb
      obtain ⟨-, y, hy, -⟩ := hb
      exact List.length_pos_iff.2 (List.ne_nil_of_mem hy)
    obtain ⟨d, hd, hdl⟩ := x105_ok g b (by omega) (by omega) h0
    have hd' : x105 (g.1, (g.2.1, ())) b = some (d, ()) := hd
    rw [hd']
    simp only [Option.bind_some]
    have cap : ∀ seen : List Int, seen.Nodup → (∀ x ∈ seen, x ∈ a :: ids g) → seen.length ≤ 101 := fun seen h1 h2 => by
      have := h1.length_le_of_subset (l₂ := a :: ids g) h2
      simp at this
      omega
    have inner : ∀ (nr : List Int) (seen0 out0 : List Int), nr.length ≤ g.1.length → (∀ x ∈ nr, x ∈ ids g) → seen0.Nodup → (∀ x ∈ seen0, x ∈ a :: ids g) → out0.length ≤ 20000 →
        ∃ e, Loop (r102_s0 g.1 g.2.1 (nr, ())) (seen0, (out0, ((0 : Int), ()))) = some e ∧ (e.1.Nodup ∧ (∀ x ∈ e.1, x ∈ a :: ids g) ∧ seen0.length ≤ e.1.length ∧ e.2.1.length ≤ out0.length + nr.length) := by
      intro nr seen0 out0 m1 m2 m3 m4 m5
      refine Loop_cnt (step := r102_s0 g.1 g.2.1 (nr, ())) (fun k (s : List Int × List Int) => (s.1, (s.2, ((k : Int), ())))) nr.length (fun k s => s.1.Nodup ∧ (∀ x ∈ s.1, x ∈ a :: ids g) ∧ seen0.length ≤ s.1.length ∧ s.2.length ≤ out0.length + k)
        (fun e => e.1.Nodup ∧ (∀ x ∈ e.1, x ∈ a :: ids g) ∧ seen0.length ≤ e.1.length ∧ e.2.1.length ≤ out0.length + nr.length) (fun k s hk hJ => ?_) (fun s hJ => ?_) (seen0, out0) ⟨m3, m4, Nat.le_refl _, Nat.le_refl _⟩
      · obtain ⟨j1, j2, j3, j4⟩ := hJ
        have hc := cap s.1 j1 j2
        unfold r102_s0
        simp only
        rw [ltT hk, nnT, wi64n (by omega)]
        simp only [Bool.and_self, cond_true]
        cases capT (g.1, (g.2.1, ())) (nr.getD (Int.toNat (k : Int)) 0) with
        | true =>
          obtain ⟨o, e1, e2⟩ := x107_ok s.2 (nr.getD (Int.toNat (k : Int)) 0) (by omega)
          simp only [cond_true]
          rw [e1]
          exact .inr ⟨(s.1, o), rfl, j1, j2, j3, by show o.length ≤ _; omega⟩
        | false =>
          simp only [cond_false]
          rw [ble_t (show (s.1.length + 1) * 8 ≤ 140737488355328 by omega)]
          cases hh : Sp13.has s.1 (nr.getD (Int.toNat (k : Int)) 0) with
          | true => exact .inr ⟨s, rfl, j1, j2, j3, by omega⟩
          | false =>
            refine .inr ⟨(s.1 ++ [nr.getD (Int.toNat (k : Int)) 0], s.2), rfl, ?_, fun x hx => ?_, by simp; omega, by show s.2.length ≤ _; omega⟩
            · refine List.nodup_append.2 ⟨j1, by simp, fun u hu v hv => ?_⟩
              rw [List.mem_singleton.1 hv]
              intro huv
              unfold Sp13.has at hh
              rw [List.any_eq_false] at hh
              have := hh u hu
              simp [huv] at this
            · rcases List.mem_append.1 hx with hx | hx
              · exact j2 x hx
              · rw [List.mem_singleton.1 hx]
                exact List.mem_cons_of_mem _ (m2 _ (getD_mem (by simp; omega)))
      · obtain ⟨j1, j2, j3, j4⟩ := hJ
        unfold r102_s0
        simp only
        rw [ltF]
        exact ⟨_, rfl, j1, j2, j3, j4⟩
    have outer : ∃ e, Loop (r102_s1 g.1 g.2.1 (d, ())) ((0 : Int), (([] : List Int), ([a], ()))) = some e ∧ e.1.length ≤ 11000 := by
      refine Loop_post (step := r102_s1 g.1 g.2.1 (d, ())) (fun v => ∃ (i : Nat) (seen out : List Int), v = ((i : Int), (out, (seen, ()))) ∧ i ≤ seen.length ∧ seen.Nodup ∧ (∀ x ∈ seen, x ∈ a :: ids g) ∧ out.length ≤ i * 100) (fun v => 102 - v.1.toNat) (fun e => e.1.length ≤ 11000) (fun v hv => ?_) ⟨0, [a], [], rfl, by simp, by simp, by simp, by simp⟩
      obtain ⟨i, seen, out, rfl, h1, h2, h3, h4⟩ := hv
      have hc := cap seen h2 h3
      unfold r102_s1
      simp only
      by_cases hlt : i < seen.length
      · rw [ltT hlt, nnT, wi64n (by omega), blt_t (show Int.toNat (i : Int) < seen.length by simp; omega)]
        obtain ⟨nr, e1, e2, e3⟩ := x106_ok g d (seen.getD (Int.toNat (i : Int)) 0) hn hdl
        have e1' : x106 (g.1, (g.2.1, ())) d (seen.getD (Int.toNat (i : Int)) 0) = some (nr, ()) := e1
        rw [e1']
        simp only [Bool.and_self, cond_true, Option.bind_some]
        obtain ⟨e, f1, f2, f3, f4, f5⟩ := inner nr seen out e2 e3 h2 h3 (by omega)
        rw [f1]
        refine .inr ⟨_, rfl, ⟨i + 1, e.1, e.2.1, rfl, by omega, f2, f3, by omega⟩, ?_⟩
        show 102 - Int.toNat ((i + 1 : Nat) : Int) < 102 - Int.toNat (i : Int)
        simp only [Int.toNat_natCast]
        omega
      · have : i = seen.length := by omega
        subst this
        rw [ltF]
        exact .inl ⟨_, rfl, by show out.length ≤ 11000; omega⟩
    obtain ⟨e, g1, g2⟩ := outer
    rw [g1]
    exact ⟨e.1, rfl, g2⟩
  unfold x102 r102
  cases ha : hasT (g.1, (g.2.1, ())) a with
  | false => exact ⟨[], rfl, by simp⟩
  | true =>
    cases hb : hasT (g.1, (g.2.1, ())) b with
    | false => exact ⟨[], rfl, by simp⟩
    | true =>
      simp only [Bool.not_true, Bool.not_false, cond_true, Option.bind_some]
      cases decide (a = b) with
      | true => exact ⟨[], rfl, by simp⟩
      | false => exact main hb
def SmallT (t : Tb) : Prop := t.2.2.2.1.length ≤ 1000 ∧ ∀ x ∈ t.2.2.2.1, x.2.1.length ≤ 11000
theorem x87_ok (g : To) (p : Pn) (r : Int) (hn : g.1.length ≤ 100) (hl : g.2.1.length ≤ 1000) (he : p.2.2.1.length ≤ 1000) : ∃ t, x87 g p r = some (t, ()) ∧ SmallT t := by
  have hL : ∃ e, Loop (r87_s0 g.1 g.2.1 p.2.2.1 r) ((r, (p.1, (p.2.1, (([] : List Rw), ())))), ((0 : Int), ())) = some e ∧ SmallT e.1 := by
    refine Loop_cnt (step := r87_s0 g.1 g.2.1 p.2.2.1 r) (fun k (rows : List Rw) => ((r, (p.1, (p.2.1, (rows, ())))), ((k : Int), ()))) p.2.2.1.length (fun k rows => rows.length ≤ k ∧ ∀ x ∈ rows, x.2.1.length ≤ 11000) (fun e => SmallT e.1) (fun k rows hk hJ => ?_) (fun rows hJ => ?_) [] ⟨Nat.le_refl _, fun x hx => (by cases hx)⟩
    · unfold r87_s0
      simp only
      rw [ltT hk, nnT, wi64n (by omega), ble_t (show (rows.length + 1) * 32 ≤ 140737488355328 by omega)]
      simp only [Bool.and_self, cond_true]
      have fin : ∀ row : Rw, row.2.1.length ≤ 11000 → (rows ++ [row]).length ≤ k + 1 ∧ ∀ x ∈ rows ++ [row], x.2.1.length ≤ 11000 := fun row hr => ⟨by simp; omega, fun x hx => by
        rcases List.mem_append.1 hx with hx | hx
        · exact hJ.2 x hx
        · rw [List.mem_singleton.1 hx]; exact hr⟩
      right
      cases decide ((p.2.2.1.getD (Int.toNat (k : Int)) zE).1 = r) with
      | true => exact ⟨rows ++ [((p.2.2.1.getD (Int.toNat (k : Int)) zE).2.1, [r], ())], rfl, fin _ (by simp)⟩
      | false =>
        simp only [cond_false]
        cases capT (g.1, (g.2.1, ())) (p.2.2.1.getD (Int.toNat (k : Int)) zE).1 with
        | false => exact ⟨rows ++ [((p.2.2.1.getD (Int.toNat (k : Int)) zE).2.1, [], ())], rfl, fin _ (by simp)⟩
        | true =>
          simp only [cond_true]
          obtain ⟨l, h1, h2⟩ := x102_ok g r (p.2.2.1.getD (Int.toNat (k : Int)) zE).1 hn hl
          have h1' : x102 (g.1, (g.2.1, ())) r (p.2.2.1.getD (Int.toNat (k : Int)) zE).1 = some (l, ()) := h1
          rw [h1']
          exact ⟨rows ++ [((p.2.2.1.getD (Int.toNat (k : Int)) zE).2.1, l, ())], rfl, fin _ h2⟩
    · unfold r87_s0
      simp only
      rw [ltF]
      exact ⟨_, rfl, by show rows.length ≤ 1000; omega, hJ.2⟩
  obtain ⟨e, h1, h2⟩ := hL
  unfold x87 r87
  rw [h1]
  exact ⟨e.1, rfl, h2⟩
theorem chkT_len {g : To} (h : chkT g = 0) : g.1.length ≤ 24 ∧ g.2.1.length ≤ 60 := by
  unfold chkT at h
  by_cases h1 : 24 < g.1.length
  · rw [dT h1] at h; exact absurd h (by simp)
  · by_cases h2 : 60 < g.2.1.length
    · rw [dF h1, dT h2] at h; exact absurd h (by simp)
    · omega
theorem validP_len {p : Pn} (h : validP p = true) : p.2.2.1.length ≤ 24 := by
  unfold validP at h
  simp only [Bool.and_eq_true, decide_eq_true_eq] at h
  exact h.1.1.1.2
theorem x57_ok (g : To) (p : Pn) : ∃ l c, x57 g p = some ((l, c, ()), ()) ∧ l.length ≤ 100 ∧ ∀ t ∈ l, SmallT t := by
  unfold x57 r57
  by_cases hg : chkT (g.1, (g.2.1, ())) = 0
  · cases hp : validP (p.1, (p.2.1, (p.2.2.1, ()))) with
    | false =>
      rw [dT hg]
      exact ⟨[], 1, rfl, by simp, fun t ht => (by cases ht)⟩
    | true =>
      rw [dT hg]
      simp only [Bool.not_true, Bool.not_false, cond_true, cond_false, Option.bind_some]
      obtain ⟨hn, hl⟩ := chkT_len hg
      have he := validP_len hp
      have hn : g.1.length ≤ 24 := hn
      have hl : g.2.1.length ≤ 60 := hl
      have he : p.2.2.1.length ≤ 24 := he
      have hL : ∃ e, Loop (r57_s0 g.1 g.2.1 p.1 p.2.1 p.2.2.1) (([] : List Tb), ((0 : Int), ())) = some e ∧ (e.1.length ≤ 100 ∧ ∀ t ∈ e.1, SmallT t) := by
        refine Loop_cnt (step := r57_s0 g.1 g.2.1 p.1 p.2.1 p.2.2.1) (fun k (l : List Tb) => (l, ((k : Int), ()))) g.1.length (fun k l => l.length ≤ k ∧ ∀ t ∈ l, SmallT t) (fun e => e.1.length ≤ 100 ∧ ∀ t ∈ e.1, SmallT t) (fun k l hk hJ => ?_) (fun l hJ => ?_) [] ⟨Nat.le_refl _, fun x hx => (by cases hx)⟩
        · unfold r57_s0
          simp only
          rw [ltT hk, nnT, wi64n (by omega), ble_t (show (l.length + 1) * 48 ≤ 140737488355328 by omega)]
          simp only [Bool.and_self, cond_true]
          right
          cases (g.1.getD (Int.toNat (k : Int)) zR).2.1 with
          | false => exact ⟨l, rfl, by omega, hJ.2⟩
          | true =>
            simp only [cond_true]
            obtain ⟨t, h1, h2⟩ := x87_ok g p (g.1.getD (Int.toNat (k : Int)) zR).1 (by omega) (by omega) (by omega)
            have h1' : x87 (g.1, (g.2.1, ())) (p.1, (p.2.1, (p.2.2.1, ()))) (g.1.getD (Int.toNat (k : Int)) zR).1 = some (t, ()) := h1
            rw [h1']
            refine ⟨l ++ [t], rfl, by simp; omega, fun x hx => ?_⟩
            rcases List.mem_append.1 hx with hx | hx
            · exact hJ.2 x hx
            · rw [List.mem_singleton.1 hx]; exact h2
        · unfold r57_s0
          simp only
          rw [ltF]
          exact ⟨_, rfl, by show l.length ≤ 100; omega, hJ.2⟩
      obtain ⟨e, h1, h2, h3⟩ := hL
      rw [h1]
      exact ⟨e.1, 0, rfl, h2, h3⟩
  · rw [dF hg]
    exact ⟨[], 1, rfl, by simp, fun t ht => (by cases ht)⟩
theorem x58_ok (t : Tb) (h : SmallT t) : ∃ t', x58 t = some (t', ()) ∧ SmallT t' := by
  obtain ⟨h1, h2⟩ := h
  have hL : ∃ e, Loop (r58_s0 t.2.2.2.1) ((0 : Int), (([] : List Rw), ())) = some e ∧ (e.1.length ≤ 1000 ∧ ∀ x ∈ e.1, x.2.1.length ≤ 11000) := by
    refine Loop_cnt (step := r58_s0 t.2.2.2.1) (fun k (l : List Rw) => ((k : Int), (l, ()))) t.2.2.2.1.length (fun k l => l.length ≤ k ∧ ∀ x ∈ l, x.2.1.length ≤ 11000) (fun e => e.1.length ≤ 1000 ∧ ∀ x ∈ e.1, x.2.1.length ≤ 11000) (fun k l hk hJ => ?_) (fun l hJ => ?_) [] ⟨Nat.le_refl _, fun x hx => (by cases hx)⟩
    · have hm := h2 _ (getD_mem (l := t.2.2.2.1) (d := zW) (i := Int.toNat (k : Int)) (by simp; omega))
      unfold r58_s0
      simp only
      rw [ltT hk, nnT, wi64n (by omega), ble_t (show (l.length + 1) * 32 ≤ 140737488355328 by omega), ble_t (show (0 + (t.2.2.2.1.getD (Int.toNat (k : Int)) zW).2.1.length) * 8 ≤ 140737488355328 by omega)]
      refine .inr ⟨l ++ [((t.2.2.2.1.getD (Int.toNat (k : Int)) zW).1, (([] ++ (t.2.2.2.1.getD (Int.toNat (k : Int)) zW).2.1), ()))], rfl, by simp; omega, fun x hx => ?_⟩
      rcases List.mem_append.1 hx with hx | hx
      · exact hJ.2 x hx
      · rw [List.mem_singleton.1 hx]
        exact hm
    · unfold r58_s0
      simp only
      rw [ltF]
      exact ⟨_, rfl, by show l.length ≤ 1000; omega, hJ.2⟩
  obtain ⟨e, g1, g2, g3⟩ := hL
  unfold x58 r58
  rw [g1]
  exact ⟨(t.1, t.2.1, t.2.2.1, e.1, ()), rfl, g2, g3⟩
theorem x26_ok {t : Tp} (hw : wf t = true) : ∃ y, x26 t 0 = some y ∧ wf y.2 = true := by
  obtain ⟨w1, l1⟩ := mixed_wf (a := 6) hw (by omega)
  unfold x26 r26
  have hw' : wf (t.1, (t.2.1, ())) = true := hw
  rw [on_true (show (wf (t.1, (t.2.1, ())) && Sp13.inside 6 1 50) = true by rw [hw']; rfl)]
  simp only [Option.bind_some]
  have w1' : wf (mixed (t.1, (t.2.1, ())) 6).2 = true := w1
  have l1' : (mixed (t.1, (t.2.1, ())) 6).1.1.length ≤ 75 := l1
  generalize mixed (t.1, (t.2.1, ())) 6 = g at w1' l1' ⊢
  rw [on_true (show (wf g.2 && small 0 && decide (g.1.1.length ≤ 1000)) = true by rw [w1', dT (show g.1.1.length ≤ 1000 by omega)]; rfl)]
  simp only [Option.bind_some]
  have w2 := (planT_wf (g := g.1) w1').1
  generalize planT g.2 g.1 0 = p at w2 ⊢
  obtain ⟨l, c, h1, h2, h3⟩ := x57_ok g.1 p.1
  rw [h1]
  simp only [Option.bind_some]
  by_cases h0 : l.length = 0
  · rw [dT (show Int.ofNat l.length = 0 by rw [h0]; rfl)]
    exact ⟨_, rfl, w2⟩
  · rw [dF (show ¬ Int.ofNat l.length = 0 by rw [Int.ofNat_eq_natCast]; omega), on_w w2]
    simp only [cond_false, Option.bind_some, Int.ofNat_eq_natCast]
    have hr := next_range (t := p.2) (n := (l.length : Int)) (by omega)
    have w3 := next_wf (n := (l.length : Int)) w2
    generalize next p.2 (l.length : Int) = y at hr w3 ⊢
    rw [dT hr.1, dT hr.2]
    obtain ⟨t', h4, h5⟩ := x58_ok (l.getD (Int.toNat y.1) zTb) (h3 _ (getD_mem (by omega)))
    simp only [Bool.and_self, cond_true]
    rw [h4]
    exact ⟨_, rfl, w3⟩
theorem beq_self' (l : List Int) : @List.beq Int instBEqOfDecidableEq l l = true := by
  show (l == l) = true
  simp
theorem spoilK_wf (p : Pk) {t : Tp} (h : wf t = true) : wf (spoilK p t).2 = true := by
  have w1 := next_wf (n := 9) h
  unfold spoilK
  simp only
  generalize next t 9 = k at w1 ⊢
  cases decide (k.1 = 0) with
  | true => exact wild_wf w1
  | false =>
  cases decide (k.1 = 1) with
  | true => exact wild_wf w1
  | false =>
  cases decide (k.1 = 2) with
  | true => exact wild_wf w1
  | false =>
  cases decide (k.1 = 3) with
  | true => exact pick_wf (l := [0, 8, 16, 24, 63, 64, 65, -8]) w1
  | false =>
  cases decide (k.1 = 4) with
  | true => exact wild_wf w1
  | false =>
  cases decide (k.1 = 5) with
  | true => exact wild_wf w1
  | false =>
  cases decide (k.1 = 6) with
  | true => exact wild_wf w1
  | false =>
  cases decide (k.1 = 7) with
  | true => exact wild_wf w1
  | false => exact text_wf2 w1
theorem packet_wf {t : Tp} {n : Int} (h : wf t = true) : wf (packet t n).2 = true := by
  have w1 : wf (pkt t).2 = true := pkt_wf h
  unfold packet
  simp only
  generalize pkt t = p at w1 ⊢
  cases decide (0 < n) with
  | false => exact w1
  | true =>
    have w2 := one_wf (n := n) w1
    simp only [cond_true]
    generalize one p.2 n = o at w2 ⊢
    cases o.1 with
    | true => exact spoilK_wf _ w2
    | false => exact w2
theorem local_len (r : Int) (o : Oc) (p : Pk) : (local1 r o p).length ≤ 64 := by
  unfold local1
  rw [List.length_map]
  have := list_len o.1
  have := ones_len o.1
  omega
theorem loop7 (y : Tp × List (List Dl × List Dl × Unit) × Unit) (h2 : y.2.1.length = 2) (hs : ∀ i, i < 2 → (y.2.1.getD i ([], [], ())).2.1 = (y.2.1.getD i ([], [], ())).1 ∧ (y.2.1.getD i ([], [], ())).1.length ≤ 64) :
    Loop (g7_s1 y) ((0 : Int), ()) = some (false, ((false, ()), ())) := by
  refine Loop_seq (step := g7_s1 y) (fun k => ((k : Int), ())) 2 _ (fun i hi => ?_) ?_ 0 (Nat.zero_le _)
  · obtain ⟨e1, l1⟩ := hs i hi
    have e1' : (y.2.1.getD (Int.toNat (i : Int)) ([], [], ())).2.1 = (y.2.1.getD (Int.toNat (i : Int)) ([], [], ())).1 := e1
    have l1' : (y.2.1.getD (Int.toNat (i : Int)) ([], [], ())).1.length ≤ 64 := l1
    have hin : Loop (g7_s0 y ((i : Int), ())) ((0 : Int), ()) = some (false, ((false, ()), ())) := by
      refine Loop_seq (step := g7_s0 y ((i : Int), ())) (fun k => ((k : Int), ())) (y.2.1.getD (Int.toNat (i : Int)) ([], [], ())).1.length _ (fun k hk => ?_) ?_ 0 (Nat.zero_le _)
      · unfold g7_s0
        simp only
        rw [e1', ltT (show i < y.2.1.length by omega), nnT, nnT, ltT hk, beq_self', wi64n (by omega)]
        simp only [decide_true, Bool.and_self, Bool.not_true, cond_true, cond_false]
      · unfold g7_s0
        simp only
        rw [ltT (show i < y.2.1.length by omega), nnT, ltF]
        rfl
    unfold g7_s1
    simp only
    rw [e1', dT (show (i : Int) < 2 by omega), ltT (show i < y.2.1.length by omega), nnT, hin, wi64n (by omega)]
    simp only [decide_true, Bool.and_self, Bool.not_true, cond_true, cond_false, Option.bind_some]
  · rfl
theorem g7_ok (a0 : (List Int)) (a1 : Int) (a2 : Int) (a3 : (List Sp13.Cp)) (a4 : Int) (a5 : Int) (a6 : Int) (a7 : Int) (a8 : Int) (a9 : Int) (a10 : Int) (a11 : Int) (a12 : Int) (a13 : (List Int)) (a14 : Int) (r0 : (Ty.sl (.int .i64)).ok a0) (r1 : IntKind.u64.has a1) (r2 : IntKind.u64.has a2) (r3 : (Ty.sl (cpT)).ok a3) (r4 : IntKind.i64.has a4) (r5 : IntKind.i64.has a5) (r6 : IntKind.i64.has a6) (r7 : IntKind.i64.has a7) (r8 : IntKind.i64.has a8) (r9 : IntKind.i64.has a9) (r10 : IntKind.i64.has a10) (r11 : IntKind.i64.has a11) (r12 : IntKind.u64.has a12) (r13 : Ty.str.ok a13) (r14 : IntKind.i64.has a14) : g7 a0 a1 a2 a3 a4 a5 a6 a7 a8 a9 a10 a11 a12 a13 a14 = some (true, ()) := by
  unfold g7
  have hw := tape_wf a0
  rw [on_ws hw (by decide)]
  simp only [Option.bind_some]
  have w1 := packet_wf (n := 4) hw
  generalize packet (Sp13.tape a0) 4 = y15 at w1 ⊢
  rw [on_w w1]
  simp only [Option.bind_some]
  have w2 := bits_wf (n := 64) w1
  generalize Bt.bits y15.2 64 = b at w2 ⊢
  obtain ⟨y, h1, -⟩ := x26_ok w2
  rw [h1]
  simp only [Option.bind_some]
  rw [loop7 _ rfl (fun i hi => ?_)]
  · rfl
  · match i, hi with
    | 0, _ => exact ⟨rfl, local_len _ _ _⟩
    | 1, _ => exact ⟨rfl, local_len _ _ _⟩
end Go.Abs.C13

namespace Go.Abs.C13
open Go Go.Proofs
theorem ok8 : FunOk Tryd.prog B 8 c8 := glue L0 gam_nil plan8 Tryd.func8 (by kernel_rfl) (by
  rintro ⟨⟨⟩, a0, ⟨⟩⟩ y r h
  exact (g8_eq a0).trans ((g8_ok a0 r.2.1).trans h))
theorem all8 : ∀ g con, lookC L8 g = some con → FunOk Tryd.prog B (g % 1000000) con := gam_cons rfl ok8 gam_nil

theorem ok83 : FunOk Tryd.prog B 83 c83 := glue L8 all8 plan83 Tryd.func83 (by kernel_rfl) (by
  rintro ⟨⟨⟩, a0, a1, ⟨⟩⟩ y r h
  exact (g83_eq a0 a1).trans ((g83_ok a0 a1 r.2.1 r.2.2.1).trans h))
theorem all83 : ∀ g con, lookC L83 g = some con → FunOk Tryd.prog B (g % 1000000) con := gam_cons rfl ok83 all8

theorem ok17 : FunOk Tryd.prog B 17 c17 := glue L83 all83 plan17 Tryd.func17 (by kernel_rfl) (by
  rintro ⟨⟨⟩, a0, ⟨⟩⟩ y r h
  exact (g17_eq a0).trans ((g17_ok a0 r.2.1).trans h))
theorem all17 : ∀ g con, lookC L17 g = some con → FunOk Tryd.prog B (g % 1000000) con := gam_cons rfl ok17 all83

theorem ok80 : FunOk Tryd.prog B 80 c80 := glue L17 all17 plan80 Tryd.func80 (by kernel_rfl) (by
  rintro ⟨⟨⟩, a0, ⟨⟩⟩ y r h
  exact (g80_eq a0).trans ((g80_ok a0 r.2.1).trans h))
theorem all80 : ∀ g con, lookC L80 g = some con → FunOk Tryd.prog B (g % 1000000) con := gam_cons rfl ok80 all17

theorem ok54 : FunOk Tryd.prog B 54 c54 := glue L80 all80 plan54 Tryd.func54 (by kernel_rfl) (by
  rintro ⟨⟨⟩, a0, ⟨⟩⟩ y r h
  exact (g54_eq a0).trans ((g54_ok a0 r.2.1).trans h))
theorem all54 : ∀ g con, lookC L54 g = some con → FunOk Tryd.prog B (g % 1000000) con := gam_cons rfl ok54 all80

theorem ok84 : FunOk Tryd.prog B 84 c84 := glue L54 all54 plan84 Tryd.func84 (by kernel_rfl) (by
  rintro ⟨⟨⟩, a0, a1, ⟨⟩⟩ y r h
  exact (g84_eq a0 a1).trans ((g84_ok a0 a1 r.2.1 r.2.2.1).trans h))
theorem all84 : ∀ g con, lookC L84 g = some con → FunOk Tryd.prog B (g % 1000000) con := gam_cons rfl ok84 all54

theorem ok46 : FunOk Tryd.prog B 46 c46 := glue L84 all84 plan46 Tryd.func46 (by kernel_rfl) (by
  rintro ⟨⟨⟩, ⟨a0, a1, a2, a3, a4, a5, a6, a7, a8, a9, ⟨⟩⟩, ⟨⟩⟩ y r h
  exact (g46_eq a0 a1 a2 a3 a4 a5 a6 a7 a8 a9).trans ((g46_ok a0 a1 a2 a3 a4 a5 a6 a7 a8 a9 r.2.1.1 r.2.1.2.1 r.2.1.2.2.1 r.2.1.2.2.2.1 r.2.1.2.2.2.2.1 r.2.1.2.2.2.2.2.1 r.2.1.2.2.2.2.2.2.1 r.2.1.2.2.2.2.2.2.2.1 r.2.1.2.2.2.2.2.2.2.2.1 r.2.1.2.2.2.2.2.2.2.2.2.1).trans h))
theorem all46 : ∀ g con, lookC L46 g = some con → FunOk Tryd.prog B (g % 1000000) con := gam_cons rfl ok46 all84

theorem ok48 : FunOk Tryd.prog B 48 c48 := glue L46 all46 plan48 Tryd.func48 (by kernel_rfl) (by
  rintro ⟨⟨⟩, a0, a1, ⟨⟩⟩ y r h
  exact (g48_eq a0 a1).trans ((g48_ok a0 a1 r.2.1 r.2.2.1).trans h))
theorem all48 : ∀ g con, lookC L48 g = some con → FunOk Tryd.prog B (g % 1000000) con := gam_cons rfl ok48 all46

theorem ok16 : FunOk Tryd.prog B 16 c16 := glue L48 all48 plan16 Tryd.func16 (by kernel_rfl) (by
  rintro ⟨⟨⟩, a0, ⟨⟩⟩ y r h
  exact (g16_eq a0).trans ((g16_ok a0 r.2.1).trans h))
theorem all16 : ∀ g con, lookC L16 g = some con → FunOk Tryd.prog B (g % 1000000) con := gam_cons rfl ok16 all48

theorem ok18 : FunOk Tryd.prog B 18 c18 := glue L16 all16 plan18 Tryd.func18 (by kernel_rfl) (by
  rintro ⟨⟨⟩, ⟨a0, a1, a2, a3, a4, a5, a6, a7, a8, a9, ⟨⟩⟩, a10, ⟨⟩⟩ y r h
  exact (g18_eq a0 a1 a2 a3 a4 a5 a6 a7 a8 a9 a10).trans ((g18_ok a0 a1 a2 a3 a4 a5 a6 a7 a8 a9 a10 r.2.1.1 r.2.1.2.1 r.2.1.2.2.1 r.2.1.2.2.2.1 r.2.1.2.2.2.2.1 r.2.1.2.2.2.2.2.1 r.2.1.2.2.2.2.2.2.1 r.2.1.2.2.2.2.2.2.2.1 r.2.1.2.2.2.2.2.2.2.2.1 r.2.1.2.2.2.2.2.2.2.2.2.1 r.2.2.1).trans h))
theorem all18 : ∀ g con, lookC L18 g = some con → FunOk Tryd.prog B (g % 1000000) con := gam_cons rfl ok18 all16

theorem ok50 : FunOk Tryd.prog B 50 c50 := glue L18 all18 plan50 Tryd.func50 (by kernel_rfl) (by
  rintro ⟨⟨⟩, a0, a1, ⟨⟩⟩ y r h
  exact (g50_eq a0 a1).trans ((g50_ok a0 a1 r.2.1 r.2.2.1).trans h))
theorem all50 : ∀ g con, lookC L50 g = some con → FunOk Tryd.prog B (g % 1000000) con := gam_cons rfl ok50 all18

theorem ok51 : FunOk Tryd.prog B 51 c51 := glue L50 all50 plan51 Tryd.func51 (by kernel_rfl) (by
  rintro ⟨⟨a0, a1, ⟨⟩⟩, ⟨⟩⟩ y r h
  obtain ⟨h1, h2⟩ := Sp13.on_some h
  subst h2
  exact (g51_eq a0 a1).trans (g51_ok a0 a1 r.1.1 r.1.2.1 h1))
theorem all51 : ∀ g con, lookC L51 g = some con → FunOk Tryd.prog B (g % 1000000) con := gam_cons rfl ok51 all50

theorem ok20 : FunOk Tryd.prog B 20 c20 := glue L51 all51 plan20 Tryd.func20 (by kernel_rfl) (by
  rintro ⟨⟨a0, a1, ⟨⟩⟩, a2, ⟨⟩⟩ y r h
  obtain ⟨h1, h2⟩ := Sp13.on_some h
  subst h2
  exact (g20_eq a0 a1 a2).trans (g20_ok a0 a1 a2 r.1.1 r.1.2.1 r.2.1 h1))
theorem all20 : ∀ g con, lookC L20 g = some con → FunOk Tryd.prog B (g % 1000000) con := gam_cons rfl ok20 all51

theorem ok49 : FunOk Tryd.prog B 49 c49 := glue L20 all20 plan49 Tryd.func49 (by kernel_rfl) (by
  rintro ⟨⟨a0, a1, ⟨⟩⟩, a2, a3, ⟨⟩⟩ y r h
  obtain ⟨h1, h2⟩ := Sp13.on_some h
  subst h2
  exact (g49_eq a0 a1 a2 a3).trans (g49_ok a0 a1 a2 a3 r.1.1 r.1.2.1 r.2.1 r.2.2.1 h1))
theorem all49 : ∀ g con, lookC L49 g = some con → FunOk Tryd.prog B (g % 1000000) con := gam_cons rfl ok49 all20

theorem ok19 : FunOk Tryd.prog B 19 c19 := glue L49 all49 plan19 Tryd.func19 (by kernel_rfl) (by
  rintro ⟨⟨a0, a1, ⟨⟩⟩, a2, ⟨⟩⟩ y r h
  obtain ⟨h1, h2⟩ := Sp13.on_some h
  subst h2
  exact (g19_eq a0 a1 a2).trans (g19_ok a0 a1 a2 r.1.1 r.1.2.1 r.2.1 h1))
theorem all19 : ∀ g con, lookC L19 g = some con → FunOk Tryd.prog B (g % 1000000) con := gam_cons rfl ok19 all49

theorem ok21 : FunOk Tryd.prog B 21 c21 := glue L19 all19 plan21 Tryd.func21 (by kernel_rfl) (by
  rintro ⟨⟨⟩, a0, a1, ⟨⟩⟩ y r h
  exact (g21_eq a0 a1).trans ((g21_ok a0 a1 r.2.1 r.2.2.1).trans h))
theorem all21 : ∀ g con, lookC L21 g = some con → FunOk Tryd.prog B (g % 1000000) con := gam_cons rfl ok21 all19

theorem ok24 : FunOk Tryd.prog B 24 c24 := glue L21 all21 plan24 Tryd.func24 (by kernel_rfl) (by
  rintro ⟨⟨a0, a1, ⟨⟩⟩, a2, ⟨⟩⟩ y r h
  obtain ⟨h1, h2⟩ := Sp13.on_some h
  subst h2
  exact (g24_eq a0 a1 a2).trans (g24_ok a0 a1 a2 r.1.1 r.1.2.1 r.2.1 h1))
theorem all24 : ∀ g con, lookC L24 g = some con → FunOk Tryd.prog B (g % 1000000) con := gam_cons rfl ok24 all21

theorem ok31 : FunOk Tryd.prog B 31 c31 := glue L24 all24 plan31 Tryd.func31 (by kernel_rfl) (by
  rintro ⟨⟨a0, a1, ⟨⟩⟩, a2, ⟨⟩⟩ y r h
  obtain ⟨h1, h2⟩ := Sp13.on_some h
  subst h2
  exact (g31_eq a0 a1 a2).trans (g31_ok a0 a1 a2 r.1.1 r.1.2.1 r.2.1 h1))
theorem all31 : ∀ g con, lookC L31 g = some con → FunOk Tryd.prog B (g % 1000000) con := gam_cons rfl ok31 all24

theorem ok33 : FunOk Tryd.prog B 33 c33 := glue L31 all31 plan33 Tryd.func33 (by kernel_rfl) (by
  rintro ⟨⟨a0, a1, ⟨⟩⟩, a2, ⟨⟩⟩ y r h
  obtain ⟨h1, h2⟩ := Sp13.on_some h
  subst h2
  exact (g33_eq a0 a1 a2).trans (g33_ok a0 a1 a2 r.1.1 r.1.2.1 r.2.1 h1))
theorem all33 : ∀ g con, lookC L33 g = some con → FunOk Tryd.prog B (g % 1000000) con := gam_cons rfl ok33 all31

theorem ok52 : FunOk Tryd.prog B 52 c52 := glue L33 all33 plan52 Tryd.func52 (by kernel_rfl) (by
  rintro ⟨⟨a0, a1, ⟨⟩⟩, ⟨⟩⟩ y r h
  obtain ⟨h1, h2⟩ := Sp13.on_some h
  subst h2
  exact (g52_eq a0 a1).trans (g52_ok a0 a1 r.1.1 r.1.2.1 h1))
theorem all52 : ∀ g con, lookC L52 g = some con → FunOk Tryd.prog B (g % 1000000) con := gam_cons rfl ok52 all33

theorem ok53 : FunOk Tryd.prog B 53 c53 := glue L52 all52 plan53 Tryd.func53 (by kernel_rfl) (by
  rintro ⟨⟨a0, a1, ⟨⟩⟩, ⟨⟩⟩ y r h
  obtain ⟨h1, h2⟩ := Sp13.on_some h
  subst h2
  exact (g53_eq a0 a1).trans (g53_ok a0 a1 r.1.1 r.1.2.1 h1))
theorem all53 : ∀ g con, lookC L53 g = some con → FunOk Tryd.prog B (g % 1000000) con := gam_cons rfl ok53 all52

theorem ok23 : FunOk Tryd.prog B 23 c23 := glue L53 all53 plan23 Tryd.func23 (by kernel_rfl) (by
  rintro ⟨⟨a0, a1, ⟨⟩⟩, a2, ⟨⟩⟩ y r h
  obtain ⟨h1, h2⟩ := Sp13.on_some h
  subst h2
  exact (g23_eq a0 a1 a2).trans (g23_ok a0 a1 a2 r.1.1 r.1.2.1 r.2.1 h1))
theorem all23 : ∀ g con, lookC L23 g = some con → FunOk Tryd.prog B (g % 1000000) con := gam_cons rfl ok23 all53

theorem ok88 : FunOk Tryd.prog B 88 c88 := glue L23 all23 plan88 Tryd.func88 (by kernel_rfl) (by
  rintro ⟨⟨⟩, a0, ⟨⟩⟩ y r h
  obtain ⟨h1, h2⟩ := Sp13.on_some h
  subst h2
  exact (g88_eq a0).trans (g88_ok a0 r.2.1 h1))
theorem all88 : ∀ g con, lookC L88 g = some con → FunOk Tryd.prog B (g % 1000000) con := gam_cons rfl ok88 all23

theorem ok60 : FunOk Tryd.prog B 60 c60 := glue L88 all88 plan60 Tryd.func60 (by kernel_rfl) (by
  rintro ⟨⟨a0, a1, ⟨⟩⟩, a2, a3, ⟨⟩⟩ y r h
  obtain ⟨h1, h2⟩ := Sp13.on_some h
  subst h2
  exact (g60_eq a0 a1 a2 a3).trans (g60_ok a0 a1 a2 a3 r.1.1 r.1.2.1 r.2.1 r.2.2.1 h1))
theorem all60 : ∀ g con, lookC L60 g = some con → FunOk Tryd.prog B (g % 1000000) con := gam_cons rfl ok60 all88

theorem ok28 : FunOk Tryd.prog B 28 c28 := glue L60 all60 plan28 Tryd.func28 (by kernel_rfl) (by
  rintro ⟨⟨a0, a1, ⟨⟩⟩, a2, ⟨⟩⟩ y r h
  obtain ⟨h1, h2⟩ := Sp13.on_some h
  subst h2
  exact (g28_eq a0 a1 a2).trans (g28_ok a0 a1 a2 r.1.1 r.1.2.1 r.2.1 h1))
theorem all28 : ∀ g con, lookC L28 g = some con → FunOk Tryd.prog B (g % 1000000) con := gam_cons rfl ok28 all60

theorem ok61 : FunOk Tryd.prog B 61 c61 := glue L28 all28 plan61 Tryd.func61 (by kernel_rfl) (by
  rintro ⟨⟨a0, a1, ⟨⟩⟩, a2, ⟨⟩⟩ y r h
  obtain ⟨h1, h2⟩ := Sp13.on_some h
  subst h2
  exact (g61_eq a0 a1 a2).trans (g61_ok a0 a1 a2 r.1.1 r.1.2.1 r.2.1 h1))
theorem all61 : ∀ g con, lookC L61 g = some con → FunOk Tryd.prog B (g % 1000000) con := gam_cons rfl ok61 all28

theorem ok29 : FunOk Tryd.prog B 29 c29 := glue L61 all61 plan29 Tryd.func29 (by kernel_rfl) (by
  rintro ⟨⟨a0, a1, ⟨⟩⟩, ⟨a2, a3, ⟨⟩⟩, a4, ⟨⟩⟩ y r h
  obtain ⟨h1, h2⟩ := Sp13.on_some h
  subst h2
  exact (g29_eq a0 a1 a2 a3 a4).trans (g29_ok a0 a1 a2 a3 a4 r.1.1 r.1.2.1 r.2.1.1 r.2.1.2.1 r.2.2.1 h1))
theorem all29 : ∀ g con, lookC L29 g = some con → FunOk Tryd.prog B (g % 1000000) con := gam_cons rfl ok29 all61

theorem ok71 : FunOk Tryd.prog B 71 c71 := glue L29 all29 plan71 Tryd.func71 (by kernel_rfl) (by
  rintro ⟨⟨⟩, a0, a1, ⟨⟩⟩ y r h
  exact (g71_eq a0 a1).trans ((g71_ok a0 a1 r.2.1 r.2.2.1).trans h))
theorem all71 : ∀ g con, lookC L71 g = some con → FunOk Tryd.prog B (g % 1000000) con := gam_cons rfl ok71 all29

theorem ok64 : FunOk Tryd.prog B 64 c64 := glue L71 all71 plan64 Tryd.func64 (by kernel_rfl) (by
  rintro ⟨⟨⟩, a0, ⟨⟩⟩ y r h
  exact (g64_eq a0).trans ((g64_ok a0 r.2.1).trans h))
theorem all64 : ∀ g con, lookC L64 g = some con → FunOk Tryd.prog B (g % 1000000) con := gam_cons rfl ok64 all71

theorem ok94 : FunOk Tryd.prog B 94 c94 := glue L64 all64 plan94 Tryd.func94 (by kernel_rfl) (by
  rintro ⟨⟨⟩, a0, ⟨⟩⟩ y r h
  exact (g94_eq a0).trans ((g94_ok a0 r.2.1).trans h))
theorem all94 : ∀ g con, lookC L94 g = some con → FunOk Tryd.prog B (g % 1000000) con := gam_cons rfl ok94 all64

theorem ok72 : FunOk Tryd.prog B 72 c72 := glue L94 all94 plan72 Tryd.func72 (by kernel_rfl) (by
  rintro ⟨⟨⟩, a0, a1, ⟨⟩⟩ y r h
  exact (g72_eq a0 a1).trans ((g72_ok a0 a1 r.2.1 r.2.2.1).trans h))
theorem all72 : ∀ g con, lookC L72 g = some con → FunOk Tryd.prog B (g % 1000000) con := gam_cons rfl ok72 all94

theorem ok35 : FunOk Tryd.prog B 35 c35 := glue L72 all72 plan35 Tryd.func35 (by kernel_rfl) (by
  rintro ⟨⟨⟩, ⟨a0, a1, a2, a3, a4, a5, a6, a7, a8, a9, ⟨⟩⟩, ⟨⟩⟩ y r h
  exact (g35_eq a0 a1 a2 a3 a4 a5 a6 a7 a8 a9).trans ((g35_ok a0 a1 a2 a3 a4 a5 a6 a7 a8 a9 r.2.1.1 r.2.1.2.1 r.2.1.2.2.1 r.2.1.2.2.2.1 r.2.1.2.2.2.2.1 r.2.1.2.2.2.2.2.1 r.2.1.2.2.2.2.2.2.1 r.2.1.2.2.2.2.2.2.2.1 r.2.1.2.2.2.2.2.2.2.2.1 r.2.1.2.2.2.2.2.2.2.2.2.1).trans h))
theorem all35 : ∀ g con, lookC L35 g = some con → FunOk Tryd.prog B (g % 1000000) con := gam_cons rfl ok35 all72

theorem ok36 : FunOk Tryd.prog B 36 c36 := glue L35 all35 plan36 Tryd.func36 (by kernel_rfl) (by
  rintro ⟨⟨⟩, ⟨a0, a1, a2, a3, a4, a5, a6, a7, a8, a9, ⟨⟩⟩, ⟨⟩⟩ y r h
  exact (g36_eq a0 a1 a2 a3 a4 a5 a6 a7 a8 a9).trans ((g36_ok a0 a1 a2 a3 a4 a5 a6 a7 a8 a9 r.2.1.1 r.2.1.2.1 r.2.1.2.2.1 r.2.1.2.2.2.1 r.2.1.2.2.2.2.1 r.2.1.2.2.2.2.2.1 r.2.1.2.2.2.2.2.2.1 r.2.1.2.2.2.2.2.2.2.1 r.2.1.2.2.2.2.2.2.2.2.1 r.2.1.2.2.2.2.2.2.2.2.2.1).trans h))
theorem all36 : ∀ g con, lookC L36 g = some con → FunOk Tryd.prog B (g % 1000000) con := gam_cons rfl ok36 all35

theorem ok73 : FunOk Tryd.prog B 73 c73 := glue L36 all36 plan73 Tryd.func73 (by kernel_rfl) (by
  rintro ⟨⟨⟩, a0, ⟨⟩⟩ y r h
  obtain ⟨h1, h2⟩ := Sp13.on_some h
  subst h2
  exact (g73_eq a0).trans (g73_ok a0 r.2.1 h1))
theorem all73 : ∀ g con, lookC L73 g = some con → FunOk Tryd.prog B (g % 1000000) con := gam_cons rfl ok73 all36

theorem ok37 : FunOk Tryd.prog B 37 c37 := glue L73 all73 plan37 Tryd.func37 (by kernel_rfl) (by
  rintro ⟨⟨⟩, a0, ⟨⟩⟩ y r h
  exact (g37_eq a0).trans ((g37_ok a0 r.2.1).trans h))
theorem all37 : ∀ g con, lookC L37 g = some con → FunOk Tryd.prog B (g % 1000000) con := gam_cons rfl ok37 all73

theorem ok74 : FunOk Tryd.prog B 74 c74 := glue L37 all37 plan74 Tryd.func74 (by kernel_rfl) (by
  rintro ⟨⟨⟩, a0, a1, a2, ⟨⟩⟩ y r h
  exact (g74_eq a0 a1 a2).trans ((g74_ok a0 a1 a2 r.2.1 r.2.2.1 r.2.2.2.1).trans h))
theorem all74 : ∀ g con, lookC L74 g = some con → FunOk Tryd.prog B (g % 1000000) con := gam_cons rfl ok74 all37

theorem ok38 : FunOk Tryd.prog B 38 c38 := glue L74 all74 plan38 Tryd.func38 (by kernel_rfl) (by
  rintro ⟨⟨⟩, a0, a1, a2, ⟨⟩⟩ y r h
  exact (g38_eq a0 a1 a2).trans ((g38_ok a0 a1 a2 r.2.1 r.2.2.1 r.2.2.2.1).trans h))
theorem all38 : ∀ g con, lookC L38 g = some con → FunOk Tryd.prog B (g % 1000000) con := gam_cons rfl ok38 all74

theorem ok41 : FunOk Tryd.prog B 41 c41 := glue L38 all38 plan41 Tryd.func41 (by kernel_rfl) (by
  rintro ⟨⟨⟩, ⟨a0, a1, a2, a3, a4, a5, a6, a7, a8, a9, ⟨⟩⟩, a10, ⟨⟩⟩ y r h
  exact (g41_eq a0 a1 a2 a3 a4 a5 a6 a7 a8 a9 a10).trans ((g41_ok a0 a1 a2 a3 a4 a5 a6 a7 a8 a9 a10 r.2.1.1 r.2.1.2.1 r.2.1.2.2.1 r.2.1.2.2.2.1 r.2.1.2.2.2.2.1 r.2.1.2.2.2.2.2.1 r.2.1.2.2.2.2.2.2.1 r.2.1.2.2.2.2.2.2.2.1 r.2.1.2.2.2.2.2.2.2.2.1 r.2.1.2.2.2.2.2.2.2.2.2.1 r.2.2.1).trans h))
theorem all41 : ∀ g con, lookC L41 g = some con → FunOk Tryd.prog B (g % 1000000) con := gam_cons rfl ok41 all38

theorem ok55 : FunOk Tryd.prog B 55 c55 := glue L41 all41 plan55 Tryd.func55 (by kernel_rfl) (by
  rintro ⟨⟨⟩, a0, ⟨⟩⟩ y r h
  exact (g55_eq a0).trans ((g55_ok a0 r.2.1).trans h))
theorem all55 : ∀ g con, lookC L55 g = some con → FunOk Tryd.prog B (g % 1000000) con := gam_cons rfl ok55 all41

theorem ok56 : FunOk Tryd.prog B 56 c56 := glue L55 all55 plan56 Tryd.func56 (by kernel_rfl) (by
  rintro ⟨⟨⟩, ⟨a0, a1, a2, a3, a4, a5, a6, a7, a8, a9, ⟨⟩⟩, a10, ⟨⟩⟩ y r h
  exact (g56_eq a0 a1 a2 a3 a4 a5 a6 a7 a8 a9 a10).trans ((g56_ok a0 a1 a2 a3 a4 a5 a6 a7 a8 a9 a10 r.2.1.1 r.2.1.2.1 r.2.1.2.2.1 r.2.1.2.2.2.1 r.2.1.2.2.2.2.1 r.2.1.2.2.2.2.2.1 r.2.1.2.2.2.2.2.2.1 r.2.1.2.2.2.2.2.2.2.1 r.2.1.2.2.2.2.2.2.2.2.1 r.2.1.2.2.2.2.2.2.2.2.2.1 r.2.2.1).trans h))
theorem all56 : ∀ g con, lookC L56 g = some con → FunOk Tryd.prog B (g % 1000000) con := gam_cons rfl ok56 all55

theorem ok89 : FunOk Tryd.prog B 89 c89 := glue L56 all56 plan89 Tryd.func89 (by kernel_rfl) (by
  rintro ⟨⟨⟩, a0, a1, a2, ⟨⟩⟩ y r h
  exact (g89_eq a0 a1 a2).trans ((g89_ok a0 a1 a2 r.2.1 r.2.2.1 r.2.2.2.1).trans h))
theorem all89 : ∀ g con, lookC L89 g = some con → FunOk Tryd.prog B (g % 1000000) con := gam_cons rfl ok89 all56

theorem ok93 : FunOk Tryd.prog B 93 c93 := glue L89 all89 plan93 Tryd.func93 (by kernel_rfl) (by
  rintro ⟨⟨⟩, a0, a1, ⟨⟩⟩ y r h
  exact (g93_eq a0 a1).trans ((g93_ok a0 a1 r.2.1 r.2.2.1).trans h))
theorem all93 : ∀ g con, lookC L93 g = some con → FunOk Tryd.prog B (g % 1000000) con := gam_cons rfl ok93 all89

theorem ok70 : FunOk Tryd.prog B 70 c70 := glue L93 all93 plan70 Tryd.func70 (by kernel_rfl) (by
  rintro ⟨⟨⟩, a0, a1, ⟨⟩⟩ y r h
  exact (g70_eq a0 a1).trans ((g70_ok a0 a1 r.2.1 r.2.2.1).trans h))
theorem all70 : ∀ g con, lookC L70 g = some con → FunOk Tryd.prog B (g % 1000000) con := gam_cons rfl ok70 all93

theorem ok98 : FunOk Tryd.prog B 98 c98 := glue L70 all70 plan98 Tryd.func98 (by kernel_rfl) (by
  rintro ⟨⟨⟩, a0, ⟨⟩⟩ y r h
  exact (g98_eq a0).trans ((g98_ok a0 r.2.1).trans h))
theorem all98 : ∀ g con, lookC L98 g = some con → FunOk Tryd.prog B (g % 1000000) con := gam_cons rfl ok98 all70

theorem ok99 : FunOk Tryd.prog B 99 c99 := glue L98 all98 plan99 Tryd.func99 (by kernel_rfl) (by
  rintro ⟨⟨⟩, ⟨a0, a1, ⟨⟩⟩, a2, ⟨⟩⟩ y r h
  exact (g99_eq a0 a1 a2).trans ((g99_ok a0 a1 a2 r.2.1.1 r.2.1.2.1 r.2.2.1).trans h))
theorem all99 : ∀ g con, lookC L99 g = some con → FunOk Tryd.prog B (g % 1000000) con := gam_cons rfl ok99 all98

theorem ok85 : FunOk Tryd.prog B 85 c85 := glue L99 all99 plan85 Tryd.func85 (by kernel_rfl) (by
  rintro ⟨⟨⟩, ⟨a0, a1, ⟨⟩⟩, ⟨⟩⟩ y r h
  exact (g85_eq a0 a1).trans ((g85_ok a0 a1 r.2.1.1 r.2.1.2.1).trans h))
theorem all85 : ∀ g con, lookC L85 g = some con → FunOk Tryd.prog B (g % 1000000) con := gam_cons rfl ok85 all99

theorem ok100 : FunOk Tryd.prog B 100 c100 := glue L85 all85 plan100 Tryd.func100 (by kernel_rfl) (by
  rintro ⟨⟨⟩, a0, ⟨⟩⟩ y r h
  exact (g100_eq a0).trans ((g100_ok a0 r.2.1).trans h))
theorem all100 : ∀ g con, lookC L100 g = some con → FunOk Tryd.prog B (g % 1000000) con := gam_cons rfl ok100 all85

theorem ok86 : FunOk Tryd.prog B 86 c86 := glue L100 all100 plan86 Tryd.func86 (by kernel_rfl) (by
  rintro ⟨⟨⟩, ⟨a0, a1, a2, ⟨⟩⟩, ⟨⟩⟩ y r h
  exact (g86_eq a0 a1 a2).trans ((g86_ok a0 a1 a2 r.2.1.1 r.2.1.2.1 r.2.1.2.2.1).trans h))
theorem all86 : ∀ g con, lookC L86 g = some con → FunOk Tryd.prog B (g % 1000000) con := gam_cons rfl ok86 all100

theorem ok96 : FunOk Tryd.prog B 96 c96 := glue L86 all86 plan96 Tryd.func96 (by kernel_rfl) (by
  rintro ⟨⟨⟩, a0, a1, ⟨⟩⟩ y r h
  exact (g96_eq a0 a1).trans ((g96_ok a0 a1 r.2.1 r.2.2.1).trans h))
theorem all96 : ∀ g con, lookC L96 g = some con → FunOk Tryd.prog B (g % 1000000) con := gam_cons rfl ok96 all86

theorem ok101 : FunOk Tryd.prog B 101 c101 := glue L96 all96 plan101 Tryd.func101 (by kernel_rfl) (by
  rintro ⟨⟨⟩, ⟨a0, a1, ⟨⟩⟩, a2, ⟨⟩⟩ y r h
  exact (g101_eq a0 a1 a2).trans ((g101_ok a0 a1 a2 r.2.1.1 r.2.1.2.1 r.2.2.1).trans h))
theorem all101 : ∀ g con, lookC L101 g = some con → FunOk Tryd.prog B (g % 1000000) con := gam_cons rfl ok101 all96

theorem ok104 : FunOk Tryd.prog B 104 c104 := glue L101 all101 plan104 Tryd.func104 (by kernel_rfl) (by
  rintro ⟨⟨⟩, ⟨a0, a1, ⟨⟩⟩, a2, ⟨⟩⟩ y r h
  exact (g104_eq a0 a1 a2).trans ((g104_ok a0 a1 a2 r.2.1.1 r.2.1.2.1 r.2.2.1).trans h))
theorem all104 : ∀ g con, lookC L104 g = some con → FunOk Tryd.prog B (g % 1000000) con := gam_cons rfl ok104 all101

theorem ok111 : FunOk Tryd.prog B 111 c111 := glue L104 all104 plan111 Tryd.func111 (by kernel_rfl) (by
  rintro ⟨⟨⟩, ⟨a0, a1, ⟨⟩⟩, a2, a3, ⟨⟩⟩ y r h
  exact (g111_eq a0 a1 a2 a3).trans ((g111_ok a0 a1 a2 a3 r.2.1.1 r.2.1.2.1 r.2.2.1 r.2.2.2.1).trans h))
theorem all111 : ∀ g con, lookC L111 g = some con → FunOk Tryd.prog B (g % 1000000) con := gam_cons rfl ok111 all104

theorem ok110 : FunOk Tryd.prog B 110 c110 := glue L111 all111 plan110 Tryd.func110 (by kernel_rfl) (by
  rintro ⟨⟨⟩, ⟨a0, a1, ⟨⟩⟩, a2, ⟨⟩⟩ y r h
  exact (g110_eq a0 a1 a2).trans ((g110_ok a0 a1 a2 r.2.1.1 r.2.1.2.1 r.2.2.1).trans h))
theorem all110 : ∀ g con, lookC L110 g = some con → FunOk Tryd.prog B (g % 1000000) con := gam_cons rfl ok110 all111

theorem ok63 : FunOk Tryd.prog B 63 c63 := glue L110 all110 plan63 Tryd.func63 (by kernel_rfl) (by
  rintro ⟨⟨⟩, a0, a1, a2, ⟨⟩⟩ y r h
  exact (g63_eq a0 a1 a2).trans ((g63_ok a0 a1 a2 r.2.1 r.2.2.1 r.2.2.2.1).trans h))
theorem all63 : ∀ g con, lookC L63 g = some con → FunOk Tryd.prog B (g % 1000000) con := gam_cons rfl ok63 all110

theorem ok92 : FunOk Tryd.prog B 92 c92 := glue L63 all63 plan92 Tryd.func92 (by kernel_rfl) (by
  rintro ⟨⟨⟩, a0, ⟨⟩⟩ y r h
  exact (g92_eq a0).trans ((g92_ok a0 r.2.1).trans h))
theorem all92 : ∀ g con, lookC L92 g = some con → FunOk Tryd.prog B (g % 1000000) con := gam_cons rfl ok92 all63

theorem ok103 : FunOk Tryd.prog B 103 c103 := glue L92 all92 plan103 Tryd.func103 (by kernel_rfl) (by
  rintro ⟨⟨⟩, a0, ⟨⟩, ⟨⟩⟩ y r h
  exact (g103_eq a0).trans ((g103_ok a0 r.2.1).trans h))
theorem all103 : ∀ g con, lookC L103 g = some con → FunOk Tryd.prog B (g % 1000000) con := gam_cons rfl ok103 all92

theorem ok91 : FunOk Tryd.prog B 91 c91 := glue L103 all103 plan91 Tryd.func91 (by kernel_rfl) (by
  rintro ⟨⟨⟩, a0, ⟨⟩, ⟨⟩⟩ y r h
  exact (g91_eq a0).trans ((g91_ok a0 r.2.1).trans h))
theorem all91 : ∀ g con, lookC L91 g = some con → FunOk Tryd.prog B (g % 1000000) con := gam_cons rfl ok91 all103

theorem ok66 : FunOk Tryd.prog B 66 c66 := glue L91 all91 plan66 Tryd.func66 (by kernel_rfl) (by
  rintro ⟨⟨⟩, ⟨a0, a1, ⟨⟩⟩, ⟨⟩⟩ y r h
  exact (g66_eq a0 a1).trans ((g66_ok a0 a1 r.2.1.1 r.2.1.2.1).trans h))
theorem all66 : ∀ g con, lookC L66 g = some con → FunOk Tryd.prog B (g % 1000000) con := gam_cons rfl ok66 all91

theorem ok67 : FunOk Tryd.prog B 67 c67 := glue L66 all66 plan67 Tryd.func67 (by kernel_rfl) (by
  rintro ⟨⟨⟩, ⟨a0, a1, ⟨⟩⟩, ⟨⟩⟩ y r h
  exact (g67_eq a0 a1).trans ((g67_ok a0 a1 r.2.1.1 r.2.1.2.1).trans h))
theorem all67 : ∀ g con, lookC L67 g = some con → FunOk Tryd.prog B (g % 1000000) con := gam_cons rfl ok67 all66

theorem ok69 : FunOk Tryd.prog B 69 c69 := glue L67 all67 plan69 Tryd.func69 (by kernel_rfl) (by
  rintro ⟨⟨⟩, ⟨a0, a1, ⟨⟩⟩, ⟨a2, a3, a4, a5, ⟨⟩⟩, ⟨⟩⟩ y r h
  exact (g69_eq a0 a1 a2 a3 a4 a5).trans ((g69_ok a0 a1 a2 a3 a4 a5 r.2.1.1 r.2.1.2.1 r.2.2.1.1 r.2.2.1.2.1 r.2.2.1.2.2.1 r.2.2.1.2.2.2.1).trans h))
theorem all69 : ∀ g con, lookC L69 g = some con → FunOk Tryd.prog B (g % 1000000) con := gam_cons rfl ok69 all67

theorem ok90 : FunOk Tryd.prog B 90 c90 := glue L69 all69 plan90 Tryd.func90 (by kernel_rfl) (by
  rintro ⟨⟨⟩, a0, ⟨⟩, ⟨⟩⟩ y r h
  exact (g90_eq a0).trans ((g90_ok a0 r.2.1).trans h))
theorem all90 : ∀ g con, lookC L90 g = some con → FunOk Tryd.prog B (g % 1000000) con := gam_cons rfl ok90 all69

theorem ok65 : FunOk Tryd.prog B 65 c65 := glue L90 all90 plan65 Tryd.func65 (by kernel_rfl) (by
  rintro ⟨⟨⟩, a0, ⟨⟩, ⟨⟩⟩ y r h
  exact (g65_eq a0).trans ((g65_ok a0 r.2.1).trans h))
theorem all65 : ∀ g con, lookC L65 g = some con → FunOk Tryd.prog B (g % 1000000) con := gam_cons rfl ok65 all90

theorem ok90v : FunOk Tryd.prog B 90 c90v := glue L65 all65 plan90v Tryd.func90 (by kernel_rfl) (by
  rintro ⟨⟨⟩, a0, ⟨⟩, ⟨⟩⟩ y r h
  exact (g90v_eq a0).trans ((g90v_ok a0 r.2.1).trans h))
theorem all90v : ∀ g con, lookC L90v g = some con → FunOk Tryd.prog B (g % 1000000) con := gam_cons rfl ok90v all65

theorem ok65w1 : FunOk Tryd.prog B 65 c65w1 := glue L90v all90v plan65w1 Tryd.func65 (by kernel_rfl) (by
  rintro ⟨⟨⟩, a0, ⟨⟩, ⟨⟩⟩ y r h
  exact (g65w1_eq a0).trans ((g65w1_ok a0 r.2.1).trans h))
theorem all65w1 : ∀ g con, lookC L65w1 g = some con → FunOk Tryd.prog B (g % 1000000) con := gam_cons rfl ok65w1 all90v

theorem ok90x : FunOk Tryd.prog B 90 c90x := glue L65w1 all65w1 plan90x Tryd.func90 (by kernel_rfl) (by
  rintro ⟨⟨⟩, a0, ⟨a1, a2, a3, a4, ⟨⟩⟩, ⟨⟩⟩ y r h
  exact (g90x_eq a0 a1 a2 a3 a4).trans ((g90x_ok a0 a1 a2 a3 a4 r.2.1 r.2.2.1.1 r.2.2.1.2.1 r.2.2.1.2.2.1 r.2.2.1.2.2.2.1).trans h))
theorem all90x : ∀ g con, lookC L90x g = some con → FunOk Tryd.prog B (g % 1000000) con := gam_cons rfl ok90x all65w1

theorem ok65w2 : FunOk Tryd.prog B 65 c65w2 := glue L90x all90x plan65w2 Tryd.func65 (by kernel_rfl) (by
  rintro ⟨⟨⟩, a0, ⟨a1, a2, a3, a4, ⟨⟩⟩, ⟨⟩⟩ y r h
  exact (g65w2_eq a0 a1 a2 a3 a4).trans ((g65w2_ok a0 a1 a2 a3 a4 r.2.1 r.2.2.1.1 r.2.2.1.2.1 r.2.2.1.2.2.1 r.2.2.1.2.2.2.1).trans h))
theorem all65w2 : ∀ g con, lookC L65w2 g = some con → FunOk Tryd.prog B (g % 1000000) con := gam_cons rfl ok65w2 all90x

theorem ok68 : FunOk Tryd.prog B 68 c68 := glue L65w2 all65w2 plan68 Tryd.func68 (by kernel_rfl) (by
  rintro ⟨⟨⟩, a0, ⟨⟩⟩ y r h
  exact (g68_eq a0).trans ((g68_ok a0 r.2.1).trans h))
theorem all68 : ∀ g con, lookC L68 g = some con → FunOk Tryd.prog B (g % 1000000) con := gam_cons rfl ok68 all65w2

theorem ok34 : FunOk Tryd.prog B 34 c34 := glue L68 all68 plan34 Tryd.func34 (by kernel_rfl) (by
  rintro ⟨⟨⟩, ⟨a0, a1, a2, a3, ⟨⟩⟩, ⟨⟩⟩ y r h
  exact (g34_eq a0 a1 a2 a3).trans ((g34_ok a0 a1 a2 a3 r.2.1.1 r.2.1.2.1 r.2.1.2.2.1 r.2.1.2.2.2.1).trans h))
theorem all34 : ∀ g con, lookC L34 g = some con → FunOk Tryd.prog B (g % 1000000) con := gam_cons rfl ok34 all68

theorem ok75 : FunOk Tryd.prog B 75 c75 := glue L34 all34 plan75 Tryd.func75 (by kernel_rfl) (by
  rintro ⟨⟨⟩, ⟨a0, a1, a2, a3, ⟨⟩⟩, a4, a5, ⟨⟩⟩ y r h
  exact (g75_eq a0 a1 a2 a3 a4 a5).trans ((g75_ok a0 a1 a2 a3 a4 a5 r.2.1.1 r.2.1.2.1 r.2.1.2.2.1 r.2.1.2.2.2.1 r.2.2.1 r.2.2.2.1).trans h))
theorem all75 : ∀ g con, lookC L75 g = some con → FunOk Tryd.prog B (g % 1000000) con := gam_cons rfl ok75 all34

theorem all95 : ∀ g con, lookC L95 g = some con → FunOk Tryd.prog B (g % 1000000) con := gam_cons rfl ok95 all75

theorem ok76 : FunOk Tryd.prog B 76 c76 := glue L95 all95 plan76 Tryd.func76 (by kernel_rfl) (by
  rintro ⟨⟨⟩, ⟨a0, a1, a2, a3, ⟨⟩⟩, a4, ⟨⟩⟩ y r h
  exact (g76_eq a0 a1 a2 a3 a4).trans ((g76_ok a0 a1 a2 a3 a4 r.2.1.1 r.2.1.2.1 r.2.1.2.2.1 r.2.1.2.2.2.1 r.2.2.1).trans h))
theorem all76 : ∀ g con, lookC L76 g = some con → FunOk Tryd.prog B (g % 1000000) con := gam_cons rfl ok76 all95

theorem ok77 : FunOk Tryd.prog B 77 c77 := glue L76 all76 plan77 Tryd.func77 (by kernel_rfl) (by
  rintro ⟨⟨⟩, ⟨a0, a1, ⟨⟩⟩, a2, ⟨⟩⟩ y r h
  obtain ⟨h1, h2⟩ := Sp13.on_some h
  subst h2
  exact (g77_eq a0 a1 a2).trans (g77_ok a0 a1 a2 r.2.1.1 r.2.1.2.1 r.2.2.1 h1))
theorem all77 : ∀ g con, lookC L77 g = some con → FunOk Tryd.prog B (g % 1000000) con := gam_cons rfl ok77 all76

theorem ok39 : FunOk Tryd.prog B 39 c39 := glue L77 all77 plan39 Tryd.func39 (by kernel_rfl) (by
  rintro ⟨⟨⟩, ⟨a0, a1, a2, a3, ⟨⟩⟩, a4, a5, ⟨⟩⟩ y r h
  exact (g39_eq a0 a1 a2 a3 a4 a5).trans ((g39_ok a0 a1 a2 a3 a4 a5 r.2.1.1 r.2.1.2.1 r.2.1.2.2.1 r.2.1.2.2.2.1 r.2.2.1 r.2.2.2.1).trans h))
theorem all39 : ∀ g con, lookC L39 g = some con → FunOk Tryd.prog B (g % 1000000) con := gam_cons rfl ok39 all77

theorem ok25 : FunOk Tryd.prog B 25 c25 := glue L39 all39 plan25 Tryd.func25 (by kernel_rfl) (by
  rintro ⟨⟨⟩, ⟨a0, a1, a2, a3, ⟨⟩⟩, a4, ⟨a5, a6, a7, ⟨⟩⟩, ⟨a8, a9, a10, a11, a12, a13, a14, a15, a16, a17, ⟨⟩⟩, ⟨⟩⟩ y r h
  exact (g25_eq a0 a1 a2 a3 a4 a5 a6 a7 a8 a9 a10 a11 a12 a13 a14 a15 a16 a17).trans ((g25_ok a0 a1 a2 a3 a4 a5 a6 a7 a8 a9 a10 a11 a12 a13 a14 a15 a16 a17 r.2.1.1 r.2.1.2.1 r.2.1.2.2.1 r.2.1.2.2.2.1 r.2.2.1 r.2.2.2.1.1 r.2.2.2.1.2.1 r.2.2.2.1.2.2.1 r.2.2.2.2.1.1 r.2.2.2.2.1.2.1 r.2.2.2.2.1.2.2.1 r.2.2.2.2.1.2.2.2.1 r.2.2.2.2.1.2.2.2.2.1 r.2.2.2.2.1.2.2.2.2.2.1 r.2.2.2.2.1.2.2.2.2.2.2.1 r.2.2.2.2.1.2.2.2.2.2.2.2.1 r.2.2.2.2.1.2.2.2.2.2.2.2.2.1 r.2.2.2.2.1.2.2.2.2.2.2.2.2.2.1).trans h))
theorem all25 : ∀ g con, lookC L25 g = some con → FunOk Tryd.prog B (g % 1000000) con := gam_cons rfl ok25 all39

theorem ok27 : FunOk Tryd.prog B 27 c27 := glue L25 all25 plan27 Tryd.func27 (by kernel_rfl) (by
  rintro ⟨⟨⟩, a0, ⟨a1, a2, a3, ⟨⟩⟩, ⟨a4, a5, a6, a7, a8, a9, a10, a11, a12, a13, ⟨⟩⟩, ⟨⟩⟩ y r h
  exact (g27_eq a0 a1 a2 a3 a4 a5 a6 a7 a8 a9 a10 a11 a12 a13).trans ((g27_ok a0 a1 a2 a3 a4 a5 a6 a7 a8 a9 a10 a11 a12 a13 r.2.1 r.2.2.1.1 r.2.2.1.2.1 r.2.2.1.2.2.1 r.2.2.2.1.1 r.2.2.2.1.2.1 r.2.2.2.1.2.2.1 r.2.2.2.1.2.2.2.1 r.2.2.2.1.2.2.2.2.1 r.2.2.2.1.2.2.2.2.2.1 r.2.2.2.1.2.2.2.2.2.2.1 r.2.2.2.1.2.2.2.2.2.2.2.1 r.2.2.2.1.2.2.2.2.2.2.2.2.1 r.2.2.2.1.2.2.2.2.2.2.2.2.2.1).trans h))
theorem all27 : ∀ g con, lookC L27 g = some con → FunOk Tryd.prog B (g % 1000000) con := gam_cons rfl ok27 all25

theorem ok40 : FunOk Tryd.prog B 40 c40 := ⟨by decide, fun _ => sem40 (ok75.sem rfl) (ok77.sem rfl) (ok96.sem rfl), fun x h => (by cases h), Tryd.f40, Tryd.func40, by kernel_rfl, by kernel_rfl⟩
theorem all40 : ∀ g con, lookC L40 g = some con → FunOk Tryd.prog B (g % 1000000) con := gam_cons rfl ok40 all27

theorem ok10 : FunOk Tryd.prog B 10 c10 := glue L40 all40 plan10 Tryd.func10 (by kernel_rfl) (by
  rintro ⟨⟨⟩, ⟨a0, a1, a2, a3, ⟨⟩⟩, ⟨a4, a5, a6, a7, a8, a9, a10, a11, a12, a13, ⟨⟩⟩, ⟨⟩⟩ y r h
  exact (g10_eq a0 a1 a2 a3 a4 a5 a6 a7 a8 a9 a10 a11 a12 a13).trans ((g10_ok a0 a1 a2 a3 a4 a5 a6 a7 a8 a9 a10 a11 a12 a13 r.2.1.1 r.2.1.2.1 r.2.1.2.2.1 r.2.1.2.2.2.1 r.2.2.1.1 r.2.2.1.2.1 r.2.2.1.2.2.1 r.2.2.1.2.2.2.1 r.2.2.1.2.2.2.2.1 r.2.2.1.2.2.2.2.2.1 r.2.2.1.2.2.2.2.2.2.1 r.2.2.1.2.2.2.2.2.2.2.1 r.2.2.1.2.2.2.2.2.2.2.2.1 r.2.2.1.2.2.2.2.2.2.2.2.2.1).trans h))
theorem all10 : ∀ g con, lookC L10 g = some con → FunOk Tryd.prog B (g % 1000000) con := gam_cons rfl ok10 all40

theorem ok42 : FunOk Tryd.prog B 42 c42 := glue L10 all10 plan42 Tryd.func42 (by kernel_rfl) (by
  rintro ⟨⟨⟩, ⟨⟩⟩ y r h
  exact (g42_eq ).trans ((g42_ok  ).trans h))
theorem all42 : ∀ g con, lookC L42 g = some con → FunOk Tryd.prog B (g % 1000000) con := gam_cons rfl ok42 all10

theorem ok11 : FunOk Tryd.prog B 11 c11 := glue L42 all42 plan11 Tryd.func11 (by kernel_rfl) (by
  rintro ⟨⟨⟩, ⟨⟩⟩ y r h
  exact (g11_eq ).trans ((g11_ok  ).trans h))
theorem all11 : ∀ g con, lookC L11 g = some con → FunOk Tryd.prog B (g % 1000000) con := gam_cons rfl ok11 all42

theorem ok107 : FunOk Tryd.prog B 107 c107 := glue L11 all11 plan107 Tryd.func107 (by kernel_rfl) (by
  rintro ⟨⟨⟩, a0, a1, ⟨⟩⟩ y r h
  exact (g107_eq a0 a1).trans ((g107_ok a0 a1 r.2.1 r.2.2.1).trans h))
theorem all107 : ∀ g con, lookC L107 g = some con → FunOk Tryd.prog B (g % 1000000) con := gam_cons rfl ok107 all11

theorem ok108 : FunOk Tryd.prog B 108 c108 := glue L107 all107 plan108 Tryd.func108 (by kernel_rfl) (by
  rintro ⟨⟨⟩, ⟨a0, a1, ⟨⟩⟩, a2, ⟨⟩⟩ y r h
  exact (g108_eq a0 a1 a2).trans ((g108_ok a0 a1 a2 r.2.1.1 r.2.1.2.1 r.2.2.1).trans h))
theorem all108 : ∀ g con, lookC L108 g = some con → FunOk Tryd.prog B (g % 1000000) con := gam_cons rfl ok108 all107

theorem ok105 : FunOk Tryd.prog B 105 c105 := glue L108 all108 plan105 Tryd.func105 (by kernel_rfl) (by
  rintro ⟨⟨⟩, ⟨a0, a1, ⟨⟩⟩, a2, ⟨⟩⟩ y r h
  exact (g105_eq a0 a1 a2).trans ((g105_ok a0 a1 a2 r.2.1.1 r.2.1.2.1 r.2.2.1).trans h))
theorem all105 : ∀ g con, lookC L105 g = some con → FunOk Tryd.prog B (g % 1000000) con := gam_cons rfl ok105 all108

theorem ok109 : FunOk Tryd.prog B 109 c109 := glue L105 all105 plan109 Tryd.func109 (by kernel_rfl) (by
  rintro ⟨⟨⟩, ⟨a0, a1, ⟨⟩⟩, a2, a3, ⟨⟩⟩ y r h
  exact (g109_eq a0 a1 a2 a3).trans ((g109_ok a0 a1 a2 a3 r.2.1.1 r.2.1.2.1 r.2.2.1 r.2.2.2.1).trans h))
theorem all109 : ∀ g con, lookC L109 g = some con → FunOk Tryd.prog B (g % 1000000) con := gam_cons rfl ok109 all105

theorem ok106 : FunOk Tryd.prog B 106 c106 := glue L109 all109 plan106 Tryd.func106 (by kernel_rfl) (by
  rintro ⟨⟨⟩, ⟨a0, a1, ⟨⟩⟩, a2, a3, ⟨⟩⟩ y r h
  exact (g106_eq a0 a1 a2 a3).trans ((g106_ok a0 a1 a2 a3 r.2.1.1 r.2.1.2.1 r.2.2.1 r.2.2.2.1).trans h))
theorem all106 : ∀ g con, lookC L106 g = some con → FunOk Tryd.prog B (g % 1000000) con := gam_cons rfl ok106 all109

theorem ok102 : FunOk Tryd.prog B 102 c102 := glue L106 all106 plan102 Tryd.func102 (by kernel_rfl) (by
  rintro ⟨⟨⟩, ⟨a0, a1, ⟨⟩⟩, a2, a3, ⟨⟩⟩ y r h
  exact (g102_eq a0 a1 a2 a3).trans ((g102_ok a0 a1 a2 a3 r.2.1.1 r.2.1.2.1 r.2.2.1 r.2.2.2.1).trans h))
theorem all102 : ∀ g con, lookC L102 g = some con → FunOk Tryd.prog B (g % 1000000) con := gam_cons rfl ok102 all106

theorem ok87 : FunOk Tryd.prog B 87 c87 := glue L102 all102 plan87 Tryd.func87 (by kernel_rfl) (by
  rintro ⟨⟨⟩, ⟨a0, a1, ⟨⟩⟩, ⟨a2, a3, a4, ⟨⟩⟩, a5, ⟨⟩⟩ y r h
  exact (g87_eq a0 a1 a2 a3 a4 a5).trans ((g87_ok a0 a1 a2 a3 a4 a5 r.2.1.1 r.2.1.2.1 r.2.2.1.1 r.2.2.1.2.1 r.2.2.1.2.2.1 r.2.2.2.1).trans h))
theorem all87 : ∀ g con, lookC L87 g = some con → FunOk Tryd.prog B (g % 1000000) con := gam_cons rfl ok87 all102

theorem ok57 : FunOk Tryd.prog B 57 c57 := glue L87 all87 plan57 Tryd.func57 (by kernel_rfl) (by
  rintro ⟨⟨⟩, ⟨a0, a1, ⟨⟩⟩, ⟨a2, a3, a4, ⟨⟩⟩, ⟨⟩⟩ y r h
  exact (g57_eq a0 a1 a2 a3 a4).trans ((g57_ok a0 a1 a2 a3 a4 r.2.1.1 r.2.1.2.1 r.2.2.1.1 r.2.2.1.2.1 r.2.2.1.2.2.1).trans h))
theorem all57 : ∀ g con, lookC L57 g = some con → FunOk Tryd.prog B (g % 1000000) con := gam_cons rfl ok57 all87

theorem ok58 : FunOk Tryd.prog B 58 c58 := glue L57 all57 plan58 Tryd.func58 (by kernel_rfl) (by
  rintro ⟨⟨⟩, ⟨a0, a1, a2, a3, ⟨⟩⟩, ⟨⟩⟩ y r h
  exact (g58_eq a0 a1 a2 a3).trans ((g58_ok a0 a1 a2 a3 r.2.1.1 r.2.1.2.1 r.2.1.2.2.1 r.2.1.2.2.2.1).trans h))
theorem all58 : ∀ g con, lookC L58 g = some con → FunOk Tryd.prog B (g % 1000000) con := gam_cons rfl ok58 all57

theorem ok59 : FunOk Tryd.prog B 59 c59 := ⟨by decide, fun _ => (by rintro x y hy; cases hy), fun x h => (by cases h), Tryd.f59, Tryd.func59, by kernel_rfl, by kernel_rfl⟩
theorem all59 : ∀ g con, lookC L59 g = some con → FunOk Tryd.prog B (g % 1000000) con := gam_cons rfl ok59 all58

theorem ok26 : FunOk Tryd.prog B 26 c26 := glue L59 all59 plan26 Tryd.func26 (by kernel_rfl) (by
  rintro ⟨⟨a0, a1, ⟨⟩⟩, a2, ⟨⟩⟩ y r h
  exact (g26_eq a0 a1 a2).trans ((g26_ok a0 a1 a2 r.1.1 r.1.2.1 r.2.1).trans h))
theorem all26 : ∀ g con, lookC L26 g = some con → FunOk Tryd.prog B (g % 1000000) con := gam_cons rfl ok26 all59
end Go.Abs.C13

namespace Go.Abs.C13
open Go Go.Proofs
set_option maxRecDepth 100000
theorem ok7 : FunOk Tryd.prog B 7 c7 := glue L26 all26 plan7 Tryd.func7 (by kernel_rfl) (by
  rintro ⟨⟨⟩, a0, ⟨a1, a2, a3, ⟨⟩⟩, ⟨a4, a5, a6, a7, a8, a9, a10, a11, a12, a13, ⟨⟩⟩, a14, ⟨⟩⟩ y r h
  exact (g7_eq a0 a1 a2 a3 a4 a5 a6 a7 a8 a9 a10 a11 a12 a13 a14).trans ((g7_ok a0 a1 a2 a3 a4 a5 a6 a7 a8 a9 a10 a11 a12 a13 a14 r.2.1 r.2.2.1.1 r.2.2.1.2.1 r.2.2.1.2.2.1 r.2.2.2.1.1 r.2.2.2.1.2.1 r.2.2.2.1.2.2.1 r.2.2.2.1.2.2.2.1 r.2.2.2.1.2.2.2.2.1 r.2.2.2.1.2.2.2.2.2.1 r.2.2.2.1.2.2.2.2.2.2.1 r.2.2.2.1.2.2.2.2.2.2.2.1 r.2.2.2.1.2.2.2.2.2.2.2.2.1 r.2.2.2.1.2.2.2.2.2.2.2.2.2.1 r.2.2.2.2.1).trans h))
end Go.Abs.C13
