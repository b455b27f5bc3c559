/- Chapter 04: proved is that functions that the laws reach keep their contracts (labels and frames); no conditions but those that each theorem states. -/
import Derived.Test.YtahapkbjmfmaaaaRunC
set_option linter.unusedVariables false
set_option linter.unusedSimpArgs false
namespace Go.Abs.C04
open Go Go.Proofs Sp04
set_option maxRecDepth 100000

theorem g39_ok (a0 : Int) (a1 : Int) (a2 : Int) (r0 : IntKind.i64.has a0) (r1 : IntKind.i64.has a1) (r2 : IntKind.i64.has a2) : g39 a0 a1 a2 = some (Sp04.inside a0 a1 a2, ()) := by
  unfold g39 Sp04.inside
  simp only [bifAnd, Option.bind_some, ge_iff_le]

theorem g42_ok (a0 : Int) (r0 : IntKind.i64.has a0) : g42 a0 = some (Sp04.router a0, ()) := by
  rfl

theorem g41_ok (a0 : Int) (r0 : IntKind.i64.has a0) : g41 a0 = some (Sp04.stray a0, ()) := by
  rfl

theorem g61_ok (a0 : Int) (r0 : IntKind.i64.has a0) : g61 a0 = some (Sp04.stray a0, ()) := by
  rfl

theorem g50_ok (a0 : Int) (a1 : Int) (a2 : Int) (r0 : IntKind.i64.has a0) (r1 : IntKind.i64.has a1) (r2 : IntKind.i64.has a2) : g50 a0 a1 a2 = some (Sp04.lost (a0, a1, a2, ()), ()) := by
  rfl

theorem idx_of {α : Type} {p : α → Bool} {l : List α} {d : α} {i : Nat} (hi : i < l.length) (hp : p (l.getD i d) = true) (hn : ∀ j, j < i → p (l.getD j d) = false) : idx p l = (i : Int) := by
  have e : ∀ j (h : j < l.length), l.getD j d = l[j] := fun j h => by simp [List.getD_eq_getElem?_getD, h]
  have h1 : l.any p = true := List.any_eq_true.2 ⟨l.getD i d, getD_mem hi, hp⟩
  have h2 : l.findIdx p = i := (List.findIdx_eq hi).2 ⟨by rw [← e i hi]; exact hp, fun j hj => by rw [← e j (by omega)]; exact hn j hj⟩
  unfold idx
  rw [h1, h2]
  rfl
theorem any_none {α : Type} {p : α → Bool} {l : List α} {d : α} (hn : ∀ j, j < l.length → p (l.getD j d) = false) : l.any p = false := by
  rw [Bool.eq_false_iff]
  intro h
  obtain ⟨x, hx, hp⟩ := List.any_eq_true.1 h
  obtain ⟨j, hj, rfl⟩ := List.getElem_of_mem hx
  have := hn j hj
  rw [show l.getD j d = l[j] by simp [List.getD_eq_getElem?_getD, hj], hp] at this
  cases this
theorem find_loop {α : Type} (f : (Int × Unit) → Option (Sum (Int × Unit) (Bool × ((Int × Unit) × Unit)))) (l : List α) (p : α → Bool) (d : α)
    (hs : ∀ i : Nat, i < l.length → f ((i : Int), ()) = some (bif p (l.getD i d) then .inr (true, ((i : Int), ()), ()) else .inl (((i + 1 : Nat) : Int), ())))
    (he : f ((l.length : Int), ()) = some (.inr (false, ((0 : Int), ()), ()))) :
    (Loop f ((0 : Int), ())).bind (fun y => bif y.1 then some y.2.1 else some ((-1 : Int), ())) = some (idx p l, ()) := by
  have key : ∀ k, k ≤ l.length → (∀ j, j < l.length - k → p (l.getD j d) = false) → (Loop f (((l.length - k : Nat) : Int), ())).bind (fun y => bif y.1 then some y.2.1 else some ((-1 : Int), ())) = some (idx p l, ()) := by
    intro k
    induction k with
    | zero =>
      intro _ hn
      rw [Loop_step, Nat.sub_zero, he]
      have := any_none (d := d) (fun j hj => hn j (by omega))
      unfold idx
      rw [this]
      rfl
    | succ k ih =>
      intro hk hn
      rw [Loop_step, hs _ (by omega)]
      cases hp : p (l.getD (l.length - (k + 1)) d) with
      | true =>
        rw [idx_of (d := d) (i := l.length - (k + 1)) (by omega) hp hn]
        rfl
      | false =>
        simp only [cond_false]
        rw [show l.length - (k + 1) + 1 = l.length - k by omega]
        refine ih (by omega) fun j hj => ?_
        by_cases hjk : j = l.length - (k + 1)
        · rw [hjk]; exact hp
        · exact hn j (by omega)
  have := key l.length (Nat.le_refl _) (fun j hj => by omega)
  rw [Nat.sub_self] at this
  exact this
theorem idx_any {α : Type} (p : α → Bool) (l : List α) : decide (idx p l ≥ 0) = l.any p := by
  unfold idx
  cases l.any p with
  | true => simp only [cond_true]; exact decide_eq_true (by omega)
  | false => rfl
theorem len_sl {t : Ty} {l : List t.den} (h : (Ty.sl t).ok l) (ht : 0 < t.bsz) : l.length ≤ 281474976710656 := by
  have h1 : l.length * t.bsz ≤ big := h.1
  have : l.length * 1 ≤ l.length * t.bsz := Nat.mul_le_mul_left _ ht
  have e : big = 281474976710656 ∨ big = 140737488355328 := by unfold big; omega
  omega

theorem g66_ok (a0 : (List Int)) (r0 : (Ty.sl (.int .i64)).ok a0) : g66 a0 = some (Sp04.idx Sp04.stray a0, ()) := by
  have hl := len_sl r0 (by decide)
  unfold g66
  refine find_loop _ a0 Sp04.stray 0 (fun i hi => ?_) ?_
  · unfold g66_s0
    simp only [Int.ofNat_eq_natCast, Int.toNat_natCast]
    rw [decide_eq_true (show (i : Int) < (a0.length : Int) by omega), decide_eq_true (show (0 : Int) ≤ (i : Int) by omega), wi64 (n := (i : Int) + 1) (by omega) (by omega)]
    cases Sp04.stray (a0.getD i 0) <;> rfl
  · unfold g66_s0
    simp only [Int.ofNat_eq_natCast]
    rw [decide_eq_false (show ¬ (a0.length : Int) < (a0.length : Int) by omega)]
    rfl

theorem g40_ok (a0 : (List Int)) (r0 : (Ty.sl (.int .i64)).ok a0) : g40 a0 = some (a0.any Sp04.stray, ()) := by
  unfold g40
  rw [idx_any]

theorem g93_ok (a0 : (List Int)) (a1 : Int) (r0 : (Ty.sl (.int .i64)).ok a0) (r1 : IntKind.i64.has a1) : g93 a0 a1 = some (Sp04.idx (fun y => decide (a1 = y)) a0, ()) := by
  have hl := len_sl r0 (by decide)
  unfold g93
  refine find_loop _ a0 (fun y => decide (a1 = y)) 0 (fun i hi => ?_) ?_
  · unfold g93_s0
    simp only [Int.ofNat_eq_natCast, Int.toNat_natCast]
    rw [decide_eq_true (show (i : Int) < (a0.length : Int) by omega), decide_eq_true (show (0 : Int) ≤ (i : Int) by omega), wi64 (n := (i : Int) + 1) (by omega) (by omega)]
    cases decide (a1 = a0.getD i 0) <;> rfl
  · unfold g93_s0
    simp only [Int.ofNat_eq_natCast]
    rw [decide_eq_false (show ¬ (a0.length : Int) < (a0.length : Int) by omega)]
    rfl

theorem g67_ok (a0 : (List Int)) (a1 : Int) (r0 : (Ty.sl (.int .i64)).ok a0) (r1 : IntKind.i64.has a1) : g67 a0 a1 = some (a0.any fun y => decide (a1 = y), ()) := by
  unfold g67
  rw [idx_any]

theorem nodup_take (l : List Int) (i : Nat) (h : i < l.length) : (l.take (i + 1)).Nodup ↔ (l.take i).Nodup ∧ (l.take i).any (fun y => decide (l.getD i 0 = y)) = false := by
  rw [take_succ_getD l i 0 h]
  constructor
  · intro hn
    have h1 := List.nodup_append.1 hn
    refine ⟨h1.1, ?_⟩
    rw [Bool.eq_false_iff]
    intro ha
    obtain ⟨x, hx, hp⟩ := List.any_eq_true.1 ha
    have hp := of_decide_eq_true hp
    exact h1.2.2 x hx (l.getD i 0) (List.mem_singleton.2 rfl) hp.symm
  · rintro ⟨h1, h2⟩
    refine List.nodup_append.2 ⟨h1, by simp, fun x hx y hy hxy => ?_⟩
    have hy := List.mem_singleton.1 hy
    rw [Bool.eq_false_iff] at h2
    exact h2 (List.any_eq_true.2 ⟨x, hx, decide_eq_true (by rw [hxy, hy])⟩)
theorem rep_loop (f : (Int × Unit) → Option (Sum (Int × Unit) (Bool × ((Bool × Unit) × Unit)))) (l : List Int)
    (hs : ∀ i : Nat, i < l.length → f ((i : Int), ()) = some (bif (l.take i).any (fun y => decide (l.getD i 0 = y)) then .inr (true, (true, ()), ()) else .inl (((i + 1 : Nat) : Int), ())))
    (he : f ((l.length : Int), ()) = some (.inr (false, (false, ()), ()))) :
    (Loop f ((0 : Int), ())).bind (fun y => bif y.1 then some y.2.1 else some (false, ())) = some (twice l, ()) := by
  have key : ∀ k, k ≤ l.length → (l.take (l.length - k)).Nodup → (Loop f (((l.length - k : Nat) : Int), ())).bind (fun y => bif y.1 then some y.2.1 else some (false, ())) = some (twice l, ()) := by
    intro k
    induction k with
    | zero =>
      intro _ hn
      rw [Nat.sub_zero, List.take_of_length_le (Nat.le_refl _)] at hn
      rw [Loop_step, Nat.sub_zero, he]
      unfold twice
      rw [decide_eq_true hn]
      rfl
    | succ k ih =>
      intro hk hn
      have h1 := nodup_take l (l.length - (k + 1)) (by omega)
      rw [show l.length - (k + 1) + 1 = l.length - k by omega] at h1
      rw [Loop_step, hs _ (by omega)]
      cases hp : (l.take (l.length - (k + 1))).any (fun y => decide (l.getD (l.length - (k + 1)) 0 = y)) with
      | true =>
        have : ¬ l.Nodup := fun h => by
          have h2 : (l.take (l.length - k)).Nodup := (List.take_sublist _ _).nodup h
          have := (h1.1 h2).2
          rw [hp] at this
          cases this
        unfold twice
        rw [decide_eq_false this]
        rfl
      | false =>
        simp only [cond_false]
        rw [show l.length - (k + 1) + 1 = l.length - k by omega]
        exact ih (by omega) (h1.2 ⟨hn, hp⟩)
  have := key l.length (Nat.le_refl _) (by rw [Nat.sub_self, List.take_zero]; exact List.nodup_nil)
  rw [Nat.sub_self] at this
  exact this

theorem g43_ok (a0 : (List Int)) (r0 : (Ty.sl (.int .i64)).ok a0) : g43 a0 = some (Sp04.twice a0, ()) := by
  have hl := len_sl r0 (by decide)
  unfold g43
  refine rep_loop _ a0 (fun i hi => ?_) ?_
  · unfold g43_s0
    simp only [Int.ofNat_eq_natCast, Int.toNat_natCast, List.drop_zero]
    rw [decide_eq_true (show (i : Int) < (a0.length : Int) by omega), decide_eq_true (show (0 : Int) ≤ (i : Int) by omega), decide_eq_true (show (i : Int) ≤ (a0.length : Int) by omega), wi64 (n := (i : Int) + 1) (by omega) (by omega)]
    cases (a0.take i).any (fun y => decide (a0.getD i 0 = y)) <;> rfl
  · unfold g43_s0
    simp only [Int.ofNat_eq_natCast]
    rw [decide_eq_false (show ¬ (a0.length : Int) < (a0.length : Int) by omega)]
    rfl

theorem rep_in (l : List Int) (i : Nat) (hi : i < l.length) (hl : l.length ≤ 281474976710656) : Loop (g45_s0 l ((i : Int), ())) ((0 : Int), ()) = some (bif (l.take i).any (fun y => decide (l.getD i 0 = y)) then (true, (true, ()), ()) else (false, (false, ()), ())) := by
  have hlen : (l.take i).length = i := by rw [List.length_take]; omega
  have e : ∀ j, j < i → (l.take i).getD j 0 = l.getD j 0 := fun j hj => by
    simp only [List.getD_eq_getElem?_getD]
    rw [List.getElem?_take_of_lt hj]
  have key : ∀ k, k ≤ i → (∀ j, j < i - k → decide (l.getD i 0 = l.getD j 0) = false) → Loop (g45_s0 l ((i : Int), ())) (((i - k : Nat) : Int), ()) = some (bif (l.take i).any (fun y => decide (l.getD i 0 = y)) then (true, (true, ()), ()) else (false, (false, ()), ())) := by
    intro k
    induction k with
    | zero =>
      intro _ hn
      have := any_none (l := l.take i) (d := 0) (p := fun y => decide (l.getD i 0 = y)) (fun j hj => by
        rw [hlen] at hj
        rw [e j hj]
        exact hn j (by omega))
      rw [Loop_step, this]
      unfold g45_s0
      simp only [Nat.sub_zero]
      rw [decide_eq_false (show ¬ (i : Int) < (i : Int) by omega)]
      rfl
    | succ k ih =>
      intro hk hn
      rw [Loop_step]
      have hs : g45_s0 l ((i : Int), ()) (((i - (k + 1) : Nat) : Int), ()) = some (bif decide (l.getD i 0 = l.getD (i - (k + 1)) 0) then .inr (true, (true, ()), ()) else .inl (((i - k : Nat) : Int), ())) := by
        unfold g45_s0
        simp only [Int.ofNat_eq_natCast, Int.toNat_natCast]
        rw [decide_eq_true (show ((i - (k + 1) : Nat) : Int) < (i : Int) by omega), decide_eq_true (show (0 : Int) ≤ (i : Int) by omega), decide_eq_true (show (i : Int) < (l.length : Int) by omega), decide_eq_true (show (0 : Int) ≤ ((i - (k + 1) : Nat) : Int) by omega),
          decide_eq_true (show ((i - (k + 1) : Nat) : Int) < (l.length : Int) by omega), wi64 (n := ((i - (k + 1) : Nat) : Int) + 1) (by omega) (by omega), show ((i - (k + 1) : Nat) : Int) + 1 = ((i - k : Nat) : Int) by omega]
        cases decide (l.getD i 0 = l.getD (i - (k + 1)) 0) <;> rfl
      rw [hs]
      cases hp : decide (l.getD i 0 = l.getD (i - (k + 1)) 0) with
      | true =>
        have : (l.take i).any (fun y => decide (l.getD i 0 = y)) = true := List.any_eq_true.2 ⟨l.getD (i - (k + 1)) 0, by rw [← e _ (by omega)]; exact getD_mem (by omega), hp⟩
        rw [this]
        rfl
      | false =>
        refine ih (by omega) fun j hj => ?_
        by_cases hjk : j = i - (k + 1)
        · rw [hjk]; exact hp
        · exact hn j (by omega)
  have := key i (Nat.le_refl _) (fun j hj => by omega)
  rw [Nat.sub_self] at this
  exact this

theorem g45_ok (a0 : (List Int)) (r0 : (Ty.sl (.int .i64)).ok a0) : g45 a0 = some (Sp04.twice a0, ()) := by
  have hl := len_sl r0 (by decide)
  unfold g45
  refine rep_loop _ a0 (fun i hi => ?_) ?_
  · unfold g45_s1
    simp only [Int.ofNat_eq_natCast]
    rw [decide_eq_true (show (i : Int) < (a0.length : Int) by omega), rep_in a0 i hi hl, wi64 (n := (i : Int) + 1) (by omega) (by omega)]
    cases (a0.take i).any (fun y => decide (a0.getD i 0 = y)) <;> rfl
  · unfold g45_s1
    simp only [Int.ofNat_eq_natCast]
    rw [decide_eq_false (show ¬ (a0.length : Int) < (a0.length : Int) by omega)]
    rfl

theorem g12_ok (a0 : Int) (a1 : Int) (a2 : Int) (r0 : IntKind.i64.has a0) (r1 : IntKind.i64.has a1) (r2 : IntKind.i64.has a2) : g12 a0 a1 a2 = some (Sp04.validL (a0, a1, a2, ()), ()) := by
  unfold g12 Sp04.validL
  simp only [bifAnd, Option.bind_some, Bool.and_assoc]

theorem g13_ok (a0 : Int) (a1 : Int) (a2 : Int) (r0 : IntKind.i64.has a0) (r1 : IntKind.i64.has a1) (r2 : IntKind.i64.has a2) : g13 a0 a1 a2 = some (Sp04.validL (a0, a1, a2, ()), ()) := by
  unfold g13 Sp04.validL Sp04.inside
  simp only [bifAnd, Option.bind_some, Bool.and_assoc, ge_iff_le]

end Go.Abs.C04

namespace Go.Abs.C04
open Go Go.Proofs Sp04
set_option maxRecDepth 100000

theorem g66v_ok (a0 : (List Int)) (r0 : (Ty.sl (.int .i64)).ok a0) : g66v a0 = some (Sp04.idx Sp04.stray a0, ()) := by
  have hl := len_sl r0 (by decide)
  unfold g66v
  refine find_loop _ a0 Sp04.stray 0 (fun i hi => ?_) ?_
  · unfold g66v_s0
    simp only [Int.ofNat_eq_natCast, Int.toNat_natCast]
    rw [decide_eq_true (show (i : Int) < (a0.length : Int) by omega), decide_eq_true (show (0 : Int) ≤ (i : Int) by omega), wi64 (n := (i : Int) + 1) (by omega) (by omega)]
    cases Sp04.stray (a0.getD i 0) <;> rfl
  · unfold g66v_s0
    simp only [Int.ofNat_eq_natCast]
    rw [decide_eq_false (show ¬ (a0.length : Int) < (a0.length : Int) by omega)]
    rfl

theorem g40v_ok (a0 : (List Int)) (r0 : (Ty.sl (.int .i64)).ok a0) : g40v a0 = some (a0.any Sp04.stray, ()) := by
  unfold g40v
  rw [idx_any]

theorem g55_ok (a0 : Int) (a1 : Int) (a2 : Int) (r0 : IntKind.i64.has a0) (r1 : IntKind.i64.has a1) (r2 : IntKind.i64.has a2) (h : (Sp04.near (a0, a1, a2, ())) = true) : g55 a0 a1 a2 = some (Sp04.alien (a0, a1, a2, ()), ()) := by
  have h : -4611686018427387904 ≤ a0 ∧ a0 ≤ 4611686018427387904 := inside_iff.1 h
  unfold g55 alien stray
  rw [wi64 (n := a0 - 16) (by omega) (by omega)]
  simp only
  cases Sp04.router (a0 - 16) <;> cases decide (a1 = 0) <;> rfl

theorem g72_ok (a0 : (List (Int × (Int × (Int × Unit))))) (r0 : (Ty.sl (.st 24 (.cons (.int .i64) (.cons (.int .i64) (.cons (.int .i64) .unit))))).ok a0) : g72 a0 = some (Sp04.idx Sp04.lost a0, ()) := by
  have hl := len_sl r0 (by decide)
  unfold g72
  refine find_loop _ a0 Sp04.lost (0, 0, 0, ()) (fun i hi => ?_) ?_
  · unfold g72_s0
    simp only [Int.ofNat_eq_natCast, Int.toNat_natCast]
    rw [decide_eq_true (show (i : Int) < (a0.length : Int) by omega), decide_eq_true (show (0 : Int) ≤ (i : Int) by omega), wi64 (n := (i : Int) + 1) (by omega) (by omega)]
    cases Sp04.lost (a0.getD i (0, 0, 0, ())) <;> rfl
  · unfold g72_s0
    simp only [Int.ofNat_eq_natCast]
    rw [decide_eq_false (show ¬ (a0.length : Int) < (a0.length : Int) by omega)]
    rfl

theorem g49_ok (a0 : (List (Int × (Int × (Int × Unit))))) (r0 : (Ty.sl (.st 24 (.cons (.int .i64) (.cons (.int .i64) (.cons (.int .i64) .unit))))).ok a0) : g49 a0 = some (a0.any Sp04.lost, ()) := by
  unfold g49
  rw [idx_any]

theorem g72v_ok (a0 : (List (Int × (Int × (Int × Unit))))) (r0 : (Ty.sl (.st 24 (.cons (.int .i64) (.cons (.int .i64) (.cons (.int .i64) .unit))))).ok a0) (h : (a0.all Sp04.near) = true) : g72v a0 = some (Sp04.idx Sp04.alien a0, ()) := by
  have hl := len_sl r0 (by decide)
  unfold g72v
  refine find_loop _ a0 Sp04.alien (0, 0, 0, ()) (fun i hi => ?_) ?_
  · unfold g72v_s0
    simp only [Int.ofNat_eq_natCast, Int.toNat_natCast]
    rw [decide_eq_true (show (i : Int) < (a0.length : Int) by omega), decide_eq_true (show (0 : Int) ≤ (i : Int) by omega), wi64 (n := (i : Int) + 1) (by omega) (by omega), on_true (List.all_eq_true.1 h _ (getD_mem hi))]
    cases Sp04.alien (a0.getD i (0, 0, 0, ())) <;> rfl
  · unfold g72v_s0
    simp only [Int.ofNat_eq_natCast]
    rw [decide_eq_false (show ¬ (a0.length : Int) < (a0.length : Int) by omega)]
    rfl

theorem g49v_ok (a0 : (List (Int × (Int × (Int × Unit))))) (r0 : (Ty.sl (.st 24 (.cons (.int .i64) (.cons (.int .i64) (.cons (.int .i64) .unit))))).ok a0) (h : (a0.all Sp04.near) = true) : g49v a0 = some (a0.any Sp04.alien, ()) := by
  unfold g49v
  rw [on_true h]
  simp only [Option.bind_some]
  rw [idx_any]

theorem scan_loop {ρ : Type} (f : (Int × Unit) → Option (Sum (Int × Unit) ρ)) (n : Nat) (q : Nat → Bool) (r e : ρ) (hs : ∀ i : Nat, i < n → f ((i : Int), ()) = some (bif q i then .inr r else .inl (((i + 1 : Nat) : Int), ())))
    (he : f ((n : Int), ()) = some (.inr e)) : Loop f ((0 : Int), ()) = some (bif (List.range n).any q then r else e) := by
  have key : ∀ k, k ≤ n → (∀ j, j < n - k → q j = false) → Loop f (((n - k : Nat) : Int), ()) = some (bif (List.range n).any q then r else e) := by
    intro k
    induction k with
    | zero =>
      intro _ hn
      have : (List.range n).any q = false := by
        rw [Bool.eq_false_iff]
        intro h
        obtain ⟨x, hx, hp⟩ := List.any_eq_true.1 h
        rw [hn x (by have := List.mem_range.1 hx; omega)] at hp
        cases hp
      rw [Loop_step, Nat.sub_zero, he, this]
      rfl
    | succ k ih =>
      intro hk hn
      rw [Loop_step, hs _ (by omega)]
      cases hp : q (n - (k + 1)) with
      | true =>
        have : (List.range n).any q = true := List.any_eq_true.2 ⟨n - (k + 1), List.mem_range.2 (by omega), hp⟩
        rw [this]
        rfl
      | false =>
        simp only [cond_false]
        rw [show n - (k + 1) + 1 = n - k by omega]
        refine ih (by omega) fun j hj => ?_
        by_cases hjk : j = n - (k + 1)
        · rw [hjk]; exact hp
        · exact hn j (by omega)
  have := key n (Nat.le_refl _) (fun j hj => by omega)
  rw [Nat.sub_self] at this
  exact this
theorem any_ne {α : Type} [DecidableEq α] {a b : List α} (d : α) (h : a.length = b.length) : (List.range a.length).any (fun i => !decide (a.getD i d = b.getD i d)) = !decide (a = b) := by
  by_cases hab : a = b
  · subst hab
    simp
  · rw [decide_eq_false hab]
    rw [Bool.not_false]
    refine Classical.byContradiction fun hn => hab ?_
    have hn := Bool.eq_false_iff.2 hn
    refine List.ext_getElem h fun i hi hi' => ?_
    refine Classical.byContradiction fun hne => ?_
    rw [Bool.eq_false_iff] at hn
    refine hn (List.any_eq_true.2 ⟨i, List.mem_range.2 hi, ?_⟩)
    rw [show a.getD i d = a[i] by simp [List.getD_eq_getElem?_getD, hi], show b.getD i d = b[i] by simp [List.getD_eq_getElem?_getD, hi'], decide_eq_false hne]
    rfl

theorem g57_ok (a0 : (List Int)) (a1 : (List Int)) (r0 : (Ty.sl (.int .i64)).ok a0) (r1 : (Ty.sl (.int .i64)).ok a1) : g57 a0 a1 = some (decide (a0 = a1), ()) := by
  have hl := len_sl r0 (by decide)
  unfold g57
  by_cases hlen : a0.length = a1.length
  rotate_left
  · have h1 : ¬ Int.ofNat a0.length = Int.ofNat a1.length := fun h => hlen (Int.ofNat.inj h)
    have h2 : ¬ a0 = a1 := fun h => hlen (by rw [h])
    rw [decide_eq_false h1, decide_eq_false h2]
    rfl
  have h1 : Int.ofNat a0.length = Int.ofNat a1.length := by rw [hlen]
  have hs : ∀ k : Nat, k < a0.length → g57_s0 a0 a1 ((k : Int), ()) = some (bif !decide (a0.getD k 0 = a1.getD k 0) then .inr (true, (false, ()), ()) else .inl (((k + 1 : Nat) : Int), ())) := by
    intro k hk
    unfold g57_s0
    simp only [Int.ofNat_eq_natCast, Int.toNat_natCast]
    rw [decide_eq_true (show (k : Int) < (a0.length : Int) by omega), decide_eq_true (show (0 : Int) ≤ (k : Int) by omega), decide_eq_true (show (k : Int) < (a1.length : Int) by omega), wi64 (n := (k : Int) + 1) (by omega) (by omega)]
    cases decide (a0.getD k 0 = a1.getD k 0) <;> rfl
  have he : g57_s0 a0 a1 ((a0.length : Int), ()) = some (.inr (false, (false, ()), ())) := by
    unfold g57_s0
    simp only [Int.ofNat_eq_natCast]
    rw [decide_eq_false (show ¬ (a0.length : Int) < (a0.length : Int) by omega)]
    rfl
  rw [decide_eq_true h1, scan_loop _ a0.length (fun k => !decide (a0.getD k 0 = a1.getD k 0)) _ _ hs he, any_ne 0 hlen]
  cases decide (a0 = a1) <;> rfl

theorem all_router : ∀ l : List Int, l.all Sp04.router = !l.any Sp04.stray
  | [] => rfl
  | x :: l => by simp only [List.all_cons, List.any_cons, all_router l, stray, Bool.not_or, Bool.not_not]

theorem g14_ok (a0 : (List Int)) (a1 : Int) (a2 : Int) (a3 : Int) (a4 : Int) (a5 : Int) (a6 : Int) (a7 : Int) (a8 : Int) (a9 : Int) (a10 : (List Int)) (r0 : (Ty.sl (.int .i64)).ok a0) (r1 : IntKind.i64.has a1) (r2 : IntKind.i64.has a2) (r3 : IntKind.i64.has a3) (r4 : IntKind.i64.has a4) (r5 : IntKind.i64.has a5) (r6 : IntKind.i64.has a6) (r7 : IntKind.i64.has a7) (r8 : IntKind.i64.has a8) (r9 : IntKind.u64.has a9) (r10 : Ty.str.ok a10) : g14 a0 a1 a2 a3 a4 a5 a6 a7 a8 a9 a10 = some (Sp04.validF (a0, a1, a2, a3, a4, a5, a6, a7, a8, a9, a10, ()), ()) := by
  unfold g14 Sp04.validF
  have e2 : decide (Int.ofNat a0.length ≤ 24) = decide (a0.length ≤ 24) := decide_eq_decide.2 (by simp only [Int.ofNat_eq_natCast]; omega)
  rw [all_router, e2]
  cases decide (a0.length ≤ 24) <;> cases a0.any Sp04.stray <;> cases Sp04.twice a0 <;> rfl

end Go.Abs.C04

namespace Go.Abs.C04
open Go Go.Proofs Sp04
set_option maxRecDepth 100000

theorem any_idx {α : Type} (p : α → Bool) (d : α) (l : List α) : (List.range l.length).any (fun k => p (l.getD k d)) = l.any p := by
  rw [Bool.eq_iff_iff, List.any_eq_true, List.any_eq_true]
  constructor
  · rintro ⟨k, hk, hp⟩
    exact ⟨_, getD_mem (List.mem_range.1 hk), hp⟩
  · rintro ⟨x, hx, hp⟩
    obtain ⟨k, hk, rfl⟩ := List.getElem_of_mem hx
    exact ⟨k, List.mem_range.2 hk, by rw [show l.getD k d = l[k] by simp [List.getD_eq_getElem?_getD, hk]]; exact hp⟩

theorem g15_ok (a0 : (List Int)) (a1 : Int) (a2 : Int) (a3 : Int) (a4 : Int) (a5 : Int) (a6 : Int) (a7 : Int) (a8 : Int) (a9 : Int) (a10 : (List Int)) (r0 : (Ty.sl (.int .i64)).ok a0) (r1 : IntKind.i64.has a1) (r2 : IntKind.i64.has a2) (r3 : IntKind.i64.has a3) (r4 : IntKind.i64.has a4) (r5 : IntKind.i64.has a5) (r6 : IntKind.i64.has a6) (r7 : IntKind.i64.has a7) (r8 : IntKind.i64.has a8) (r9 : IntKind.u64.has a9) (r10 : Ty.str.ok a10) : g15 a0 a1 a2 a3 a4 a5 a6 a7 a8 a9 a10 = some (Sp04.validF (a0, a1, a2, a3, a4, a5, a6, a7, a8, a9, a10, ()), ()) := by
  have hl := len_sl r0 (by decide)
  have hs : ∀ k : Nat, k < a0.length → g15_s0 a0 ((k : Int), ()) = some (bif Sp04.stray (a0.getD k 0) then .inr (true, (false, ()), ()) else .inl (((k + 1 : Nat) : Int), ())) := by
    intro k hk
    unfold g15_s0
    simp only [Int.ofNat_eq_natCast, Int.toNat_natCast]
    rw [decide_eq_true (show (k : Int) < (a0.length : Int) by omega), decide_eq_true (show (0 : Int) ≤ (k : Int) by omega), wi64 (n := (k : Int) + 1) (by omega) (by omega)]
    unfold stray Sp04.router Sp04.inside
    by_cases h1 : a0.getD k 0 < 1
    · rw [decide_eq_true h1, decide_eq_false (show ¬ 1 ≤ a0.getD k 0 by omega)]
      rfl
    · rw [decide_eq_false h1, decide_eq_true (show 1 ≤ a0.getD k 0 by omega)]
      by_cases h2 : a0.getD k 0 ≤ 99
      · rw [decide_eq_true h2, decide_eq_false (show ¬ a0.getD k 0 > 99 by omega)]
        rfl
      · rw [decide_eq_false h2, decide_eq_true (show a0.getD k 0 > 99 by omega)]
        rfl
  have he : g15_s0 a0 ((a0.length : Int), ()) = some (.inr (false, (false, ()), ())) := by
    unfold g15_s0
    simp only [Int.ofNat_eq_natCast]
    rw [decide_eq_false (show ¬ (a0.length : Int) < (a0.length : Int) by omega)]
    rfl
  unfold g15 Sp04.validF
  have e2 : decide (Int.ofNat a0.length > 24) = !decide (a0.length ≤ 24) := by
    by_cases h : a0.length ≤ 24
    · rw [decide_eq_true h, decide_eq_false (by simp only [Int.ofNat_eq_natCast]; omega)]; rfl
    · rw [decide_eq_false h, decide_eq_true (by simp only [Int.ofNat_eq_natCast]; omega)]; rfl
  rw [scan_loop _ a0.length (fun k => Sp04.stray (a0.getD k 0)) _ _ hs he, any_idx, e2, all_router]
  cases decide (a0.length ≤ 24) <;> cases a0.any Sp04.stray <;> cases Sp04.twice a0 <;> rfl

theorem lb_eq (x y : Lb) : (decide (x.1 = y.1) && (decide (x.2.1 = y.2.1) && (decide (x.2.2.1 = y.2.2.1) && true))) = decide (x = y) := by
  obtain ⟨a, b, c, ⟨⟩⟩ := x
  obtain ⟨a', b', c', ⟨⟩⟩ := y
  rw [Bool.eq_iff_iff]
  simp

theorem g23_ok (a0 : (List (Int × (Int × (Int × Unit))))) (a1 : (List (Int × (Int × (Int × Unit))))) (r0 : (Ty.sl (.st 24 (.cons (.int .i64) (.cons (.int .i64) (.cons (.int .i64) .unit))))).ok a0) (r1 : (Ty.sl (.st 24 (.cons (.int .i64) (.cons (.int .i64) (.cons (.int .i64) .unit))))).ok a1) : g23 a0 a1 = some (decide (a0 = a1), ()) := by
  have hl := len_sl r0 (by decide)
  unfold g23
  by_cases hlen : a0.length = a1.length
  rotate_left
  · have h1 : ¬ Int.ofNat a0.length = Int.ofNat a1.length := fun h => hlen (Int.ofNat.inj h)
    have h2 : ¬ a0 = a1 := fun h => hlen (by rw [h])
    rw [decide_eq_false h1, decide_eq_false h2]
    rfl
  have h1 : Int.ofNat a0.length = Int.ofNat a1.length := by rw [hlen]
  have hs : ∀ k : Nat, k < a0.length → g23_s0 a0 a1 ((k : Int), ()) = some (bif !decide (a0.getD k (0, 0, 0, ()) = a1.getD k (0, 0, 0, ())) then .inr (true, (false, ()), ()) else .inl (((k + 1 : Nat) : Int), ())) := by
    intro k hk
    unfold g23_s0
    simp only [Int.ofNat_eq_natCast, Int.toNat_natCast]
    rw [decide_eq_true (show (k : Int) < (a0.length : Int) by omega), decide_eq_true (show (0 : Int) ≤ (k : Int) by omega), decide_eq_true (show (k : Int) < (a1.length : Int) by omega), wi64 (n := (k : Int) + 1) (by omega) (by omega), lb_eq]
    cases decide (a0.getD k (0, 0, 0, ()) = a1.getD k (0, 0, 0, ())) <;> rfl
  have he : g23_s0 a0 a1 ((a0.length : Int), ()) = some (.inr (false, (false, ()), ())) := by
    unfold g23_s0
    simp only [Int.ofNat_eq_natCast]
    rw [decide_eq_false (show ¬ (a0.length : Int) < (a0.length : Int) by omega)]
    rfl
  rw [decide_eq_true h1, scan_loop _ a0.length (fun k => !decide (a0.getD k (0, 0, 0, ()) = a1.getD k (0, 0, 0, ()))) _ _ hs he, any_ne (0, 0, 0, ()) hlen]
  cases decide (a0 = a1) <;> rfl

theorem flat_take (l : List (List Int)) (i : Nat) (h : i < l.length) : (l.take (i + 1)).flatten = (l.take i).flatten ++ l.getD i [] := by
  rw [take_succ_getD l i [] h]
  simp
theorem flat_le (l : List (List Int)) (i : Nat) : (l.take i).flatten.length ≤ l.flatten.length := by
  have : l.flatten = (l.take i).flatten ++ (l.drop i).flatten := by rw [← List.flatten_append, List.take_append_drop]
  rw [this, List.length_append]
  omega
theorem two_loops (l : List (List Int)) (hl : l.length ≤ 100) (hT : l.flatten.length ≤ 1000000) (f : (Int × Int × Unit) → Option (Sum (Int × Int × Unit) (Int × Unit))) (g : (Int × List Int × Unit) → Option (Sum (Int × List Int × Unit) (List Int × Unit)))
    (hf : ∀ (k : Nat) (n : Int), k < l.length → 0 ≤ n → n ≤ 1000000 → 0 ≤ n + (l.getD k []).length → n + (l.getD k []).length ≤ 1000000 → f (n, (k : Int), ()) = some (.inl (n + (l.getD k []).length, ((k + 1 : Nat) : Int), ())))
    (hfe : ∀ n, f (n, (l.length : Int), ()) = some (.inr (n, ())))
    (hg : ∀ (k : Nat) (a : List Int), k < l.length → (a ++ l.getD k []).length ≤ 1000000 → g ((k : Int), a, ()) = some (.inl (((k + 1 : Nat) : Int), a ++ l.getD k [], ())))
    (hge : ∀ a, g ((l.length : Int), a, ()) = some (.inr (a, ()))) :
    Loop f ((0 : Int), (0 : Int), ()) = some ((l.flatten.length : Int), ()) ∧ Loop g ((0 : Int), [], ()) = some (l.flatten, ()) := by
  constructor
  · have key : ∀ k, k ≤ l.length → Loop f (((l.take (l.length - k)).flatten.length : Int), ((l.length - k : Nat) : Int), ()) = some ((l.flatten.length : Int), ()) := by
      intro k
      induction k with
      | zero => intro _; rw [Loop_step, Nat.sub_zero, hfe, List.take_of_length_le (Nat.le_refl _)]
      | succ k ih =>
        intro hk
        have h1 := flat_take l (l.length - (k + 1)) (by omega)
        rw [show l.length - (k + 1) + 1 = l.length - k by omega] at h1
        have h2 := flat_le l (l.length - k)
        have h3 : (l.take (l.length - k)).flatten.length = (l.take (l.length - (k + 1))).flatten.length + (l.getD (l.length - (k + 1)) []).length := by rw [h1, List.length_append]
        rw [Loop_step, hf _ _ (by omega) (by omega) (by omega) (by omega) (by omega)]
        simp only
        rw [show l.length - (k + 1) + 1 = l.length - k by omega, show ((l.take (l.length - (k + 1))).flatten.length : Int) + (l.getD (l.length - (k + 1)) []).length = ((l.take (l.length - k)).flatten.length : Int) by omega]
        exact ih (by omega)
    have := key l.length (Nat.le_refl _)
    rw [Nat.sub_self] at this
    exact this
  · have key : ∀ k, k ≤ l.length → Loop g (((l.length - k : Nat) : Int), (l.take (l.length - k)).flatten, ()) = some (l.flatten, ()) := by
      intro k
      induction k with
      | zero => intro _; rw [Loop_step, Nat.sub_zero, hge, List.take_of_length_le (Nat.le_refl _)]
      | succ k ih =>
        intro hk
        have h1 := flat_take l (l.length - (k + 1)) (by omega)
        rw [show l.length - (k + 1) + 1 = l.length - k by omega] at h1
        have h2 := flat_le l (l.length - k)
        rw [h1] at h2
        rw [Loop_step, hg _ _ (by omega) (by omega)]
        simp only
        rw [show l.length - (k + 1) + 1 = l.length - k by omega, ← h1]
        exact ih (by omega)
    have := key l.length (Nat.le_refl _)
    rw [Nat.sub_self] at this
    exact this

theorem g53_ok (a0 : (List (List Int))) (r0 : (Ty.sl (.sl (.int .u8))).ok a0) (h : (decide (a0.flatten.length ≤ 1000000) && decide (a0.length ≤ 100)) = true) : g53 a0 = some (a0.flatten, ()) := by
  simp only [Bool.and_eq_true, decide_eq_true_eq] at h
  obtain ⟨h1, h2⟩ := two_loops a0 h.2 h.1 (g53_s0 a0) (g53_s1 a0) (fun k n hk q1 q2 q3 q4 => by
      unfold g53_s0
      have hl := h.2
      have e1 : IntKind.wrap .i64 (n + ((a0.getD k []).length : Int)) = n + ((a0.getD k []).length : Int) := wi64 (by omega) (by omega)
      simp only [Int.ofNat_eq_natCast, Int.toNat_natCast, e1]
      rw [decide_eq_true (show (k : Int) < (a0.length : Int) by omega), decide_eq_true (show (0 : Int) ≤ (k : Int) by omega), decide_eq_false (show ¬ n + ((a0.getD k []).length : Int) < 0 by omega), wi64 (n := (k : Int) + 1) (by omega) (by omega)]
      rfl) (fun n => by
      unfold g53_s0
      simp only [Int.ofNat_eq_natCast]
      rw [decide_eq_false (show ¬ (a0.length : Int) < (a0.length : Int) by omega)]
      rfl) (fun k a hk q => by
      unfold g53_s1
      have hl := h.2
      rw [List.length_append] at q
      simp only [Int.ofNat_eq_natCast, Int.toNat_natCast]
      rw [decide_eq_true (show (k : Int) < (a0.length : Int) by omega), decide_eq_true (show (0 : Int) ≤ (k : Int) by omega), show Nat.ble ((a.length + (a0.getD k []).length) * 1) 140737488355328 = true from Nat.ble_eq_true_of_le (by omega), wi64 (n := (k : Int) + 1) (by omega) (by omega)]
      rfl) (fun a => by
      unfold g53_s1
      simp only [Int.ofNat_eq_natCast]
      rw [decide_eq_false (show ¬ (a0.length : Int) < (a0.length : Int) by omega)]
      rfl)
  unfold g53
  rw [h1]
  simp only [Option.bind_some]
  rw [on_true (inside_iff.2 ⟨by omega, by omega⟩)]
  simp only [Option.bind_some]
  rw [h2]
  rfl

theorem g60_ok (a0 : (List (List Int))) (r0 : (Ty.sl (.sl (.int .i64))).ok a0) (h : (decide (a0.flatten.length ≤ 1000000) && decide (a0.length ≤ 100)) = true) : g60 a0 = some (a0.flatten, ()) := by
  simp only [Bool.and_eq_true, decide_eq_true_eq] at h
  obtain ⟨h1, h2⟩ := two_loops a0 h.2 h.1 (g60_s0 a0) (g60_s1 a0) (fun k n hk q1 q2 q3 q4 => by
      unfold g60_s0
      have hl := h.2
      have e1 : IntKind.wrap .i64 (n + ((a0.getD k []).length : Int)) = n + ((a0.getD k []).length : Int) := wi64 (by omega) (by omega)
      simp only [Int.ofNat_eq_natCast, Int.toNat_natCast, e1]
      rw [decide_eq_true (show (k : Int) < (a0.length : Int) by omega), decide_eq_true (show (0 : Int) ≤ (k : Int) by omega), decide_eq_false (show ¬ n + ((a0.getD k []).length : Int) < 0 by omega), wi64 (n := (k : Int) + 1) (by omega) (by omega)]
      rfl) (fun n => by
      unfold g60_s0
      simp only [Int.ofNat_eq_natCast]
      rw [decide_eq_false (show ¬ (a0.length : Int) < (a0.length : Int) by omega)]
      rfl) (fun k a hk q => by
      unfold g60_s1
      have hl := h.2
      rw [List.length_append] at q
      simp only [Int.ofNat_eq_natCast, Int.toNat_natCast]
      rw [decide_eq_true (show (k : Int) < (a0.length : Int) by omega), decide_eq_true (show (0 : Int) ≤ (k : Int) by omega), show Nat.ble ((a.length + (a0.getD k []).length) * 8) 140737488355328 = true from Nat.ble_eq_true_of_le (by omega), wi64 (n := (k : Int) + 1) (by omega) (by omega)]
      rfl) (fun a => by
      unfold g60_s1
      simp only [Int.ofNat_eq_natCast]
      rw [decide_eq_false (show ¬ (a0.length : Int) < (a0.length : Int) by omega)]
      rfl)
  unfold g60
  rw [h1]
  simp only [Option.bind_some]
  rw [on_true (inside_iff.2 ⟨by omega, by omega⟩)]
  simp only [Option.bind_some]
  rw [h2]
  rfl
end Go.Abs.C04

namespace Go.Abs.C04
open Go Go.Proofs Sp04
set_option maxRecDepth 100000

theorem g36_ok (a0 : (List Int)) (a1 : Int) (a2 : Int) (a3 : Int) (r0 : (Ty.sl (.int .i64)).ok a0) (r1 : IntKind.i64.has a1) (r2 : IntKind.i64.has a2) (r3 : IntKind.i64.has a3) (h : (Sp04.wf (a0, a1, ()) && Sp04.small a3) = true) : g36 a0 a1 a2 a3 = some (Sp04.spoil (a0, a1, ()) a2 a3) := by
  simp only [Bool.and_eq_true] at h
  unfold g36 Sp04.spoil
  simp only [gt_iff_lt]
  by_cases hp : 0 < a3
  rotate_left
  · simp only [hp, decide_false, cond_false, Option.bind_some]
  simp only [hp, decide_true, cond_true]
  rw [on_true (show (wf (a0, a1, ()) && small a3) = true by rw [h.1, h.2]; rfl)]
  simp only [Option.bind_some]
  have w := one_wf (n := a3) h.1
  generalize one (a0, a1, ()) a3 = y at w ⊢
  cases y.1 with
  | false => rfl
  | true =>
    simp only [cond_true]
    rw [on_true w]
    rfl

theorem spoil_wf {t : Tp} {x n : Int} (h : wf t = true) : wf (Sp04.spoil t x n).2 = true := by
  unfold Sp04.spoil
  cases decide (0 < n) with
  | false => exact h
  | true =>
    have w := one_wf (n := n) h
    simp only [cond_true]
    cases (one t n).1 with
    | false => exact w
    | true => exact wild_wf w

theorem g10_ok (a0 : (List Int)) (a1 : Int) (a2 : Int) (r0 : (Ty.sl (.int .i64)).ok a0) (r1 : IntKind.i64.has a1) (r2 : IntKind.i64.has a2) (h : (Sp04.wf (a0, a1, ()) && Sp04.small a2) = true) : g10 a0 a1 a2 = some (Sp04.labT (a0, a1, ()) a2) := by
  simp only [Bool.and_eq_true] at h
  obtain ⟨w, hs⟩ := h
  unfold g10 Sp04.labT
  simp only
  rw [on_true (show (wf (a0, a1, ()) && decide (0 < 6) && decide (6 ≤ 1000)) = true by rw [w]; rfl)]
  simp only [Option.bind_some]
  replace w := pick_wf (l := [0, 17, 18, 115, 116, 1048575]) w
  generalize pick (a0, a1, ()) [0, 17, 18, 115, 116, 1048575] = y3 at w ⊢
  rw [on_true (show (wf y3.2 && small a2) = true by rw [w, hs]; rfl)]
  simp only [Option.bind_some]
  replace w := spoil_wf (x := y3.1) (n := a2) w
  generalize Sp04.spoil y3.2 y3.1 a2 = y4 at w ⊢
  rw [on_true w]
  simp only [Option.bind_some]
  replace w := next_wf (n := 8) w
  generalize next y4.2 8 = y5 at w ⊢
  rw [on_true (show (wf y5.2 && small a2) = true by rw [w, hs]; rfl)]
  simp only [Option.bind_some]
  replace w := spoil_wf (x := y5.1) (n := a2) w
  generalize Sp04.spoil y5.2 y5.1 a2 = y6 at w ⊢
  rw [on_true (show (wf y6.2 && decide (0 < 3) && decide (3 ≤ 1000)) = true by rw [w]; rfl)]
  simp only [Option.bind_some]
  replace w := pick_wf (l := [0, 1, 255]) w
  generalize pick y6.2 [0, 1, 255] = y7 at w ⊢
  rw [on_true (show (wf y7.2 && small a2) = true by rw [w, hs]; rfl)]
  rfl

theorem intsN_wf {t : Tp} {lo hi : Int} (h : wf t = true) : ∀ k, wf (intsN lo hi k t).2 = true ∧ (intsN lo hi k t).1.length = k
  | 0 => ⟨h, rfl⟩
  | k + 1 => by
    obtain ⟨h1, h2⟩ := intsN_wf (lo := lo) (hi := hi) h k
    refine ⟨range_wf (a := lo) (b := hi) h1, ?_⟩
    simp only [intsN, List.length_append, h2, List.length_cons, List.length_nil]
theorem ints_run (t : Tp) (h : wf t = true) {lo hi : Int} (s1 : small lo = true) (s2 : small hi = true) (n : Nat) (hn : n ≤ 1000) :
    Loop (g30_s0 lo hi) (t, [], (n : Int), ()) = some ((intsN lo hi n t).2, (intsN lo hi n t).1, ()) := by
  have key : ∀ k, k ≤ n → Loop (g30_s0 lo hi) ((intsN lo hi (n - k) t).2, (intsN lo hi (n - k) t).1, (k : Int), ()) = some ((intsN lo hi n t).2, (intsN lo hi n t).1, ()) := by
    intro k
    induction k with
    | zero => intro _; rw [Loop_step]; rfl
    | succ k ih =>
      intro hk
      obtain ⟨w1, w2⟩ := intsN_wf (lo := lo) (hi := hi) h (n - (k + 1))
      have hs : g30_s0 lo hi ((intsN lo hi (n - (k + 1)) t).2, (intsN lo hi (n - (k + 1)) t).1, ((k + 1 : Nat) : Int), ()) = some (.inl ((intsN lo hi (n - (k + 1) + 1) t).2, (intsN lo hi (n - (k + 1) + 1) t).1, (k : Int), ())) := by
        unfold g30_s0
        simp only
        rw [on_true (show (wf (intsN lo hi (n - (k + 1)) t).2 && small lo && small hi) = true by rw [w1, s1, s2]; rfl), decide_eq_true (show ((k + 1 : Nat) : Int) > 0 by omega), w2, show Nat.ble ((n - (k + 1) + 1) * 8) 140737488355328 = true from Nat.ble_eq_true_of_le (by omega),
          wi64 (n := ((k + 1 : Nat) : Int) - 1) (by omega) (by omega), show ((k + 1 : Nat) : Int) - 1 = (k : Int) by omega]
        rfl
      rw [Loop_step, hs]
      simp only
      rw [show n - (k + 1) + 1 = n - k by omega]
      exact ih (by omega)
  have := key n (Nat.le_refl _)
  rw [Nat.sub_self] at this
  exact this

theorem g30_ok (a0 : (List Int)) (a1 : Int) (a2 : Int) (a3 : Int) (a4 : Int) (r0 : (Ty.sl (.int .i64)).ok a0) (r1 : IntKind.i64.has a1) (r2 : IntKind.i64.has a2) (r3 : IntKind.i64.has a3) (r4 : IntKind.i64.has a4) (h : (Sp04.wf (a0, a1, ()) && Sp04.inside a2 0 1000 && Sp04.small a3 && Sp04.small a4) = true) : g30 a0 a1 a2 a3 a4 = some (Sp04.ints (a0, a1, ()) a2 a3 a4) := by
  simp only [Bool.and_eq_true] at h
  obtain ⟨⟨⟨w, hn⟩, s1⟩, s2⟩ := h
  have hn := inside_iff.1 hn
  have hr := range_in (t := (a0, a1, ())) (a := 0) (b := a2) hn.1
  have hw := range_wf (a := 0) (b := a2) w
  unfold g30 Sp04.ints
  have hsm : small a2 = true := small_iff.2 ⟨by omega, by omega⟩
  rw [on_true (show (wf (a0, a1, ()) && small 0 && small a2) = true by rw [w, hsm]; rfl)]
  simp only [Option.bind_some]
  have hc : (range (a0, a1, ()) 0 a2).1 = (((range (a0, a1, ()) 0 a2).1.toNat : Nat) : Int) := by omega
  rw [hc, ints_run _ hw s1 s2 _ (by omega)]
  rfl

theorem list_beq (a b : List Int) : @List.beq Int (@instBEqOfDecidableEq Int Int.instDecidableEq) a b = decide (a = b) := by
  induction a generalizing b with
  | nil => cases b <;> rfl
  | cons x l ih =>
    cases b with
    | nil => rfl
    | cons y m =>
      have h1 : @List.beq Int (@instBEqOfDecidableEq Int Int.instDecidableEq) (x :: l) (y :: m) = (decide (x = y) && @List.beq Int (@instBEqOfDecidableEq Int Int.instDecidableEq) l m) := rfl
      rw [h1, ih, Bool.eq_iff_iff]
      simp

theorem g28_ok (a0 : (List Int)) (a1 : Int) (a2 : Int) (a3 : Int) (a4 : Int) (a5 : Int) (a6 : Int) (a7 : Int) (a8 : Int) (a9 : Int) (a10 : (List Int)) (a11 : (List Int)) (a12 : Int) (a13 : Int) (a14 : Int) (a15 : Int) (a16 : Int) (a17 : Int) (a18 : Int) (a19 : Int) (a20 : Int) (a21 : (List Int)) (r0 : (Ty.sl (.int .i64)).ok a0) (r1 : IntKind.i64.has a1) (r2 : IntKind.i64.has a2) (r3 : IntKind.i64.has a3) (r4 : IntKind.i64.has a4) (r5 : IntKind.i64.has a5) (r6 : IntKind.i64.has a6) (r7 : IntKind.i64.has a7) (r8 : IntKind.i64.has a8) (r9 : IntKind.u64.has a9) (r10 : Ty.str.ok a10) (r11 : (Ty.sl (.int .i64)).ok a11) (r12 : IntKind.i64.has a12) (r13 : IntKind.i64.has a13) (r14 : IntKind.i64.has a14) (r15 : IntKind.i64.has a15) (r16 : IntKind.i64.has a16) (r17 : IntKind.i64.has a17) (r18 : IntKind.i64.has a18) (r19 : IntKind.i64.has a19) (r20 : IntKind.u64.has a20) (r21 : Ty.str.ok a21) : g28 a0 a1 a2 a3 a4 a5 a6 a7 a8 a9 a10 a11 a12 a13 a14 a15 a16 a17 a18 a19 a20 a21 = some (Sp04.sameF (a0, a1, a2, a3, a4, a5, a6, a7, a8, a9, a10, ()) (a11, a12, a13, a14, a15, a16, a17, a18, a19, a20, a21, ()), ()) := by
  unfold g28 Sp04.sameF Sp04.sameP
  simp only [list_beq, bifAnd, Option.bind_some, md, sd, Sp04.st, ln, tl, en, ig, pr, bt, py, Bool.and_assoc, Bool.and_true]
  rfl

theorem g34_ok (a0 : (List Int)) (a1 : Int) (a2 : Int) (a3 : Int) (a4 : Int) (a5 : Int) (a6 : Int) (a7 : Int) (a8 : Int) (a9 : Int) (a10 : (List Int)) (r0 : (Ty.sl (.int .i64)).ok a0) (r1 : IntKind.i64.has a1) (r2 : IntKind.i64.has a2) (r3 : IntKind.i64.has a3) (r4 : IntKind.i64.has a4) (r5 : IntKind.i64.has a5) (r6 : IntKind.i64.has a6) (r7 : IntKind.i64.has a7) (r8 : IntKind.i64.has a8) (r9 : IntKind.u64.has a9) (r10 : Ty.str.ok a10) : g34 a0 a1 a2 a3 a4 a5 a6 a7 a8 a9 a10 = some (Sp04.pop (a0, a1, a2, a3, a4, a5, a6, a7, a8, a9, a10, ()), ()) := by
  have hl := len_sl r0 (by decide)
  unfold g34 Sp04.pop
  have e : decide (Int.ofNat a0.length = 0) = decide (a0.length = 0) := decide_eq_decide.2 (by simp)
  rw [e]
  by_cases h0 : a0.length = 0
  · rw [decide_eq_true h0]
    cases Sp04.validF (a0, a1, a2, a3, a4, a5, a6, a7, a8, a9, a10, ()) <;> rfl
  · rw [decide_eq_false h0]
    cases Sp04.validF (a0, a1, a2, a3, a4, a5, a6, a7, a8, a9, a10, ()) with
    | false => rfl
    | true =>
      simp only [Bool.not_true, Bool.not_false, cond_true, cond_false, Option.bind_some, Bool.or_self]
      rw [decide_eq_true (show (0 : Int) < Int.ofNat a0.length by simp only [Int.ofNat_eq_natCast]; omega), decide_eq_true (show (1 : Int) ≤ Int.ofNat a0.length by simp only [Int.ofNat_eq_natCast]; omega), decide_eq_true (Int.le_refl _)]
      simp only [Int.ofNat_eq_natCast, Int.toNat_natCast, List.take_of_length_le (Nat.le_refl a0.length)]
      rfl

theorem g35_ok (a0 : (List Int)) (a1 : Int) (a2 : Int) (a3 : Int) (a4 : Int) (a5 : Int) (a6 : Int) (a7 : Int) (a8 : Int) (a9 : Int) (a10 : (List Int)) (r0 : (Ty.sl (.int .i64)).ok a0) (r1 : IntKind.i64.has a1) (r2 : IntKind.i64.has a2) (r3 : IntKind.i64.has a3) (r4 : IntKind.i64.has a4) (r5 : IntKind.i64.has a5) (r6 : IntKind.i64.has a6) (r7 : IntKind.i64.has a7) (r8 : IntKind.i64.has a8) (r9 : IntKind.u64.has a9) (r10 : Ty.str.ok a10) : g35 a0 a1 a2 a3 a4 a5 a6 a7 a8 a9 a10 = some (Sp04.pop (a0, a1, a2, a3, a4, a5, a6, a7, a8, a9, a10, ()), ()) := by
  exact (show g35 a0 a1 a2 a3 a4 a5 a6 a7 a8 a9 a10 = g34 a0 a1 a2 a3 a4 a5 a6 a7 a8 a9 a10 from rfl).trans (g34_ok a0 a1 a2 a3 a4 a5 a6 a7 a8 a9 a10 r0 r1 r2 r3 r4 r5 r6 r7 r8 r9 r10)

end Go.Abs.C04

namespace Go.Abs.C04
open Go Go.Proofs Sp04
set_option maxRecDepth 100000

theorem wu8m (n : Int) : IntKind.wrap .u8 n = n % 256 := by
  unfold IntKind.wrap
  simp [IntKind.bits, IntKind.signed]
theorem joined_take (l : List Int) (i : Nat) (h : i < l.length) : joined (l.take (i + 1)) = joined (l.take i) ++ be4 (l.getD i 0) := by
  rw [take_succ_getD l i 0 h]
  simp [joined]
theorem joined_len (l : List Int) : (joined l).length = 4 * l.length := by
  induction l with
  | nil => rfl
  | cons x r ih =>
    have : joined (x :: r) = be4 x ++ joined r := by simp [joined]
    rw [this, List.length_append, ih, List.length_cons]
    show 4 + _ = _
    omega

theorem g51_ok (a0 : (List Int)) (r0 : (Ty.sl (.int .i64)).ok a0) : g51 a0 = some (Sp04.joined a0, ()) := by
  have hl : a0.length * 8 ≤ 281474976710656 := by
    have h1 : a0.length * 8 ≤ big := r0.1
    have : big ≤ 281474976710656 := by decide
    omega
  have key : ∀ k, k ≤ a0.length → Loop (g51_s0 a0) (((a0.length - k : Nat) : Int), joined (a0.take (a0.length - k)), ()) = some (joined a0, ()) := by
    intro k
    induction k with
    | zero =>
      intro _
      rw [Loop_step]
      unfold g51_s0
      simp only [Nat.sub_zero, Int.ofNat_eq_natCast]
      rw [decide_eq_false (show ¬ (a0.length : Int) < (a0.length : Int) by omega), List.take_of_length_le (Nat.le_refl _)]
      rfl
    | succ k ih =>
      intro hk
      have hs : g51_s0 a0 (((a0.length - (k + 1) : Nat) : Int), joined (a0.take (a0.length - (k + 1))), ()) = some (.inl (((a0.length - k : Nat) : Int), joined (a0.take (a0.length - k)), ())) := by
        have h1 := joined_take a0 (a0.length - (k + 1)) (by omega)
        rw [show a0.length - (k + 1) + 1 = a0.length - k by omega] at h1
        have h2 := joined_len (a0.take (a0.length - (k + 1)))
        rw [List.length_take] at h2
        unfold g51_s0
        simp only [Int.ofNat_eq_natCast, Int.toNat_natCast, wu8m, List.length_cons, List.length_nil]
        rw [decide_eq_true (show ((a0.length - (k + 1) : Nat) : Int) < (a0.length : Int) by omega), decide_eq_true (show (0 : Int) ≤ ((a0.length - (k + 1) : Nat) : Int) by omega), show Nat.ble (((joined (a0.take (a0.length - (k + 1)))).length + (0 + 1 + 1 + 1 + 1)) * 1) 140737488355328 = true from Nat.ble_eq_true_of_le (by omega),
          wi64 (n := ((a0.length - (k + 1) : Nat) : Int) + 1) (by omega) (by omega), show ((a0.length - (k + 1) : Nat) : Int) + 1 = ((a0.length - k : Nat) : Int) by omega, h1, Int.fdiv_eq_ediv_of_nonneg _ (by omega), Int.fdiv_eq_ediv_of_nonneg _ (by omega), Int.fdiv_eq_ediv_of_nonneg _ (by omega)]
        rfl
      rw [Loop_step, hs]
      exact ih (by omega)
  have := key a0.length (Nat.le_refl _)
  rw [Nat.sub_self, List.take_zero] at this
  unfold g51
  rw [show Loop (g51_s0 a0) ((0 : Int), [], ()) = some (joined a0, ()) from this]
  rfl

theorem g32_ok (a0 : (List Int)) (a1 : Int) (a2 : Int) (a3 : Int) (a4 : Int) (a5 : Int) (a6 : Int) (a7 : Int) (a8 : Int) (a9 : Int) (a10 : (List Int)) (a11 : (List Int)) (r0 : (Ty.sl (.int .i64)).ok a0) (r1 : IntKind.i64.has a1) (r2 : IntKind.i64.has a2) (r3 : IntKind.i64.has a3) (r4 : IntKind.i64.has a4) (r5 : IntKind.i64.has a5) (r6 : IntKind.i64.has a6) (r7 : IntKind.i64.has a7) (r8 : IntKind.i64.has a8) (r9 : IntKind.u64.has a9) (r10 : Ty.str.ok a10) (r11 : (Ty.sl (.int .i64)).ok a11) (h : (decide (a11.length ≤ 100000) && decide (a0.length ≤ 100000)) = true) : g32 a0 a1 a2 a3 a4 a5 a6 a7 a8 a9 a10 a11 = some (Sp04.push (a0, a1, a2, a3, a4, a5, a6, a7, a8, a9, a10, ()) a11, ()) := by
  simp only [Bool.and_eq_true, decide_eq_true_eq] at h
  have h1 : a11.length ≤ 100000 := h.1
  have h2 : a0.length ≤ 100000 := h.2
  unfold g32 Sp04.push
  have hb : (decide ((a11 ++ (a0 ++ [])).length ≤ 1000000) && decide ([a11, a0].length ≤ 100)) = true := by
    simp only [List.append_nil, List.length_append, Bool.and_eq_true, decide_eq_true_eq, List.length_cons, List.length_nil]
    omega
  refine (congrArg (fun z => Option.bind z _) (Sp04.on_true hb)).trans ?_
  simp only [Option.bind_some, List.append_nil]
  have e : decide (Int.ofNat (a11 ++ a0).length > 24) = decide (24 < (a11 ++ a0).length) := decide_eq_decide.2 (by simp only [Int.ofNat_eq_natCast, gt_iff_lt]; omega)
  rw [e]
  cases Sp04.validF (a0, a1, a2, a3, a4, a5, a6, a7, a8, a9, a10, ()) <;> cases a11.any Sp04.stray <;> cases decide (24 < (a11 ++ a0).length) <;> cases Sp04.twice (a11 ++ a0) <;> rfl

end Go.Abs.C04

namespace Go.Abs.C04
open Go Go.Proofs Sp04
set_option maxRecDepth 100000

theorem sealed_length2 (B : List Bool) : (sealed B).length = B.length + 16 := by simp [sealed, vbits_length]
theorem enc_size {p : Pk} (hv : validP p = true) : (Int.ofNat (Sp04.encode p).1.length = sizeP p) ∧ (Sp04.encode p).1.length ≤ 81 ∧ (Sp04.encode p).2.1 = 0 ∧ bytesOk (Sp04.encode p).1 ∧ (Sp04.encode p).1 = pack (sealed (bodyB p)) := by
  have h := valid_fit.1 hv
  have hl := fit_len h
  have hp := h.hp
  have hB := bodyB_length p
  have e : Sp04.encode p = (pack (sealed (bodyB p)), 0, ()) := by
    unfold Sp04.encode
    rw [hv]
    rfl
  have hl2 : (pack (sealed (bodyB p))).length = ((bodyB p).length + 23) / 8 := by rw [pack_length, sealed_length2]
  rw [e]
  refine ⟨?_, ?_, rfl, pack_ok _, rfl⟩
  · unfold sizeP
    rw [hv]
    simp only [cond_true, Int.ofNat_eq_natCast]
    omega
  · simp only
    omega


theorem encL_len (l : List Lb) : (Sp04.encL l).1.length ≤ 96 := by
  unfold Sp04.encL
  by_cases h1 : l.length < 1
  · rw [decide_eq_true h1]; exact Nat.zero_le _
  by_cases h2 : 24 < l.length
  · rw [decide_eq_false h1, decide_eq_true h2]; exact Nat.zero_le _
  rw [decide_eq_false h1, decide_eq_false h2]
  cases l.any Sp04.lost with
  | true => exact Nat.zero_le _
  | false =>
    simp only [Bool.or_self, cond_false]
    rw [joined_len]
    unfold ends
    rw [List.length_set, List.length_map]
    omega
theorem validF_iff {f : Fr} (h : Sp04.validF f = true) : f.1.length ≤ 24 ∧ f.1.all Sp04.router = true ∧ Sp04.twice f.1 = false ∧ validP f.2 = true := by
  unfold Sp04.validF at h
  simp only [Bool.and_eq_true, decide_eq_true_eq, Bool.not_eq_true'] at h
  exact ⟨h.1.1.1, h.1.1.2, h.1.2, h.2⟩
def tagL (n : Int) : Lb := (16 + n, 0, 255, ())
theorem tag_take (l : List Int) (i : Nat) (h : i < l.length) : (l.take (i + 1)).map tagL = (l.take i).map tagL ++ [tagL (l.getD i 0)] := by
  rw [take_succ_getD l i 0 h]
  simp
theorem tag_loop (a0 : List Int) (hl : a0.length ≤ 24) (hr : a0.all Sp04.router = true) (f : (Int × List Lb × Unit) → Option (Sum (Int × List Lb × Unit) (List Lb × Unit)))
    (hf : ∀ (k : Nat) (l : List Lb), k < a0.length → l.length ≤ 100 → 1 ≤ a0.getD k 0 → a0.getD k 0 ≤ 99 → f ((k : Int), l, ()) = some (.inl (((k + 1 : Nat) : Int), l ++ [tagL (a0.getD k 0)], ())))
    (he : ∀ l, f ((a0.length : Int), l, ()) = some (.inr (l, ()))) : Loop f ((0 : Int), [], ()) = some (a0.map tagL, ()) := by
  have key : ∀ k, k ≤ a0.length → Loop f (((a0.length - k : Nat) : Int), (a0.take (a0.length - k)).map tagL, ()) = some (a0.map tagL, ()) := by
    intro k
    induction k with
    | zero => intro _; rw [Loop_step, Nat.sub_zero, he, List.take_of_length_le (Nat.le_refl _)]
    | succ k ih =>
      intro hk
      have h1 := tag_take a0 (a0.length - (k + 1)) (by omega)
      rw [show a0.length - (k + 1) + 1 = a0.length - k by omega] at h1
      have hx := List.all_eq_true.1 hr _ (getD_mem (d := 0) (show a0.length - (k + 1) < a0.length by omega))
      have hx : 1 ≤ a0.getD (a0.length - (k + 1)) 0 ∧ a0.getD (a0.length - (k + 1)) 0 ≤ 99 := inside_iff.1 hx
      rw [Loop_step, hf _ _ (by omega) (by rw [List.length_map, List.length_take]; omega) hx.1 hx.2, ← h1]
      simp only
      rw [show a0.length - (k + 1) + 1 = a0.length - k by omega]
      exact ih (by omega)
  have := key a0.length (Nat.le_refl _)
  rw [Nat.sub_self, List.take_zero] at this
  exact this

theorem g25_ok (a0 : (List Int)) (a1 : Int) (a2 : Int) (a3 : Int) (a4 : Int) (a5 : Int) (a6 : Int) (a7 : Int) (a8 : Int) (a9 : Int) (a10 : (List Int)) (r0 : (Ty.sl (.int .i64)).ok a0) (r1 : IntKind.i64.has a1) (r2 : IntKind.i64.has a2) (r3 : IntKind.i64.has a3) (r4 : IntKind.i64.has a4) (r5 : IntKind.i64.has a5) (r6 : IntKind.i64.has a6) (r7 : IntKind.i64.has a7) (r8 : IntKind.i64.has a8) (r9 : IntKind.u64.has a9) (r10 : Ty.str.ok a10) : g25 a0 a1 a2 a3 a4 a5 a6 a7 a8 a9 a10 = some (Sp04.encF (a0, a1, a2, a3, a4, a5, a6, a7, a8, a9, a10, ()), ()) := by
  unfold g25 Sp04.encF
  cases hv : Sp04.validF (a0, a1, a2, a3, a4, a5, a6, a7, a8, a9, a10, ()) with
  | false => rfl
  | true =>
    obtain ⟨v1, v2, v3, v4⟩ := validF_iff hv
    simp only at v1 v2 v3 v4
    obtain ⟨e1, e2, e3, e4, e5⟩ := enc_size v4
    generalize Sp04.encode (a1, a2, a3, a4, a5, a6, a7, a8, a9, a10, ()) = P at e2 ⊢
    have e : decide (Int.ofNat a0.length = 0) = decide (a0.length = 0) := decide_eq_decide.2 (by simp)
    rw [e]
    by_cases h0 : a0.length = 0
    · rw [decide_eq_true h0, show Nat.ble ((1 + P.1.length) * 1) 140737488355328 = true from Nat.ble_eq_true_of_le (by omega)]
      rfl
    rw [decide_eq_false h0]
    simp only [Bool.not_true, cond_false]
    rw [tag_loop a0 v1 v2 (g25_s0 a0) (fun k l hk hl q1 q2 => by
      unfold g25_s0
      simp only [Int.ofNat_eq_natCast, Int.toNat_natCast]
      rw [decide_eq_true (show (k : Int) < (a0.length : Int) by omega), decide_eq_true (show (0 : Int) ≤ (k : Int) by omega), show Nat.ble ((l.length + 1) * 24) 140737488355328 = true from Nat.ble_eq_true_of_le (by omega), wi64 (n := (k : Int) + 1) (by omega) (by omega), wi64 (n := 16 + a0.getD k 0) (by omega) (by omega)]
      rfl) (fun l => by
      unfold g25_s0
      simp only [Int.ofNat_eq_natCast]
      rw [decide_eq_false (show ¬ (a0.length : Int) < (a0.length : Int) by omega)]
      rfl)]
    simp only [Option.bind_some]
    have hL := encL_len (a0.map tagL)
    have hb : (decide ((1 :: ([] ++ ((Sp04.encL (a0.map tagL)).1 ++ (P.1 ++ [])))).length ≤ 1000000) && decide (([(1 : Int)] :: ((Sp04.encL (a0.map tagL)).1 :: (P.1 :: []))).length ≤ 100)) = true := by
      simp only [List.nil_append, List.append_nil, List.length_append, Bool.and_eq_true, decide_eq_true_eq, List.length_cons, List.length_nil]
      omega
    refine (congrArg (fun z => Option.bind z _) (Sp04.on_true hb)).trans ?_
    simp only [Option.bind_some, List.append_nil, List.nil_append]
    rfl

theorem g26_ok (a0 : (List Int)) (a1 : Int) (a2 : Int) (a3 : Int) (a4 : Int) (a5 : Int) (a6 : Int) (a7 : Int) (a8 : Int) (a9 : Int) (a10 : (List Int)) (r0 : (Ty.sl (.int .i64)).ok a0) (r1 : IntKind.i64.has a1) (r2 : IntKind.i64.has a2) (r3 : IntKind.i64.has a3) (r4 : IntKind.i64.has a4) (r5 : IntKind.i64.has a5) (r6 : IntKind.i64.has a6) (r7 : IntKind.i64.has a7) (r8 : IntKind.i64.has a8) (r9 : IntKind.u64.has a9) (r10 : Ty.str.ok a10) : g26 a0 a1 a2 a3 a4 a5 a6 a7 a8 a9 a10 = some (Sp04.encF (a0, a1, a2, a3, a4, a5, a6, a7, a8, a9, a10, ()), ()) := by
  unfold g26 Sp04.encF
  cases hv : Sp04.validF (a0, a1, a2, a3, a4, a5, a6, a7, a8, a9, a10, ()) with
  | false => rfl
  | true =>
    obtain ⟨v1, v2, v3, v4⟩ := validF_iff hv
    simp only at v1 v2 v3 v4
    obtain ⟨e1, e2, e3, e4, e5⟩ := enc_size v4
    generalize Sp04.encode (a1, a2, a3, a4, a5, a6, a7, a8, a9, a10, ()) = P at e2 ⊢
    have e : decide (Int.ofNat a0.length = 0) = decide (a0.length = 0) := decide_eq_decide.2 (by simp)
    rw [e]
    by_cases h0 : a0.length = 0
    · rw [decide_eq_true h0, show Nat.ble ((1 + P.1.length) * 1) 140737488355328 = true from Nat.ble_eq_true_of_le (by omega)]
      rfl
    rw [decide_eq_false h0]
    simp only [Bool.not_true, cond_false]
    rw [tag_loop a0 v1 v2 (g26_s0 a0) (fun k l hk hl q1 q2 => by
      unfold g26_s0
      simp only [Int.ofNat_eq_natCast, Int.toNat_natCast]
      rw [decide_eq_true (show (k : Int) < (a0.length : Int) by omega), decide_eq_true (show (0 : Int) ≤ (k : Int) by omega), show Nat.ble ((l.length + 1) * 24) 140737488355328 = true from Nat.ble_eq_true_of_le (by omega), wi64 (n := (k : Int) + 1) (by omega) (by omega), wi64 (n := 16 + a0.getD k 0) (by omega) (by omega)]
      rfl) (fun l => by
      unfold g26_s0
      simp only [Int.ofNat_eq_natCast]
      rw [decide_eq_false (show ¬ (a0.length : Int) < (a0.length : Int) by omega)]
      rfl)]
    simp only [Option.bind_some, List.nil_append, List.length_cons]
    have hL := encL_len (a0.map tagL)
    rw [show Nat.ble ((1 + (Sp04.encL (a0.map tagL)).1.length) * 1) 140737488355328 = true from Nat.ble_eq_true_of_le (by omega), show Nat.ble (((Sp04.encL (a0.map tagL)).1.length + 1 + P.1.length) * 1) 140737488355328 = true from Nat.ble_eq_true_of_le (by omega)]
    rfl
end Go.Abs.C04

namespace Go.Abs.C04
open Go Go.Proofs Sp04
set_option maxRecDepth 100000

theorem scan_loop2 {σ ρ : Type} (f : (Int × σ) → Option (Sum (Int × σ) ρ)) (c : σ) (n : Nat) (q : Nat → Bool) (r e : ρ) (hs : ∀ i : Nat, i < n → f ((i : Int), c) = some (bif q i then .inr r else .inl (((i + 1 : Nat) : Int), c)))
    (he : f ((n : Int), c) = some (.inr e)) : Loop f ((0 : Int), c) = some (bif (List.range n).any q then r else e) := by
  have key : ∀ k, k ≤ n → (∀ j, j < n - k → q j = false) → Loop f (((n - k : Nat) : Int), c) = some (bif (List.range n).any q then r else e) := by
    intro k
    induction k with
    | zero =>
      intro _ hn
      have : (List.range n).any q = false := by
        rw [Bool.eq_false_iff]
        intro h
        obtain ⟨x, hx, hp⟩ := List.any_eq_true.1 h
        rw [hn x (by have := List.mem_range.1 hx; omega)] at hp
        cases hp
      rw [Loop_step, Nat.sub_zero, he, this]
      rfl
    | succ k ih =>
      intro hk hn
      rw [Loop_step, hs _ (by omega)]
      cases hp : q (n - (k + 1)) with
      | true =>
        have : (List.range n).any q = true := List.any_eq_true.2 ⟨n - (k + 1), List.mem_range.2 (by omega), hp⟩
        rw [this]
        rfl
      | false =>
        simp only [cond_false]
        rw [show n - (k + 1) + 1 = n - k by omega]
        refine ih (by omega) fun j hj => ?_
        by_cases hjk : j = n - (k + 1)
        · rw [hjk]; exact hp
        · exact hn j (by omega)
  have := key n (Nat.le_refl _) (fun j hj => by omega)
  rw [Nat.sub_self] at this
  exact this

theorem g33_ok (a0 : (List Int)) (a1 : Int) (a2 : Int) (a3 : Int) (a4 : Int) (a5 : Int) (a6 : Int) (a7 : Int) (a8 : Int) (a9 : Int) (a10 : (List Int)) (a11 : (List Int)) (r0 : (Ty.sl (.int .i64)).ok a0) (r1 : IntKind.i64.has a1) (r2 : IntKind.i64.has a2) (r3 : IntKind.i64.has a3) (r4 : IntKind.i64.has a4) (r5 : IntKind.i64.has a5) (r6 : IntKind.i64.has a6) (r7 : IntKind.i64.has a7) (r8 : IntKind.i64.has a8) (r9 : IntKind.u64.has a9) (r10 : Ty.str.ok a10) (r11 : (Ty.sl (.int .i64)).ok a11) (h : (decide (a11.length ≤ 100000) && decide (a0.length ≤ 100000)) = true) : g33 a0 a1 a2 a3 a4 a5 a6 a7 a8 a9 a10 a11 = some (Sp04.push (a0, a1, a2, a3, a4, a5, a6, a7, a8, a9, a10, ()) a11, ()) := by
  simp only [Bool.and_eq_true, decide_eq_true_eq] at h
  have h1 : a11.length ≤ 100000 := h.1
  have h2 : a0.length ≤ 100000 := h.2
  have hs : ∀ k : Nat, k < a11.length → g33_s0 a11 ((k : Int), zf, ()) = some (bif Sp04.stray (a11.getD k 0) then .inr (true, (zf, (2 : Int), ()), zf, ()) else .inl (((k + 1 : Nat) : Int), zf, ())) := by
    intro k hk
    unfold g33_s0
    simp only [Int.ofNat_eq_natCast, Int.toNat_natCast]
    rw [decide_eq_true (show (k : Int) < (a11.length : Int) by omega), decide_eq_true (show (0 : Int) ≤ (k : Int) by omega), wi64 (n := (k : Int) + 1) (by omega) (by omega)]
    unfold stray Sp04.router Sp04.inside
    by_cases h1 : a11.getD k 0 < 1
    · rw [decide_eq_true h1, decide_eq_false (show ¬ 1 ≤ a11.getD k 0 by omega)]
      rfl
    · rw [decide_eq_false h1, decide_eq_true (show 1 ≤ a11.getD k 0 by omega)]
      by_cases h2 : a11.getD k 0 ≤ 99
      · rw [decide_eq_true h2, decide_eq_false (show ¬ a11.getD k 0 > 99 by omega)]
        rfl
      · rw [decide_eq_false h2, decide_eq_true (show a11.getD k 0 > 99 by omega)]
        rfl
  have he : g33_s0 a11 ((a11.length : Int), zf, ()) = some (.inr (false, (zf, (0 : Int), ()), zf, ())) := by
    unfold g33_s0
    simp only [Int.ofNat_eq_natCast]
    rw [decide_eq_false (show ¬ (a11.length : Int) < (a11.length : Int) by omega)]
    rfl
  have hloop := scan_loop2 _ (zf, ()) a11.length (fun k => Sp04.stray (a11.getD k 0)) _ _ hs he
  rw [any_idx] at hloop
  have hz : Loop (g33_s0 a11) ((0 : Int), (([], 0, 0, 0, 0, 0, 0, 0, 0, 0, [], ()) : Fr), ()) = _ := hloop
  unfold g33 Sp04.push
  rw [hz]
  simp only [Option.bind_some, List.nil_append, Nat.zero_add]
  rw [show Nat.ble (a11.length * 8) 140737488355328 = true from Nat.ble_eq_true_of_le (by omega), show Nat.ble ((a11.length + a0.length) * 8) 140737488355328 = true from Nat.ble_eq_true_of_le (by omega)]
  have e : decide (IntKind.wrap .i64 (Int.ofNat a11.length + Int.ofNat a0.length) > 24) = decide (24 < (a11 ++ a0).length) := by
    rw [wi64 (by simp only [Int.ofNat_eq_natCast]; omega) (by simp only [Int.ofNat_eq_natCast]; omega)]
    exact decide_eq_decide.2 (by rw [List.length_append]; simp only [Int.ofNat_eq_natCast, gt_iff_lt]; omega)
  rw [e]
  cases Sp04.validF (a0, a1, a2, a3, a4, a5, a6, a7, a8, a9, a10, ()) <;> cases a11.any Sp04.stray <;> cases decide (24 < (a11 ++ a0).length) <;> cases Sp04.twice (a11 ++ a0) <;> rfl
end Go.Abs.C04

namespace Go.Abs.C04
open Go Go.Proofs Sp04
set_option maxRecDepth 100000

theorem g16_ok   : g16  = some (true, ()) := by
  kernel_rfl

theorem word_range {b : List Int} (hb : bytesOk b) (k : Nat) : 0 ≤ word b k ∧ word b k < 4294967296 := by
  have h0 := bytesOk_getD hb (4 * k)
  have h1 := bytesOk_getD hb (4 * k + 1)
  have h2 := bytesOk_getD hb (4 * k + 2)
  have h3 := bytesOk_getD hb (4 * k + 3)
  unfold word
  omega
theorem lab_near {b : List Int} (hb : bytesOk b) (k : Nat) : near (Sp04.lab (word b k)) = true ∧ 0 ≤ (Sp04.lab (word b k)).1 ∧ (Sp04.lab (word b k)).1 < 1048576 := by
  have h := word_range hb k
  have h1 : 0 ≤ word b k / 4096 ∧ word b k / 4096 < 1048576 := by omega
  refine ⟨?_, h1⟩
  unfold near
  exact inside_iff.2 ⟨by show _ ≤ word b k / 4096; omega, by show word b k / 4096 ≤ _; omega⟩
theorem decGo_facts {b : List Int} (hb : bytesOk b) : ∀ f k, f + k = 24 → ((decGo b f k).1 = [] ∧ (decGo b f k).2.1 = 0 ∧ (decGo b f k).2.2.1 ≠ 0) ∨
    ∃ n, n < 24 ∧ 4 * n + 4 ≤ b.length ∧ decGo b f k = ((List.range (n + 1)).map (fun i => Sp04.lab (word b i)), 4 * (n : Int) + 4, 0, ())
  | 0, k, _ => .inl ⟨rfl, rfl, fun h => by cases h⟩
  | f + 1, k, h => by
    unfold decGo
    by_cases h1 : b.length < 4 * k + 4
    · rw [decide_eq_true h1]
      exact .inl ⟨rfl, rfl, fun h => by cases h⟩
    rw [decide_eq_false h1]
    by_cases h2 : word b k / 256 % 2 = 1
    · rw [decide_eq_true h2]
      exact .inr ⟨k, by omega, by omega, rfl⟩
    rw [decide_eq_false h2]
    exact decGo_facts hb f (k + 1) (by omega)
theorem decL_facts {b : List Int} (hb : bytesOk b) : ((decL b).1 = [] ∧ (decL b).2.1 = 0 ∧ (decL b).2.2.1 ≠ 0) ∨
    ∃ n, n < 24 ∧ 4 * n + 4 ≤ b.length ∧ decL b = ((List.range (n + 1)).map (fun i => Sp04.lab (word b i)), 4 * (n : Int) + 4, 0, ()) := decGo_facts hb 24 0 rfl
end Go.Abs.C04

namespace Go.Abs.C04
open Go Go.Proofs Sp04
set_option maxRecDepth 100000

theorem bor64 {x y : Nat} (hx : x < 2 ^ 62) (hy : y < 2 ^ 62) : IntKind.wrap .i64 (Int.ofNat (BitVec.or (BitVec.ofInt 64 (x : Int)) (BitVec.ofInt 64 (y : Int))).toNat) = ((x ||| y : Nat) : Int) := by
  have ex : (BitVec.ofInt 64 (x : Int)).toNat = x := by
    rw [BitVec.toNat_ofInt]
    have : ((x : Int) % ((2 ^ 64 : Nat) : Int)) = x := Int.emod_eq_of_lt (by omega) (by omega)
    omega
  have ey : (BitVec.ofInt 64 (y : Int)).toNat = y := by
    rw [BitVec.toNat_ofInt]
    have : ((y : Int) % ((2 ^ 64 : Nat) : Int)) = y := Int.emod_eq_of_lt (by omega) (by omega)
    omega
  have e : (BitVec.or (BitVec.ofInt 64 (x : Int)) (BitVec.ofInt 64 (y : Int))).toNat = x ||| y := by
    show ((BitVec.ofInt 64 (x : Int)) ||| (BitVec.ofInt 64 (y : Int))).toNat = _
    rw [BitVec.toNat_or, ex, ey]
  have h := Nat.or_lt_two_pow hx hy
  rw [e]
  exact wi64 (by simp only [Int.ofNat_eq_natCast]; omega) (by simp only [Int.ofNat_eq_natCast]; omega)
theorem or_sum (a b k : Nat) (h : b < 2 ^ k) : (a * 2 ^ k) ||| b = a * 2 ^ k + b := by
  rw [Nat.mul_comm, ← Nat.two_pow_add_eq_or_of_lt h]
theorem lint_or {v c d : Int} (hv : 0 ≤ v ∧ v ≤ 1048575) (hc : 0 ≤ c ∧ c ≤ 7) (hd : 0 ≤ d ∧ d ≤ 255) :
    IntKind.wrap .i64 (Int.ofNat (BitVec.or (BitVec.ofInt 64 (IntKind.wrap .i64 (Int.ofNat (BitVec.or (BitVec.ofInt 64 (IntKind.wrap .i64 (v * 4096))) (BitVec.ofInt 64 (IntKind.wrap .i64 (c * 512)))).toNat))) (BitVec.ofInt 64 d)).toNat) = v * 4096 + c * 512 + d := by
  obtain ⟨v, rfl⟩ : ∃ n : Nat, v = n := ⟨v.toNat, by omega⟩
  obtain ⟨c, rfl⟩ : ∃ n : Nat, c = n := ⟨c.toNat, by omega⟩
  obtain ⟨d, rfl⟩ : ∃ n : Nat, d = n := ⟨d.toNat, by omega⟩
  have e1 : IntKind.wrap .i64 ((v : Int) * 4096) = ((v * 2 ^ 12 : Nat) : Int) := by rw [wi64 (by omega) (by omega)]; omega
  have e2 : IntKind.wrap .i64 ((c : Int) * 512) = ((c * 2 ^ 9 : Nat) : Int) := by rw [wi64 (by omega) (by omega)]; omega
  have o1 := or_sum v (c * 2 ^ 9) 12 (by omega)
  have o2 := or_sum (v * 8 + c) d 9 (by omega)
  rw [e1, e2, bor64 (by omega) (by omega), o1, show v * 2 ^ 12 + c * 2 ^ 9 = (v * 8 + c) * 2 ^ 9 by omega, bor64 (by omega) (by omega), o2]
  omega

theorem valid_lab {l : Lb} (h : Sp04.lost l = false) : (0 ≤ l.1 ∧ l.1 ≤ 1048575) ∧ (0 ≤ l.2.1 ∧ l.2.1 ≤ 7) ∧ (0 ≤ l.2.2.1 ∧ l.2.2.1 ≤ 255) := by
  unfold Sp04.lost Sp04.validL at h
  simp only [Bool.not_eq_false', Bool.and_eq_true] at h
  exact ⟨inside_iff.1 h.1.1, inside_iff.1 h.1.2, inside_iff.1 h.2⟩
theorem lint_take (l : List Lb) (i : Nat) (h : i < l.length) : (l.take (i + 1)).map lint = (l.take i).map lint ++ [lint (l.getD i (0, 0, 0, ()))] := by
  rw [take_succ_getD l i (0, 0, 0, ()) h]
  simp
theorem not_lost {a0 : List Lb} (h : a0.any Sp04.lost = false) (k : Nat) (hk : k < a0.length) : Sp04.lost (a0.getD k (0, 0, 0, ())) = false := by
  cases hp : Sp04.lost (a0.getD k (0, 0, 0, ())) with
  | false => rfl
  | true =>
    have : a0.any Sp04.lost = true := List.any_eq_true.2 ⟨_, getD_mem hk, hp⟩
    rw [h] at this
    cases this
theorem lint_loop (a0 : List Lb) (hl : a0.length ≤ 24) (hn : a0.any Sp04.lost = false) : Loop (g20_s0 a0) ((0 : Int), [], ()) = some (a0.map lint, ()) := by
  have key : ∀ k, k ≤ a0.length → Loop (g20_s0 a0) (((a0.length - k : Nat) : Int), (a0.take (a0.length - k)).map lint, ()) = some (a0.map lint, ()) := by
    intro k
    induction k with
    | zero =>
      intro _
      rw [Loop_step, Nat.sub_zero, List.take_of_length_le (Nat.le_refl _)]
      unfold g20_s0
      simp only [Int.ofNat_eq_natCast]
      rw [decide_eq_false (show ¬ (a0.length : Int) < (a0.length : Int) by omega)]
      rfl
    | succ k ih =>
      intro hk
      have h1 := lint_take a0 (a0.length - (k + 1)) (by omega)
      rw [show a0.length - (k + 1) + 1 = a0.length - k by omega] at h1
      have hx := valid_lab (not_lost hn (a0.length - (k + 1)) (by omega))
      have hs : g20_s0 a0 (((a0.length - (k + 1) : Nat) : Int), (a0.take (a0.length - (k + 1))).map lint, ()) = some (.inl (((a0.length - k : Nat) : Int), (a0.take (a0.length - k)).map lint, ())) := by
        unfold g20_s0
        simp only [Int.ofNat_eq_natCast, Int.toNat_natCast]
        have hlo := lint_or hx.1 hx.2.1 hx.2.2
        simp only [Int.ofNat_eq_natCast] at hlo
        rw [decide_eq_true (show ((a0.length - (k + 1) : Nat) : Int) < (a0.length : Int) by omega), decide_eq_true (show (0 : Int) ≤ ((a0.length - (k + 1) : Nat) : Int) by omega), List.length_map, List.length_take, show Nat.ble ((min (a0.length - (k + 1)) a0.length + 1) * 8) 140737488355328 = true from Nat.ble_eq_true_of_le (by omega),
          wi64 (n := ((a0.length - (k + 1) : Nat) : Int) + 1) (by omega) (by omega), show ((a0.length - (k + 1) : Nat) : Int) + 1 = ((a0.length - k : Nat) : Int) by omega, h1, hlo]
        rfl
      rw [Loop_step, hs]
      exact ih (by omega)
  have := key a0.length (Nat.le_refl _)
  rw [Nat.sub_self, List.take_zero] at this
  exact this
end Go.Abs.C04

namespace Go.Abs.C04
open Go Go.Proofs Sp04
set_option maxRecDepth 100000

theorem last_or {l : Lb} (h : Sp04.lost l = false) : IntKind.wrap .i64 (Int.ofNat (BitVec.or (BitVec.ofInt 64 (lint l)) (BitVec.ofInt 64 256)).toNat) = lint l + 256 := by
  obtain ⟨hv, hc, hd⟩ := valid_lab h
  obtain ⟨v, hv'⟩ : ∃ n : Nat, l.1 = n := ⟨l.1.toNat, by omega⟩
  obtain ⟨c, hc'⟩ : ∃ n : Nat, l.2.1 = n := ⟨l.2.1.toNat, by omega⟩
  obtain ⟨d, hd'⟩ : ∃ n : Nat, l.2.2.1 = n := ⟨l.2.2.1.toNat, by omega⟩
  have e : lint l = (((v * 8 + c) * 2 ^ 9 + d : Nat) : Int) := by
    unfold lint
    rw [hv', hc', hd']
    omega
  have o1 := or_sum (v * 8 + c) d 9 (by omega)
  have o2 := or_sum 1 d 8 (by omega)
  have o3 := or_sum (v * 8 + c) (1 * 2 ^ 8 + d) 9 (by omega)
  have o4 : ((v * 8 + c) * 2 ^ 9 + d) ||| 256 = (v * 8 + c) * 2 ^ 9 + d + 256 := by
    rw [← o1, Nat.or_assoc, Nat.or_comm d 256, show (256 : Nat) ||| d = 1 * 2 ^ 8 + d from o2, o3, o1]
    omega
  have hb := bor64 (x := (v * 8 + c) * 2 ^ 9 + d) (y := 256) (by omega) (by omega)
  rw [e]
  have hb' : IntKind.wrap .i64 (Int.ofNat (BitVec.or (BitVec.ofInt 64 (((v * 8 + c) * 2 ^ 9 + d : Nat) : Int)) (BitVec.ofInt 64 256)).toNat) = ((((v * 8 + c) * 2 ^ 9 + d) ||| 256 : Nat) : Int) := hb
  rw [hb', o4]
  omega

theorem g20_ok (a0 : (List (Int × (Int × (Int × Unit))))) (r0 : (Ty.sl (.st 24 (.cons (.int .i64) (.cons (.int .i64) (.cons (.int .i64) .unit))))).ok a0) : g20 a0 = some (Sp04.encL a0, ()) := by
  unfold g20 Sp04.encL
  have e0 : (!Sp04.inside (Int.ofNat a0.length) 1 24) = (decide (a0.length < 1) || decide (24 < a0.length)) := by
    unfold Sp04.inside
    by_cases h1 : a0.length < 1
    · rw [decide_eq_true h1, decide_eq_false (show ¬ (1 : Int) ≤ Int.ofNat a0.length by simp only [Int.ofNat_eq_natCast]; omega)]; rfl
    · rw [decide_eq_false h1, decide_eq_true (show (1 : Int) ≤ Int.ofNat a0.length by simp only [Int.ofNat_eq_natCast]; omega)]
      by_cases h2 : 24 < a0.length
      · rw [decide_eq_true h2, decide_eq_false (show ¬ Int.ofNat a0.length ≤ 24 by simp only [Int.ofNat_eq_natCast]; omega)]; rfl
      · rw [decide_eq_false h2, decide_eq_true (show Int.ofNat a0.length ≤ 24 by simp only [Int.ofNat_eq_natCast]; omega)]; rfl
  rw [e0]
  by_cases h1 : a0.length < 1
  · rw [decide_eq_true h1]; rfl
  by_cases h2 : 24 < a0.length
  · rw [decide_eq_true h2, decide_eq_false h1]; rfl
  rw [decide_eq_false h1, decide_eq_false h2]
  cases hn : a0.any Sp04.lost with
  | true => rfl
  | false =>
    simp only [Bool.or_self, cond_false]
    rw [lint_loop a0 (by omega) hn]
    have hlen : (a0.map lint).length = a0.length := List.length_map _
    have e1 : IntKind.wrap .i64 ((a0.length : Int) - 1) = ((a0.length - 1 : Nat) : Int) := by rw [wi64 (by omega) (by omega)]; omega
    have hget : (a0.map lint).getD (a0.length - 1) 0 = lint (a0.getD (a0.length - 1) (0, 0, 0, ())) := by
      simp only [List.getD_eq_getElem?_getD, List.getElem?_map]
      rw [List.getElem?_eq_getElem (show a0.length - 1 < a0.length by omega)]
      rfl
    have hlast := last_or (not_lost hn (a0.length - 1) (by omega))
    rw [← hget] at hlast
    simp only [Int.ofNat_eq_natCast] at hlast
    simp only [Option.bind_some, Int.ofNat_eq_natCast, hlen, e1, Int.toNat_natCast, hlast]
    rw [decide_eq_true (show (0 : Int) ≤ ((a0.length - 1 : Nat) : Int) by omega), decide_eq_true (show ((a0.length - 1 : Nat) : Int) < (a0.length : Int) by omega), show Nat.blt (a0.length - 1) a0.length = true from Nat.ble_eq_true_of_le (by omega)]
    simp only [Bool.and_self, cond_true]
    unfold ends
    rw [hlen]
end Go.Abs.C04

namespace Go.Abs.C04
open Go Go.Proofs Sp04
set_option maxRecDepth 100000

theorem ends_len (L : List Int) : (ends L).length = L.length := by unfold ends; rw [List.length_set]
theorem ends_getD (L : List Int) (i : Nat) (hi : i < L.length) : (ends L).getD i 0 = bif decide (i = L.length - 1) then L.getD i 0 + 256 else L.getD i 0 := by
  unfold ends
  by_cases h : i = L.length - 1
  · rw [decide_eq_true h, ← h]
    simp [List.getD_eq_getElem?_getD, hi]
  · rw [decide_eq_false h]
    simp only [List.getD_eq_getElem?_getD, cond_false]
    rw [List.getElem?_set_ne (by omega)]
theorem lint_getD (a0 : List Lb) (i : Nat) (hi : i < a0.length) : (a0.map lint).getD i 0 = lint (a0.getD i (0, 0, 0, ())) := by
  simp only [List.getD_eq_getElem?_getD, List.getElem?_map]
  rw [List.getElem?_eq_getElem hi]
  rfl

theorem g21_ok (a0 : (List (Int × (Int × (Int × Unit))))) (r0 : (Ty.sl (.st 24 (.cons (.int .i64) (.cons (.int .i64) (.cons (.int .i64) .unit))))).ok a0) : g21 a0 = some (Sp04.encL a0, ()) := by
  unfold g21 Sp04.encL
  have e1 : decide (Int.ofNat a0.length < 1) = decide (a0.length < 1) := decide_eq_decide.2 (by simp only [Int.ofNat_eq_natCast]; omega)
  have e2 : decide (Int.ofNat a0.length > 24) = decide (24 < a0.length) := decide_eq_decide.2 (by simp only [Int.ofNat_eq_natCast, gt_iff_lt]; omega)
  rw [e1, e2]
  by_cases h1 : a0.length < 1
  · rw [decide_eq_true h1]; rfl
  by_cases h2 : 24 < a0.length
  · rw [decide_eq_true h2, decide_eq_false h1]; rfl
  rw [decide_eq_false h1, decide_eq_false h2]
  have key : ∀ k, k ≤ a0.length → (∀ j, j < a0.length - k → Sp04.lost (a0.getD j (0, 0, 0, ())) = false) → Loop (g21_s0 a0) (joined ((ends (a0.map lint)).take (a0.length - k)), ((a0.length - k : Nat) : Int), ()) =
      some (bif a0.any Sp04.lost then (true, ((2 : Int), [], ()), [], ()) else (false, ((0 : Int), [], ()), joined (ends (a0.map lint)), ())) := by
    intro k
    induction k with
    | zero =>
      intro _ hn
      have hno := any_none (d := (0, 0, 0, ())) (fun j hj => hn j (by omega))
      have ht : (ends (a0.map lint)).take a0.length = ends (a0.map lint) := List.take_of_length_le (by rw [ends_len, List.length_map]; exact Nat.le_refl _)
      rw [Loop_step, hno, Nat.sub_zero, ht]
      unfold g21_s0
      simp only [Int.ofNat_eq_natCast]
      rw [decide_eq_false (show ¬ (a0.length : Int) < (a0.length : Int) by omega)]
      rfl
    | succ k ih =>
      intro hk hn
      rw [Loop_step]
      cases hp : Sp04.lost (a0.getD (a0.length - (k + 1)) (0, 0, 0, ())) with
      | true =>
        have ha : a0.any Sp04.lost = true := List.any_eq_true.2 ⟨_, getD_mem (by omega), hp⟩
        have hv : Sp04.validL (a0.getD (a0.length - (k + 1)) (0, 0, 0, ())) = false := by
          unfold Sp04.lost at hp
          simpa using hp
        rw [ha]
        unfold g21_s0
        simp only [Int.ofNat_eq_natCast, Int.toNat_natCast]
        rw [decide_eq_true (show ((a0.length - (k + 1) : Nat) : Int) < (a0.length : Int) by omega), decide_eq_true (show (0 : Int) ≤ ((a0.length - (k + 1) : Nat) : Int) by omega), hv]
        rfl
      | false =>
        have hv : Sp04.validL (a0.getD (a0.length - (k + 1)) (0, 0, 0, ())) = true := by
          unfold Sp04.lost at hp
          simpa using hp
        obtain ⟨b1, b2, b3⟩ := valid_lab hp
        have hE := ends_getD (a0.map lint) (a0.length - (k + 1)) (by rw [List.length_map]; omega)
        rw [lint_getD a0 _ (by omega), List.length_map] at hE
        have hj := joined_take (ends (a0.map lint)) (a0.length - (k + 1)) (by rw [ends_len, List.length_map]; omega)
        rw [show a0.length - (k + 1) + 1 = a0.length - k by omega, hE] at hj
        have hjl := joined_len ((ends (a0.map lint)).take (a0.length - (k + 1)))
        rw [List.length_take] at hjl
        have hs : g21_s0 a0 (joined ((ends (a0.map lint)).take (a0.length - (k + 1))), ((a0.length - (k + 1) : Nat) : Int), ()) = some (.inl (joined ((ends (a0.map lint)).take (a0.length - k)), ((a0.length - k : Nat) : Int), ())) := by
          rw [hj]
          unfold g21_s0
          simp only [Int.ofNat_eq_natCast, Int.toNat_natCast]
          generalize a0.getD (a0.length - (k + 1)) (0, 0, 0, ()) = l at b1 b2 b3 hv
          have w0 : IntKind.wrap .i64 ((a0.length : Int) - 1) = ((a0.length - 1 : Nat) : Int) := by rw [wi64 (by omega) (by omega)]; omega
          have w1 : IntKind.wrap .i64 (l.1 * 4096) = l.1 * 4096 := wi64 (by omega) (by omega)
          have w2 : IntKind.wrap .i64 (l.2.1 * 512) = l.2.1 * 512 := wi64 (by omega) (by omega)
          have w3 : IntKind.wrap .i64 (l.1 * 4096 + l.2.1 * 512) = l.1 * 4096 + l.2.1 * 512 := wi64 (by omega) (by omega)
          have w4 : IntKind.wrap .i64 (l.1 * 4096 + l.2.1 * 512 + l.2.2.1) = lint l := wi64 (by omega) (by omega)
          have w5 : IntKind.wrap .i64 (lint l + 256) = lint l + 256 := by unfold lint; exact wi64 (by omega) (by omega)
          have w6 : IntKind.wrap .i64 (((a0.length - (k + 1) : Nat) : Int) + 1) = ((a0.length - k : Nat) : Int) := by rw [wi64 (by omega) (by omega)]; omega
          have hbl : ∀ m : Nat, m ≤ 8 → Nat.ble (((joined ((ends (a0.map lint)).take (a0.length - (k + 1)))).length + m) * 1) 140737488355328 = true := fun m hm => Nat.ble_eq_true_of_le (by omega)
          have hc : (((a0.length - (k + 1) : Nat) : Int) = ((a0.length - 1 : Nat) : Int)) = (a0.length - (k + 1) = a0.length - 1) := propext (by omega)
          simp only [w0, w1, w2, w3, w4, w5, w6, hc, hv, wu8m, List.length_cons, List.length_nil, hbl _ (show 0 + 1 + 1 + 1 + 1 ≤ 8 by omega)]
          rw [decide_eq_true (show ((a0.length - (k + 1) : Nat) : Int) < (a0.length : Int) by omega), decide_eq_true (show (0 : Int) ≤ ((a0.length - (k + 1) : Nat) : Int) by omega)]
          by_cases hq : a0.length - (k + 1) = a0.length - 1
          · simp only [hq, decide_true, cond_true, Bool.not_true, cond_false, Bool.and_self, Option.bind_some, Int.fdiv_eq_ediv_of_nonneg _ (show (0 : Int) ≤ 16777216 by omega), Int.fdiv_eq_ediv_of_nonneg _ (show (0 : Int) ≤ 65536 by omega), Int.fdiv_eq_ediv_of_nonneg _ (show (0 : Int) ≤ 256 by omega)]
            rfl
          · simp only [hq, decide_false, cond_true, Bool.not_true, cond_false, Bool.and_self, Option.bind_some, Int.fdiv_eq_ediv_of_nonneg _ (show (0 : Int) ≤ 16777216 by omega), Int.fdiv_eq_ediv_of_nonneg _ (show (0 : Int) ≤ 65536 by omega), Int.fdiv_eq_ediv_of_nonneg _ (show (0 : Int) ≤ 256 by omega)]
            rfl
        rw [hs]
        refine ih (by omega) fun j hj => ?_
        by_cases hjk : j = a0.length - (k + 1)
        · rw [hjk]; exact hp
        · exact hn j (by omega)
  have := key a0.length (Nat.le_refl _) (fun j hj => by omega)
  rw [Nat.sub_self, List.take_zero] at this
  simp only [Bool.not_false, cond_true, Bool.or_self, cond_false, Option.bind_some]
  rw [show Loop (g21_s0 a0) ([], (0 : Int), ()) = _ from this]
  cases a0.any Sp04.lost <;> rfl
end Go.Abs.C04

namespace Go.Abs.C04
open Go Go.Proofs Sp04
set_option maxRecDepth 100000

theorem word_or {x y z w : Int} (hx : 0 ≤ x ∧ x < 256) (hy : 0 ≤ y ∧ y < 256) (hz : 0 ≤ z ∧ z < 256) (hw : 0 ≤ w ∧ w < 256) :
    IntKind.wrap .i64 (Int.ofNat (BitVec.or (BitVec.ofInt 64 (IntKind.wrap .i64 (Int.ofNat (BitVec.or (BitVec.ofInt 64 (IntKind.wrap .i64 (Int.ofNat (BitVec.or (BitVec.ofInt 64 (IntKind.wrap .i64 ((IntKind.wrap .i64 x) * 16777216))) (BitVec.ofInt 64 (IntKind.wrap .i64 ((IntKind.wrap .i64 y) * 65536)))).toNat))) (BitVec.ofInt 64 (IntKind.wrap .i64 ((IntKind.wrap .i64 z) * 256)))).toNat))) (BitVec.ofInt 64 (IntKind.wrap .i64 w))).toNat) = x * 16777216 + y * 65536 + z * 256 + w := by
  obtain ⟨x, rfl⟩ : ∃ n : Nat, x = n := ⟨x.toNat, by omega⟩
  obtain ⟨y, rfl⟩ : ∃ n : Nat, y = n := ⟨y.toNat, by omega⟩
  obtain ⟨z, rfl⟩ : ∃ n : Nat, z = n := ⟨z.toNat, by omega⟩
  obtain ⟨w, rfl⟩ : ∃ n : Nat, w = n := ⟨w.toNat, by omega⟩
  have e1 : IntKind.wrap .i64 ((x : Int) * 16777216) = ((x * 2 ^ 24 : Nat) : Int) := by rw [wi64 (by omega) (by omega)]; omega
  have e2 : IntKind.wrap .i64 ((y : Int) * 65536) = ((y * 2 ^ 16 : Nat) : Int) := by rw [wi64 (by omega) (by omega)]; omega
  have e3 : IntKind.wrap .i64 ((z : Int) * 256) = ((z * 2 ^ 8 : Nat) : Int) := by rw [wi64 (by omega) (by omega)]; omega
  have o1 := or_sum x (y * 2 ^ 16) 24 (by omega)
  have o2 := or_sum (x * 256 + y) (z * 2 ^ 8) 16 (by omega)
  have o3 := or_sum (x * 65536 + y * 256 + z) w 8 (by omega)
  rw [wi64 (n := (x : Int)) (by omega) (by omega), wi64 (n := (y : Int)) (by omega) (by omega), wi64 (n := (z : Int)) (by omega) (by omega), wi64 (n := (w : Int)) (by omega) (by omega), e1, e2, e3,
    bor64 (by omega) (by omega), o1, show x * 2 ^ 24 + y * 2 ^ 16 = (x * 256 + y) * 2 ^ 16 by omega, bor64 (by omega) (by omega), o2,
    show (x * 256 + y) * 2 ^ 16 + z * 2 ^ 8 = (x * 65536 + y * 256 + z) * 2 ^ 8 by omega, bor64 (by omega) (by omega), o3]
  omega
theorem and_low {x : Int} (m k : Nat) (hm : m = 2 ^ k - 1) (hk : k ≤ 8) (h : 0 ≤ x ∧ x < 4294967296) : IntKind.wrap .i64 (Int.ofNat (BitVec.and (BitVec.ofInt 64 x) (BitVec.ofInt 64 (m : Int))).toNat) = x % (2 ^ k : Nat) := by
  have hp : 2 ^ k ≤ 2 ^ 8 := Nat.pow_le_pow_right (by decide) hk
  have hp0 : 0 < 2 ^ k := Nat.two_pow_pos k
  rw [bvand h.1 (by omega) (by omega) (by omega), Int.toNat_natCast, hm, Nat.and_two_pow_sub_one_eq_mod]
  have : x.toNat % 2 ^ k < 2 ^ k := Nat.mod_lt _ hp0
  rw [wi64 (by simp only [Int.ofNat_eq_natCast]; omega) (by simp only [Int.ofNat_eq_natCast]; omega)]
  simp only [Int.ofNat_eq_natCast]
  rw [Int.natCast_emod, Int.toNat_of_nonneg h.1]
theorem fdiv_pos {x d : Int} (h : 0 ≤ x) (hd : 0 < d) : x.fdiv d = x / d := Int.fdiv_eq_ediv_of_nonneg _ (by omega)
theorem tdiv_pos {x d : Int} (h : 0 ≤ x) : x.tdiv d = x / d := Int.tdiv_eq_ediv_of_nonneg h
theorem tmod_pos {x d : Int} (h : 0 ≤ x) : x.tmod d = x % d := Int.tmod_eq_emod_of_nonneg h
theorem labs_succ (b : List Int) (k : Nat) : (List.range (k + 1)).map (fun i => Sp04.lab (word b i)) = (List.range k).map (fun i => Sp04.lab (word b i)) ++ [Sp04.lab (word b k)] := by
  rw [List.range_succ, List.map_append]
  rfl

theorem short22 {a0 : List Int} (hlen : a0.length ≤ 140737488355328) (ls : List Lb) (k : Nat) (hk : k < 24) (h4 : a0.length < 4 * k + 4) :
    g22_s0 a0 (ls, ((4 * k : Nat) : Int), ()) = some (.inr ([], 0, 20, ())) := by
  have e5 : IntKind.wrap .i64 ((a0.length : Int) - ((4 * k : Nat) : Int)) = (a0.length : Int) - ((4 * k : Nat) : Int) := wi64 (by omega) (by omega)
  unfold g22_s0
  simp only [Int.ofNat_eq_natCast, e5]
  rw [decide_eq_true (show (a0.length : Int) - ((4 * k : Nat) : Int) < 4 by omega)]
  rfl
theorem step22 {a0 : List Int} (hlen : a0.length ≤ 140737488355328) (hb : bytesOk a0) (ls : List Lb) (k : Nat) (hk : k < 24) (hl : ls.length = k) (h4 : 4 * k + 4 ≤ a0.length) :
    g22_s0 a0 (ls, ((4 * k : Nat) : Int), ()) = bif decide (word a0 k / 256 % 2 = 1) then some (.inr (ls ++ [Sp04.lab (word a0 k)], 4 * k + 4, 0, ())) else
      bif decide (k + 1 = 24) then some (.inr ([], 0, 3, ())) else some (.inl (ls ++ [Sp04.lab (word a0 k)], ((4 * (k + 1) : Nat) : Int), ())) := by
  have hw := word_range hb k
  have hor := word_or (bytesOk_getD hb (4 * k)) (bytesOk_getD hb (4 * k + 1)) (bytesOk_getD hb (4 * k + 2)) (bytesOk_getD hb (4 * k + 3))
  rw [show a0.getD (4 * k) 0 * 16777216 + a0.getD (4 * k + 1) 0 * 65536 + a0.getD (4 * k + 2) 0 * 256 + a0.getD (4 * k + 3) 0 = word a0 k from rfl] at hor
  have e1 : IntKind.wrap .i64 (((4 * k : Nat) : Int) + 1) = ((4 * k + 1 : Nat) : Int) := by rw [wi64 (by omega) (by omega)]; omega
  have e2 : IntKind.wrap .i64 (((4 * k : Nat) : Int) + 2) = ((4 * k + 2 : Nat) : Int) := by rw [wi64 (by omega) (by omega)]; omega
  have e3 : IntKind.wrap .i64 (((4 * k : Nat) : Int) + 3) = ((4 * k + 3 : Nat) : Int) := by rw [wi64 (by omega) (by omega)]; omega
  have e4 : IntKind.wrap .i64 (((4 * k : Nat) : Int) + 4) = ((4 * (k + 1) : Nat) : Int) := by rw [wi64 (by omega) (by omega)]; omega
  have e5 : IntKind.wrap .i64 ((a0.length : Int) - ((4 * k : Nat) : Int)) = (a0.length : Int) - ((4 * k : Nat) : Int) := wi64 (by omega) (by omega)
  unfold g22_s0
  simp only [Int.ofNat_eq_natCast] at hor ⊢
  simp only [e1, e2, e3, e4, e5, Int.toNat_natCast, hor]
  have f1 : (word a0 k).fdiv 256 = word a0 k / 256 := fdiv_pos hw.1 (by decide)
  have f2 : (word a0 k).fdiv 512 = word a0 k / 512 := fdiv_pos hw.1 (by decide)
  have f3 : (word a0 k).fdiv 4096 = word a0 k / 4096 := fdiv_pos hw.1 (by decide)
  have a1 := and_low 1 1 rfl (by decide) (x := word a0 k / 256) (by omega)
  have a2 := and_low 7 3 rfl (by decide) (x := word a0 k / 512) (by omega)
  have a3 := and_low 255 8 rfl (by decide) (x := word a0 k) hw
  simp only [Int.ofNat_eq_natCast] at a1 a2 a3
  have a1 : IntKind.wrap .i64 ((BitVec.and (BitVec.ofInt 64 (word a0 k / 256)) (BitVec.ofInt 64 1)).toNat : Int) = word a0 k / 256 % 2 := a1
  have a2 : IntKind.wrap .i64 ((BitVec.and (BitVec.ofInt 64 (word a0 k / 512)) (BitVec.ofInt 64 7)).toNat : Int) = word a0 k / 512 % 8 := a2
  have a3 : IntKind.wrap .i64 ((BitVec.and (BitVec.ofInt 64 (word a0 k)) (BitVec.ofInt 64 255)).toNat : Int) = word a0 k % 256 := a3
  simp only [f1, f2, f3, a1, a2, a3]
  rw [decide_eq_false (show ¬ (a0.length : Int) - ((4 * k : Nat) : Int) < 4 by omega), decide_eq_true (show (0 : Int) ≤ ((4 * k : Nat) : Int) by omega), decide_eq_true (show ((4 * k : Nat) : Int) < (a0.length : Int) by omega),
    decide_eq_true (show (0 : Int) ≤ ((4 * k + 1 : Nat) : Int) by omega), decide_eq_true (show ((4 * k + 1 : Nat) : Int) < (a0.length : Int) by omega),
    decide_eq_true (show (0 : Int) ≤ ((4 * k + 2 : Nat) : Int) by omega), decide_eq_true (show ((4 * k + 2 : Nat) : Int) < (a0.length : Int) by omega),
    decide_eq_true (show (0 : Int) ≤ ((4 * k + 3 : Nat) : Int) by omega), decide_eq_true (show ((4 * k + 3 : Nat) : Int) < (a0.length : Int) by omega),
    show Nat.ble ((ls.length + 1) * 24) 140737488355328 = true from Nat.ble_eq_true_of_le (by omega)]
  simp only [Bool.and_self, cond_true, cond_false, List.length_append, List.length_cons, List.length_nil, hl]
  rw [show decide ((((k + (0 + 1) : Nat)) : Int) = 24) = decide (k + 1 = 24) from decide_eq_decide.2 (by omega), show (((4 * (k + 1) : Nat)) : Int) = 4 * (k : Int) + 4 by omega]
  rfl
theorem loop22 {a0 : List Int} (hlen : a0.length ≤ 140737488355328) (hb : bytesOk a0) : ∀ f k, f + 1 + k = 24 → Loop (g22_s0 a0) ((List.range k).map (fun i => Sp04.lab (word a0 i)), ((4 * k : Nat) : Int), ()) = some (decGo a0 (f + 1) k) := by
  intro f
  induction f with
  | zero =>
    intro k hk
    rw [Loop_step]
    by_cases h4 : a0.length < 4 * k + 4
    · rw [short22 hlen _ k (by omega) h4]
      unfold decGo
      rw [decide_eq_true h4]
      rfl
    · rw [step22 hlen hb _ k (by omega) (by rw [List.length_map, List.length_range]) (by omega), decide_eq_true (show k + 1 = 24 by omega)]
      unfold decGo
      rw [decide_eq_false h4, labs_succ]
      cases decide (word a0 k / 256 % 2 = 1) <;> rfl
  | succ f ih =>
    intro k hk
    rw [Loop_step]
    by_cases h4 : a0.length < 4 * k + 4
    · rw [short22 hlen _ k (by omega) h4]
      unfold decGo
      rw [decide_eq_true h4]
      rfl
    · rw [step22 hlen hb _ k (by omega) (by rw [List.length_map, List.length_range]) (by omega), decide_eq_false (show ¬ k + 1 = 24 by omega), ← labs_succ]
      have ih := ih (k + 1) (by omega)
      rw [decGo, decide_eq_false h4]
      cases decide (word a0 k / 256 % 2 = 1) with
      | true => rfl
      | false => exact ih
theorem g22_ok (a0 : (List Int)) (r0 : (Ty.sl (.int .u8)).ok a0) : g22 a0 = some (Sp04.decL a0, ()) := by
  obtain ⟨hlen, hb⟩ := dat r0
  unfold g22 Sp04.decL
  have h := loop22 hlen hb 23 0 rfl
  have h : Loop (g22_s0 a0) ([], 0, ()) = some (decGo a0 24 0) := h
  rw [h]
  rfl
theorem short24 {a0 : List Int} (hlen : a0.length ≤ 140737488355328) (ls : List Lb) (k : Nat) (hk : k < 24) (h4 : a0.length < 4 * k + 4) :
    g24_s0 a0 (((4 * k : Nat) : Int), ls, ()) = some (.inr ([], 0, 20, ())) := by
  have e5 : IntKind.wrap .i64 ((a0.length : Int) - ((4 * k : Nat) : Int)) = (a0.length : Int) - ((4 * k : Nat) : Int) := wi64 (by omega) (by omega)
  unfold g24_s0
  simp only [Int.ofNat_eq_natCast, e5]
  rw [decide_eq_true (show (a0.length : Int) - ((4 * k : Nat) : Int) < 4 by omega)]
  rfl
theorem step24 {a0 : List Int} (hlen : a0.length ≤ 140737488355328) (hb : bytesOk a0) (ls : List Lb) (k : Nat) (hk : k < 24) (hl : ls.length = k) (h4 : 4 * k + 4 ≤ a0.length) :
    g24_s0 a0 (((4 * k : Nat) : Int), ls, ()) = bif decide (word a0 k / 256 % 2 = 1) then some (.inr (ls ++ [Sp04.lab (word a0 k)], 4 * k + 4, 0, ())) else
      bif decide (k + 1 = 24) then some (.inr ([], 0, 3, ())) else some (.inl (((4 * (k + 1) : Nat) : Int), ls ++ [Sp04.lab (word a0 k)], ())) := by
  have hw := word_range hb k
  have hor := word_or (bytesOk_getD hb (4 * k)) (bytesOk_getD hb (4 * k + 1)) (bytesOk_getD hb (4 * k + 2)) (bytesOk_getD hb (4 * k + 3))
  rw [show a0.getD (4 * k) 0 * 16777216 + a0.getD (4 * k + 1) 0 * 65536 + a0.getD (4 * k + 2) 0 * 256 + a0.getD (4 * k + 3) 0 = word a0 k from rfl] at hor
  have e1 : IntKind.wrap .i64 (((4 * k : Nat) : Int) + 1) = ((4 * k + 1 : Nat) : Int) := by rw [wi64 (by omega) (by omega)]; omega
  have e2 : IntKind.wrap .i64 (((4 * k : Nat) : Int) + 2) = ((4 * k + 2 : Nat) : Int) := by rw [wi64 (by omega) (by omega)]; omega
  have e3 : IntKind.wrap .i64 (((4 * k : Nat) : Int) + 3) = ((4 * k + 3 : Nat) : Int) := by rw [wi64 (by omega) (by omega)]; omega
  have e4 : IntKind.wrap .i64 (((4 * k : Nat) : Int) + 4) = ((4 * (k + 1) : Nat) : Int) := by rw [wi64 (by omega) (by omega)]; omega
  have e5 : IntKind.wrap .i64 ((a0.length : Int) - ((4 * k : Nat) : Int)) = (a0.length : Int) - ((4 * k : Nat) : Int) := wi64 (by omega) (by omega)
  unfold g24_s0
  simp only [Int.ofNat_eq_natCast] at hor ⊢
  simp only [e1, e2, e3, e4, e5, Int.toNat_natCast, hor]
  have f1 : IntKind.wrap .i64 ((word a0 k).tdiv 256) = word a0 k / 256 := by rw [tdiv_pos hw.1, wi64 (by omega) (by omega)]
  have f2 : IntKind.wrap .i64 ((word a0 k).tdiv 512) = word a0 k / 512 := by rw [tdiv_pos hw.1, wi64 (by omega) (by omega)]
  have f3 : IntKind.wrap .i64 ((word a0 k).tdiv 4096) = word a0 k / 4096 := by rw [tdiv_pos hw.1, wi64 (by omega) (by omega)]
  have a1 : (word a0 k / 256).tmod 2 = word a0 k / 256 % 2 := tmod_pos (by omega)
  have a2 : (word a0 k / 512).tmod 8 = word a0 k / 512 % 8 := tmod_pos (by omega)
  have a3 : (word a0 k).tmod 256 = word a0 k % 256 := tmod_pos hw.1
  simp only [f1, f2, f3, a1, a2, a3]
  rw [decide_eq_false (show ¬ (a0.length : Int) - ((4 * k : Nat) : Int) < 4 by omega), decide_eq_true (show (0 : Int) ≤ ((4 * k : Nat) : Int) by omega), decide_eq_true (show ((4 * k : Nat) : Int) < (a0.length : Int) by omega),
    decide_eq_true (show (0 : Int) ≤ ((4 * k + 1 : Nat) : Int) by omega), decide_eq_true (show ((4 * k + 1 : Nat) : Int) < (a0.length : Int) by omega),
    decide_eq_true (show (0 : Int) ≤ ((4 * k + 2 : Nat) : Int) by omega), decide_eq_true (show ((4 * k + 2 : Nat) : Int) < (a0.length : Int) by omega),
    decide_eq_true (show (0 : Int) ≤ ((4 * k + 3 : Nat) : Int) by omega), decide_eq_true (show ((4 * k + 3 : Nat) : Int) < (a0.length : Int) by omega),
    show Nat.ble ((ls.length + 1) * 24) 140737488355328 = true from Nat.ble_eq_true_of_le (by omega)]
  simp only [Bool.and_self, cond_true, cond_false, List.length_append, List.length_cons, List.length_nil, hl]
  rw [show decide ((((k + (0 + 1) : Nat)) : Int) = 24) = decide (k + 1 = 24) from decide_eq_decide.2 (by omega), show (((4 * (k + 1) : Nat)) : Int) = 4 * (k : Int) + 4 by omega]
  rfl
theorem loop24 {a0 : List Int} (hlen : a0.length ≤ 140737488355328) (hb : bytesOk a0) : ∀ f k, f + 1 + k = 24 → Loop (g24_s0 a0) (((4 * k : Nat) : Int), (List.range k).map (fun i => Sp04.lab (word a0 i)), ()) = some (decGo a0 (f + 1) k) := by
  intro f
  induction f with
  | zero =>
    intro k hk
    rw [Loop_step]
    by_cases h4 : a0.length < 4 * k + 4
    · rw [short24 hlen _ k (by omega) h4]
      unfold decGo
      rw [decide_eq_true h4]
      rfl
    · rw [step24 hlen hb _ k (by omega) (by rw [List.length_map, List.length_range]) (by omega), decide_eq_true (show k + 1 = 24 by omega)]
      unfold decGo
      rw [decide_eq_false h4, labs_succ]
      cases decide (word a0 k / 256 % 2 = 1) <;> rfl
  | succ f ih =>
    intro k hk
    rw [Loop_step]
    by_cases h4 : a0.length < 4 * k + 4
    · rw [short24 hlen _ k (by omega) h4]
      unfold decGo
      rw [decide_eq_true h4]
      rfl
    · rw [step24 hlen hb _ k (by omega) (by rw [List.length_map, List.length_range]) (by omega), decide_eq_false (show ¬ k + 1 = 24 by omega), ← labs_succ]
      have ih := ih (k + 1) (by omega)
      rw [decGo, decide_eq_false h4]
      cases decide (word a0 k / 256 % 2 = 1) with
      | true => rfl
      | false => exact ih
theorem g24_ok (a0 : (List Int)) (r0 : (Ty.sl (.int .u8)).ok a0) : g24 a0 = some (Sp04.decL a0, ()) := by
  obtain ⟨hlen, hb⟩ := dat r0
  unfold g24 Sp04.decL
  have h := loop24 hlen hb 23 0 rfl
  have h : Loop (g24_s0 a0) (0, [], ()) = some (decGo a0 24 0) := h
  rw [h]
  rfl
end Go.Abs.C04

namespace Go.Abs.C04
open Go Go.Proofs Sp04
set_option maxRecDepth 100000

theorem map_scan {α σ τ : Type} (a : List α) (d : α) (p : α → Bool) (g : α → Int) (mk : Nat → List Int → σ) (bad : τ) (out : List Int → τ) (f : σ → Option (Sum σ τ))
    (hf : ∀ k l, k < a.length → l.length = k → f (mk k l) = bif p (a.getD k d) then some (.inr bad) else some (.inl (mk (k + 1) (l ++ [g (a.getD k d)]))))
    (he : ∀ l, l.length = a.length → f (mk a.length l) = some (.inr (out l))) : Loop f (mk 0 []) = some (bif a.any p then bad else out (a.map g)) := by
  have key : ∀ j k, k + j = a.length → Loop f (mk k ((a.take k).map g)) = some (bif (a.drop k).any p then bad else out (a.map g)) := by
    intro j
    induction j with
    | zero =>
      intro k hk
      have hk : k = a.length := by omega
      subst hk
      rw [Loop_step, List.take_length, he _ (List.length_map _), List.drop_length]
      rfl
    | succ j ih =>
      intro k hk
      have hlt : k < a.length := by omega
      have hd : a.drop k = a.getD k d :: a.drop (k + 1) := by
        rw [List.drop_eq_getElem_cons hlt, List.getD_eq_getElem?_getD, List.getElem?_eq_getElem hlt]
        rfl
      have ht : (a.take (k + 1)).map g = (a.take k).map g ++ [g (a.getD k d)] := by
        rw [take_succ_getD a k d hlt]
        simp
      rw [Loop_step, hf k _ hlt (by rw [List.length_map, List.length_take]; omega), ← ht, hd, List.any_cons]
      cases p (a.getD k d) with
      | true => rfl
      | false => exact ih (k + 1) (by omega)
  exact key a.length 0 (Nat.zero_add _)

theorem take_all (a : List Int) : List.take (Int.toNat (Int.ofNat a.length)) a = a := List.take_length
theorem near_at {ls : List Lb} (hn : ls.all Sp04.near = true) (k : Nat) (hk : k < ls.length) : Sp04.near (ls.getD k (0, 0, 0, ())) = true :=
  List.all_eq_true.1 hn _ (getD_mem hk)
theorem near_wrap {l : Lb} (h : Sp04.near l = true) : IntKind.wrap .i64 (l.1 - 16) = l.1 - 16 := by
  have := inside_iff.1 h
  exact wi64 (by omega) (by omega)
theorem any_no {α : Type} (l : List α) : l.any (fun _ => false) = false := by
  induction l with
  | nil => rfl
  | cons x l ih => rw [List.any_cons, ih]; rfl
theorem untag27 (a0 : List Int) (ls : List Lb) (hd : (Sp04.decL (List.drop 1 a0)).1 = ls) (hl : ls.length ≤ 24) (hn : ls.all Sp04.near = true) :
    Loop (g27_s0 a0) (ls, Sp04.zf, (0 : Int), ()) = some ((ls.map fun l => l.1 - 16, Sp04.zp), ()) := by
  have h := map_scan ls (0, 0, 0, ()) (fun _ => false) (fun l => l.1 - 16) (fun k l => ((ls, (l, Sp04.zp), (k : Int), ()) : (List Lb × Fr × Int × Unit))) ((zf, ()) : Fr × Unit) (fun l => ((l, Sp04.zp), ())) (g27_s0 a0)
    (by
      intro k l hk hlen
      unfold g27_s0
      rw [take_all a0]
      simp only [hd, Int.ofNat_eq_natCast, Int.toNat_natCast]
      rw [decide_eq_true (show (k : Int) < (ls.length : Int) by omega), decide_eq_true (show (0 : Int) ≤ (k : Int) by omega), show Nat.blt k ls.length = true from Nat.ble_eq_true_of_le hk,
        show Nat.ble ((l.length + 1) * 8) 140737488355328 = true from Nat.ble_eq_true_of_le (by omega), near_wrap (near_at hn k hk), wi64 (n := (k : Int) + 1) (by omega) (by omega)]
      rfl)
    (by
      intro l hlen
      unfold g27_s0
      rw [take_all a0]
      simp only [hd, Int.ofNat_eq_natCast, Int.toNat_natCast]
      rw [decide_eq_false (show ¬ (ls.length : Int) < (ls.length : Int) by omega)]
      rfl)
  rw [any_no] at h
  exact h

theorem g27_ok (a0 : (List Int)) (r0 : (Ty.sl (.int .u8)).ok a0) : g27 a0 = some (Sp04.decF a0, ()) := by
  obtain ⟨hlen, hb⟩ := dat r0
  have hb1 : bytesOk (List.drop 1 a0) := fun x hx => hb x (List.mem_of_mem_drop hx)
  unfold g27 Sp04.decF
  simp only [take_all]
  by_cases h0 : a0.length = 0
  · rw [decide_eq_true (show Int.ofNat a0.length = 0 by rw [h0]; rfl), decide_eq_true h0]; rfl
  rw [decide_eq_false (show ¬ Int.ofNat a0.length = 0 by simp only [Int.ofNat_eq_natCast]; omega), decide_eq_false h0, decide_eq_true (show (0 : Int) < Int.ofNat a0.length by simp only [Int.ofNat_eq_natCast]; omega),
    decide_eq_true (show (1 : Int) ≤ Int.ofNat a0.length by simp only [Int.ofNat_eq_natCast]; omega), decide_eq_true (show Int.ofNat a0.length ≤ Int.ofNat a0.length from Int.le_refl _)]
  by_cases h1 : 1 < a0.getD 0 0
  · rw [decide_eq_true (show a0.getD 0 0 > 1 from h1)]
    try rw [decide_eq_true h1]
    rfl
  rw [decide_eq_false (show ¬ a0.getD 0 0 > 1 from h1)]
  try rw [decide_eq_false h1]
  by_cases h2 : a0.getD 0 0 = 1
  · rw [decide_eq_true h2]
    rcases decL_facts hb1 with ⟨q1, q2, q3⟩ | ⟨n, hn, hln, hD⟩
    · generalize Sp04.decL (List.drop 1 a0) = D at q1 q2 q3
      rw [decide_eq_false q3]
      rfl
    · have hnear : (((List.range (n + 1)).map (fun i => Sp04.lab (word (List.drop 1 a0) i)))).all Sp04.near = true := by
        rw [List.all_eq_true]
        intro x hx
        obtain ⟨i, _, rfl⟩ := List.mem_map.1 hx
        exact (lab_near hb1 i).1
      have hll : ((List.range (n + 1)).map (fun i => Sp04.lab (word (List.drop 1 a0) i))).length = n + 1 := by rw [List.length_map, List.length_range]
      have hloop := untag27 a0 _ (by rw [hD]) (by omega) hnear
      rw [hD]
      generalize (List.range (n + 1)).map (fun i => Sp04.lab (word (List.drop 1 a0) i)) = ls at hnear hll hloop
      simp only [hnear]
      rw [decide_eq_true (show (0 : Int) ≤ 4 * (n : Int) + 4 by omega), decide_eq_true (show 4 * (n : Int) + 4 ≤ Int.ofNat (List.drop 1 a0).length by simp only [Int.ofNat_eq_natCast]; omega), decide_eq_true (show Int.ofNat (List.drop 1 a0).length ≤ Int.ofNat (List.drop 1 a0).length from Int.le_refl _)]
      unfold Sp04.on
      simp only [decide_true, Bool.not_true, Bool.and_self, cond_true, cond_false, Option.bind_some, Bool.not_false]
      cases ls.any alien with
      | true => rfl
      | false =>
        have hloop : Loop (g27_s0 a0) (ls, ([], 0, 0, 0, 0, 0, 0, 0, 0, 0, [], ()), (0 : Int), ()) = some ((ls.map fun l => l.1 - 16, Sp04.zp), ()) := hloop
        simp only [cond_false]
        rw [hloop]
        simp only [Option.bind_some]
        cases twice (ls.map fun l => l.1 - 16) with
        | true => rfl
        | false =>
          unfold Sp04.decRest
          simp only [cond_false, Option.bind_some, show (4 * (n : Int) + 4).toNat = 4 * n + 4 by omega]
          generalize Sp04.decode (List.drop (4 * n + 4) (List.drop 1 a0)) = D
          obtain ⟨d1, d2, d3⟩ := D
          by_cases h : d2 = 0
          · simp only [h]; rfl
          · simp only [decide_eq_false h]; rfl
  · rw [decide_eq_false h2]
    unfold Sp04.decRest
    simp only [Bool.and_self, Bool.true_and, cond_true, cond_false, Bool.not_false, Option.bind_some]
    generalize Sp04.decode (List.drop 1 a0) = D
    obtain ⟨d1, d2, d3⟩ := D
    by_cases h : d2 = 0
    · simp only [h]; rfl
    · simp only [decide_eq_false h]; rfl
end Go.Abs.C04

namespace Go.Abs.C04
open Go Go.Proofs Sp04
set_option maxRecDepth 100000

theorem order_mem (t : Tp) : ∀ (k : Nat) (x : Int), x ∈ (orderN k t).1 → 0 ≤ x ∧ x < (k : Int)
  | 0, x, h => by cases h
  | k + 1, x, h => by
    rw [orderN] at h
    simp only at h
    rcases List.mem_append.1 h with h | h
    · have := order_mem t k x (List.mem_of_mem_take h)
      omega
    · rcases List.mem_cons.1 h with h | h
      · omega
      · have := order_mem t k x (List.mem_of_mem_drop h)
        omega
theorem route_loop (y : List Int × Tp) (hl : y.1.length = 5) (hm : ∀ x ∈ y.1, 0 ≤ x ∧ x < 5) (p : Pk) (k : Nat) (hk : k < 5) : ∀ j, j ≤ k →
    Loop (g11_s0 y) ((j : Int), ((List.range (k - j)).map (fun i => 1 + y.1.getD (k - i) 0), p), ()) = some (((List.range k).map (fun i => 1 + y.1.getD (k - i) 0), p), ())
  | 0, _ => by
    rw [Loop_step]
    unfold g11_s0
    rw [decide_eq_false (show ¬ ((0 : Nat) : Int) > 0 by omega)]
    rfl
  | j + 1, h => by
    rw [Loop_step]
    have hx := hm _ (getD_mem (d := 0) (show j + 1 < y.1.length by omega))
    have hs : g11_s0 y (((j + 1 : Nat) : Int), ((List.range (k - (j + 1))).map (fun i => 1 + y.1.getD (k - i) 0), p), ()) = some (.inl ((j : Int), ((List.range (k - j)).map (fun i => 1 + y.1.getD (k - i) 0), p), ())) := by
      unfold g11_s0
      simp only [Int.ofNat_eq_natCast, Int.toNat_natCast, List.length_map, List.length_range]
      rw [decide_eq_true (show ((j + 1 : Nat) : Int) > 0 by omega), decide_eq_true (show (0 : Int) ≤ ((j + 1 : Nat) : Int) by omega), decide_eq_true (show ((j + 1 : Nat) : Int) < (y.1.length : Int) by omega),
        show Nat.ble ((k - (j + 1) + 1) * 8) 140737488355328 = true from Nat.ble_eq_true_of_le (by omega), wi64 (n := ((j + 1 : Nat) : Int) - 1) (by omega) (by omega), wi64 (n := 1 + y.1.getD (j + 1) 0) (by omega) (by omega),
        show ((j + 1 : Nat) : Int) - 1 = (j : Int) by omega, show k - j = k - (j + 1) + 1 by omega, List.range_succ, List.map_append, show (List.map (fun i => 1 + y.1.getD (k - i) 0) [k - (j + 1)]) = [1 + y.1.getD (j + 1) 0] by
          simp only [List.map_cons, List.map_nil]
          rw [show k - (k - (j + 1)) = j + 1 by omega]]
      rfl
    rw [hs]
    exact route_loop y hl hm p k hk j (by omega)
theorem more_loop (r : List Int) (hr : r.length ≤ 100) (p : Pk) : ∀ j, j ≤ 25 →
    Loop g11_s1 ((r ++ (List.range (25 - j)).map (fun (i : Nat) => 50 + (i : Int)), p), ((25 - j : Nat) : Int), ()) = some ((r ++ (List.range 25).map (fun (i : Nat) => 50 + (i : Int)), p), ())
  | 0, _ => by
    rw [Loop_step]
    rfl
  | j + 1, h => by
    rw [Loop_step]
    have hs : g11_s1 ((r ++ (List.range (25 - (j + 1))).map (fun (i : Nat) => 50 + (i : Int)), p), ((25 - (j + 1) : Nat) : Int), ()) = some (.inl ((r ++ (List.range (25 - j)).map (fun (i : Nat) => 50 + (i : Int)), p), ((25 - j : Nat) : Int), ())) := by
      unfold g11_s1
      simp only [List.length_append, List.length_map, List.length_range]
      rw [decide_eq_true (show ((25 - (j + 1) : Nat) : Int) < 25 by omega), show Nat.ble ((r.length + (25 - (j + 1)) + 1) * 8) 140737488355328 = true from Nat.ble_eq_true_of_le (by omega),
        wi64 (n := ((25 - (j + 1) : Nat) : Int) + 1) (by omega) (by omega), wi64 (n := 50 + ((25 - (j + 1) : Nat) : Int)) (by omega) (by omega), show ((25 - (j + 1) : Nat) : Int) + 1 = ((25 - j : Nat) : Int) by omega,
        show 25 - j = 25 - (j + 1) + 1 by omega, List.range_succ, List.map_append, List.append_assoc]
      rfl
    rw [hs]
    exact more_loop r hr p j (by omega)

theorem g11_ok (a0 : (List Int)) (a1 : Int) (a2 : Int) (r0 : (Ty.sl (.int .i64)).ok a0) (r1 : IntKind.i64.has a1) (r2 : IntKind.i64.has a2) (h : (Sp04.wf (a0, a1, ()) && Sp04.small a2) = true) : g11 a0 a1 a2 = some (Sp04.frm (a0, a1, ()) a2) := by
  simp only [Bool.and_eq_true] at h
  obtain ⟨w0, hsm⟩ := h
  unfold g11 frm
  simp only
  rw [on_true (show (wf (a0, a1, ()) && small 0) = true by rw [w0]; rfl)]
  simp only [Option.bind_some]
  have w := packet_wf (n := 0) w0
  generalize packet (a0, a1, ()) 0 = y3 at w ⊢
  rw [on_true (show (wf y3.2 && decide ((0 : Int) ≤ 5) && decide ((5 : Int) ≤ 1000)) = true by rw [w]; rfl)]
  simp only [Option.bind_some]
  have hl : (order y3.2 5).1.length = 5 := (order_wf w 5).2
  have hm : ∀ x ∈ (order y3.2 5).1, 0 ≤ x ∧ x < 5 := fun x hx => order_mem y3.2 5 x hx
  replace w : wf (order y3.2 5).2 = true := (order_wf w 5).1
  generalize order y3.2 5 = y4 at w hl hm ⊢
  rw [on_true w]
  simp only [Option.bind_some]
  have hk := next_range (t := y4.2) (n := 5) (by decide)
  replace w := next_wf (n := 5) w
  generalize next y4.2 5 = y5 at w hk ⊢
  obtain ⟨k5, t5⟩ := y5
  simp only at w hk ⊢
  obtain ⟨k, rfl⟩ : ∃ n : Nat, k5 = n := ⟨k5.toNat, by omega⟩
  have hr := route_loop y4 hl hm y3.1 k (by omega) k (Nat.le_refl _)
  rw [Nat.sub_self] at hr
  have hr : Loop (g11_s0 y4) ((k : Int), ([], y3.1), ()) = some (((List.range k).map (fun i => 1 + y4.1.getD (k - i) 0), y3.1), ()) := hr
  rw [hr]
  simp only [Option.bind_some, Int.toNat_natCast]
  have hrl : ((List.range k).map (fun i => 1 + y4.1.getD (k - i) 0)).length < 5 := by rw [List.length_map, List.length_range]; omega
  generalize (List.range k).map (fun i => 1 + y4.1.getD (k - i) 0) = r at hrl ⊢
  simp only [gt_iff_lt]
  by_cases hp : 0 < a2
  rotate_left
  · simp only [hp, decide_false, cond_false, Option.bind_some]
  simp only [hp, decide_true, cond_true]
  rw [on_true (show (wf t5 && small a2) = true by rw [w, hsm]; rfl)]
  simp only [Option.bind_some]
  replace w := one_wf (n := a2) w
  generalize one t5 a2 = y7 at w ⊢
  obtain ⟨b7, t7⟩ := y7
  cases b7 with
  | false => simp only [cond_false, Option.bind_some]
  | true =>
    simp only [cond_true]
    simp only at w
    rw [on_true w]
    simp only [Option.bind_some]
    replace w := next_wf (n := 3) w
    generalize next t7 3 = y8 at w ⊢
    rw [on_true (show (wf y8.2 && small 1) = true by rw [w]; rfl), on_true (show (wf y8.2 && decide (0 < 5) && decide (5 ≤ 1000)) = true by rw [w]; rfl)]
    have hm := more_loop r (by omega) y3.1 25 (Nat.le_refl _)
    have hm : Loop g11_s1 ((r ++ [], y3.1), (0 : Int), ()) = some ((r ++ (List.range 25).map (fun (i : Nat) => 50 + (i : Int)), y3.1), ()) := hm
    rw [List.append_nil] at hm
    rw [hm, show Nat.ble ((r.length + 1) * 8) 140737488355328 = true from Nat.ble_eq_true_of_le (by omega)]
    simp only [Option.bind_some, cond_true]
    by_cases k0 : y8.1 = 0
    · simp only [k0, decide_true, cond_true, Option.bind_some]
    by_cases k1 : y8.1 = 1
    · simp only [k0, k1, decide_true, decide_false, cond_true, cond_false, Option.bind_some]; rfl
    simp only [k0, k1, decide_false, cond_false, Option.bind_some]
end Go.Abs.C04

namespace Go.Abs.C04
open Go Go.Proofs Sp04
set_option maxRecDepth 100000

theorem alien_at (x : Lb) : alien x = (decide (x.1 < 17) || decide (x.1 > 115) || !decide (x.2.1 = 0) || !decide (x.2.2.1 = 255)) := by
  unfold alien stray router inside
  by_cases h1 : x.1 < 17
  · rw [decide_eq_true h1, decide_eq_false (show ¬ 1 ≤ x.1 - 16 by omega)]; rfl
  by_cases h2 : x.1 > 115
  · rw [decide_eq_true h2, decide_eq_false (show ¬ x.1 - 16 ≤ 99 by omega), Bool.and_false, Bool.or_true]; rfl
  rw [decide_eq_false h1, decide_eq_false h2, decide_eq_true (show 1 ≤ x.1 - 16 by omega), decide_eq_true (show x.1 - 16 ≤ 99 by omega)]
  rfl
theorem untag29 (ls : List Lb) (hl : ls.length ≤ 24) (hn : ls.all Sp04.near = true) :
    Loop g29_s0 (zf, (0 : Int), zf, ls, ()) = some (bif ls.any alien then (true, (zf, (2 : Int), ()), zf, zf, ()) else (false, (zf, (0 : Int), ()), (ls.map fun l => l.1 - 16, zp), zf, ())) := by
  exact map_scan ls (0, 0, 0, ()) alien (fun l => l.1 - 16) (fun k l => (((l, Sp04.zp), (k : Int), zf, ls, ()) : Fr × Int × Fr × List Lb × Unit)) ((true, (zf, (2 : Int), ()), zf, zf, ()) : Bool × (Fr × Int × Unit) × Fr × Fr × Unit) (fun l => (false, (zf, (0 : Int), ()), (l, zp), zf, ())) g29_s0
    (by
      intro k l hk hlen
      have hnear := near_wrap (near_at hn k hk)
      unfold g29_s0
      simp only [Int.ofNat_eq_natCast, Int.toNat_natCast]
      rw [decide_eq_true (show (k : Int) < (ls.length : Int) by omega), decide_eq_true (show (0 : Int) ≤ (k : Int) by omega), show Nat.blt k ls.length = true from Nat.ble_eq_true_of_le hk]
      simp only [Bool.and_self, cond_true]
      rw [alien_at]
      by_cases h1 : (ls.getD k (0, 0, 0, ())).1 < 17
      · simp only [decide_eq_true h1, Bool.not_true, cond_false, Option.bind_some, cond_true, Bool.true_or]; rfl
      by_cases h2 : (ls.getD k (0, 0, 0, ())).1 > 115
      · simp only [decide_eq_false h1, decide_eq_true h2, Bool.not_true, Bool.not_false, cond_false, Option.bind_some, cond_true, Bool.true_or, Bool.or_true]; rfl
      by_cases h3 : (ls.getD k (0, 0, 0, ())).2.1 = 0
      · by_cases h4 : (ls.getD k (0, 0, 0, ())).2.2.1 = 255
        · simp only [decide_eq_false h1, decide_eq_false h2, decide_eq_true h3, decide_eq_true h4, Bool.not_true, Bool.not_false, cond_false, Option.bind_some, cond_true, Bool.or_false, decide_eq_true (show (k : Int) < (ls.length : Int) by omega), decide_eq_true (show (0 : Int) ≤ (k : Int) by omega), Bool.and_self, show Nat.blt k ls.length = true from Nat.ble_eq_true_of_le hk,
            show Nat.ble ((l.length + 1) * 8) 140737488355328 = true from Nat.ble_eq_true_of_le (by omega), hnear, wi64 (n := (k : Int) + 1) (by omega) (by omega)]
          rfl
        · simp only [decide_eq_false h1, decide_eq_false h2, decide_eq_true h3, decide_eq_false h4, Bool.not_true, Bool.not_false, cond_false, Option.bind_some, cond_true, Bool.or_false, Bool.or_true]; rfl
      · simp only [decide_eq_false h1, decide_eq_false h2, decide_eq_false h3, Bool.not_true, Bool.not_false, cond_false, Option.bind_some, cond_true, Bool.or_false, Bool.or_true, Bool.true_or]; rfl)
    (by
      intro l hlen
      unfold g29_s0
      simp only [Int.ofNat_eq_natCast, Int.toNat_natCast]
      rw [decide_eq_false (show ¬ (ls.length : Int) < (ls.length : Int) by omega)]
      rfl)

theorem g29_ok (a0 : (List Int)) (r0 : (Ty.sl (.int .u8)).ok a0) : g29 a0 = some (Sp04.decF a0, ()) := by
  obtain ⟨hlen, hb⟩ := dat r0
  have hb1 : bytesOk (List.drop 1 a0) := fun x hx => hb x (List.mem_of_mem_drop hx)
  unfold g29 Sp04.decF
  simp only [take_all]
  by_cases h0 : a0.length = 0
  · rw [decide_eq_true (show Int.ofNat a0.length = 0 by rw [h0]; rfl), decide_eq_true h0]; rfl
  rw [decide_eq_false (show ¬ Int.ofNat a0.length = 0 by simp only [Int.ofNat_eq_natCast]; omega), decide_eq_false h0, decide_eq_true (show (0 : Int) < Int.ofNat a0.length by simp only [Int.ofNat_eq_natCast]; omega),
    decide_eq_true (show (1 : Int) ≤ Int.ofNat a0.length by simp only [Int.ofNat_eq_natCast]; omega), decide_eq_true (show Int.ofNat a0.length ≤ Int.ofNat a0.length from Int.le_refl _)]
  by_cases h1 : 1 < a0.getD 0 0
  · rw [decide_eq_true (show a0.getD 0 0 > 1 from h1)]
    try rw [decide_eq_true h1]
    rfl
  rw [decide_eq_false (show ¬ a0.getD 0 0 > 1 from h1)]
  try rw [decide_eq_false h1]
  by_cases h2 : a0.getD 0 0 = 1
  · rw [decide_eq_true h2]
    rcases decL_facts hb1 with ⟨q1, q2, q3⟩ | ⟨n, hn, hln, hD⟩
    · generalize Sp04.decL (List.drop 1 a0) = D at q1 q2 q3
      rw [decide_eq_false q3]
      rfl
    · have hnear : (((List.range (n + 1)).map (fun i => Sp04.lab (word (List.drop 1 a0) i)))).all Sp04.near = true := by
        rw [List.all_eq_true]
        intro x hx
        obtain ⟨i, _, rfl⟩ := List.mem_map.1 hx
        exact (lab_near hb1 i).1
      have hll : ((List.range (n + 1)).map (fun i => Sp04.lab (word (List.drop 1 a0) i))).length = n + 1 := by rw [List.length_map, List.length_range]
      have hloop := untag29 _ (by omega) hnear
      rw [hD]
      generalize (List.range (n + 1)).map (fun i => Sp04.lab (word (List.drop 1 a0) i)) = ls at hnear hll hloop
      rw [decide_eq_true (show (0 : Int) ≤ 4 * (n : Int) + 4 by omega), decide_eq_true (show 4 * (n : Int) + 4 ≤ Int.ofNat (List.drop 1 a0).length by simp only [Int.ofNat_eq_natCast]; omega), decide_eq_true (show Int.ofNat (List.drop 1 a0).length ≤ Int.ofNat (List.drop 1 a0).length from Int.le_refl _)]
      have hloop : Loop g29_s0 (([], 0, 0, 0, 0, 0, 0, 0, 0, 0, [], ()), (0 : Int), ([], 0, 0, 0, 0, 0, 0, 0, 0, 0, [], ()), ls, ()) = _ := hloop
      simp only [decide_true, Bool.not_true, Bool.and_self, cond_true, cond_false, Option.bind_some, Bool.not_false]
      rw [hloop]
      cases ls.any alien with
      | true => rfl
      | false =>
        simp only [cond_false, Option.bind_some]
        cases twice (ls.map fun l => l.1 - 16) with
        | true => rfl
        | false =>
          unfold Sp04.decRest
          simp only [cond_false, Option.bind_some, show (4 * (n : Int) + 4).toNat = 4 * n + 4 by omega]
          generalize Sp04.decode (List.drop (4 * n + 4) (List.drop 1 a0)) = D
          obtain ⟨d1, d2, d3⟩ := D
          by_cases h : d2 = 0
          · simp only [h]; rfl
          · simp only [decide_eq_false h]; rfl
  · rw [decide_eq_false h2]
    unfold Sp04.decRest
    simp only [Bool.and_self, Bool.true_and, cond_true, cond_false, Bool.not_false, Option.bind_some]
    generalize Sp04.decode (List.drop 1 a0) = D
    obtain ⟨d1, d2, d3⟩ := D
    by_cases h : d2 = 0
    · simp only [h]; rfl
    · simp only [decide_eq_false h]; rfl
end Go.Abs.C04

namespace Go.Abs.C04
open Go Go.Proofs Sp04
set_option maxRecDepth 100000

theorem lbeq (l : List Int) : @List.beq Int (@instBEqOfDecidableEq Int Int.instDecidableEq) l l = true := by
  induction l with
  | nil => rfl
  | cons x r ih => simp [List.beq, ih]
theorem loop_up {α ρ : Type} (f : (Int × List α × Unit) → Option (Sum (Int × List α × Unit) ρ)) (l : List α) (r : ρ) (hs : ∀ i : Nat, i < l.length → f ((i : Int), l, ()) = some (.inl (((i + 1 : Nat) : Int), l, ())))
    (he : f ((l.length : Int), l, ()) = some (.inr r)) : Loop f ((0 : Int), l, ()) = some r := by
  have key : ∀ k, k ≤ l.length → Loop f (((l.length - k : Nat) : Int), l, ()) = some r := by
    intro k
    induction k with
    | zero => intro _; rw [Loop_step, Nat.sub_zero, he]
    | succ k ih =>
      intro hk
      rw [Loop_step, hs _ (by omega)]
      simp only
      rw [show l.length - (k + 1) + 1 = l.length - k by omega]
      exact ih (by omega)
  have := key l.length (Nat.le_refl _)
  rw [Nat.sub_self] at this
  exact this

theorem bytes5 {t : Tp} {b : List Int} {k : Int} (h : 0 ≤ k ∧ k ≤ 100 ∧ wf t = true ∧ (b.length : Int) + k ≤ 200) : ∃ e, Loop g5_s0 (t, b, k, ()) = some e ∧ wf e.1 = true ∧ e.2.1.length ≤ 200 := by
  refine Loop_post (fun v : Tp × Tp => 0 ≤ v.2.2.1 ∧ v.2.2.1 ≤ 100 ∧ wf v.1 = true ∧ (v.2.1.length : Int) + v.2.2.1 ≤ 200) (fun v : Tp × Tp => v.2.2.1.toNat) (fun e : Tp × List Int × Unit => wf e.1 = true ∧ e.2.1.length ≤ 200) ?_ (v := (t, b, k, ())) h
  rintro ⟨t, b, k, ⟨⟩⟩ ⟨p1, p2, p3, p4⟩
  simp only at p1 p2 p3 p4
  unfold g5_s0
  by_cases hk : 0 < k
  rotate_left
  · left
    refine ⟨(t, b, ()), ?_, p3, by simp only; omega⟩
    simp only [gt_iff_lt, hk, decide_false, cond_false]
  right
  simp only [gt_iff_lt, hk, decide_true, cond_true]
  rw [on_true p3]
  simp only [Option.bind_some]
  have w1 := next_wf (n := 256) p3
  generalize next t 256 = y1 at w1 ⊢
  rw [on_true w1]
  simp only [Option.bind_some]
  have w2 := next_wf (n := 2) w1
  generalize next y1.2 2 = y2 at w2 ⊢
  have ek : IntKind.wrap .i64 (k - 1) = k - 1 := wi64 (by omega) (by omega)
  rw [ek, show Nat.ble ((b.length + 1) * 1) 140737488355328 = true from Nat.ble_eq_true_of_le (by omega)]
  exact ⟨_, rfl, ⟨by simp only; omega, by simp only; omega, w2, by simp only [List.length_append, List.length_cons, List.length_nil]; omega⟩, by simp only; omega⟩
theorem clear5 {t : Tp} {b : List Int} (ht : wf t = true) (hb : b.length ≤ 200) : ∃ e, Loop g5_s1 ((2 : Int), b, t, ()) = some e ∧ e.1.length ≤ 200 := by
  refine Loop_post (fun v : Int × List Int × Tp × Unit => 0 ≤ v.1 ∧ v.1 ≤ 300 ∧ wf v.2.2.1 = true ∧ v.2.1.length ≤ 200) (fun v : Int × List Int × Tp × Unit => 300 - v.1.toNat) (fun e : List Int × Unit => e.1.length ≤ 200) ?_ (v := ((2 : Int), b, t, ())) ⟨by simp only; omega, by simp only; omega, ht, hb⟩
  rintro ⟨i, b, t, ⟨⟩⟩ ⟨p1, p2, p3, p4⟩
  simp only at p1 p2 p3 p4
  unfold g5_s1
  by_cases hi : i < Int.ofNat b.length
  rotate_left
  · left
    refine ⟨(b, ()), ?_, p4⟩
    simp only [hi, decide_false, cond_false, Option.bind_some]
  simp only [hi, decide_true, cond_true]
  rw [on_true p3]
  simp only [Option.bind_some]
  have w1 := next_wf (n := 26) p3
  generalize next t 26 = y1 at w1 ⊢
  by_cases hc : i < IntKind.wrap .i64 (4 * y1.1)
  rotate_left
  · left
    refine ⟨(b, ()), ?_, p4⟩
    simp only [hc, decide_false, cond_false]
  right
  have hi2 : i < (b.length : Int) := hi
  have c1 : Nat.blt i.toNat b.length = true := Nat.ble_eq_true_of_le (by omega)
  have ek : IntKind.wrap .i64 (i + 4) = i + 4 := wi64 (by omega) (by omega)
  simp only [hc, p1, hi, c1, ek, decide_true, Bool.and_self, cond_true]
  exact ⟨_, rfl, ⟨by simp only; omega, by simp only; omega, w1, by simp only [List.length_set]; omega⟩, by simp only; omega⟩
theorem tail5 (raw b : List Int) : Loop (g5_s2 raw) ((0 : Int), [b, raw], ()) = some (false, (false, ()), ()) := by
  by_cases hr : Int.ofNat raw.length ≤ 300
  · refine loop_up (g5_s2 raw) [b, raw] _ ?_ ?_
    · intro i hi
      have hi2 : i < 2 := hi
      unfold g5_s2
      simp only [hr, Int.toNat_natCast, eq_self, decide_true, Bool.not_true, Bool.not_false, cond_true, cond_false, Option.bind_some]
      rw [decide_eq_true (show (i : Int) < 2 by omega), decide_eq_true (show (0 : Int) ≤ (i : Int) by omega), decide_eq_true (show (i : Int) < Int.ofNat [b, raw].length by show (i : Int) < 2; omega), show Nat.blt i [b, raw].length = true from Nat.ble_eq_true_of_le hi, wi64 (n := (i : Int) + 1) (by omega) (by omega)]
      rfl
    · rfl
  · rw [Loop_step]
    unfold g5_s2
    simp only [hr, decide_false]
    rfl

theorem g5_ok (a0 a1) (r0 : (Ty.sl (.int .i64)).ok a0) (r1 : (Ty.sl (.int .u8)).ok a1) : g5 a0 a1 = some (true, ()) := by
  have w0 := tape_wf a0
  unfold g5
  rw [on_true (show (wf (Sp04.tape a0) && decide (0 < 8) && decide (8 ≤ 1000)) = true by rw [w0]; rfl)]
  simp only [Option.bind_some]
  have pm := pick_mem (t := Sp04.tape a0) (l := [0, 3, 4, 7, 8, 12, 96, 100]) (by decide)
  have w1 := pick_wf (l := [0, 3, 4, 7, 8, 12, 96, 100]) w0
  generalize pick (Sp04.tape a0) [0, 3, 4, 7, 8, 12, 96, 100] = y2 at pm w1 ⊢
  simp only [List.mem_cons, List.not_mem_nil, or_false] at pm
  obtain ⟨e, q1, q2, q3⟩ := bytes5 (k := y2.1) (t := y2.2) (b := []) ⟨by omega, by omega, w1, by simp only [List.length_nil]; omega⟩
  rw [q1]
  simp only [Option.bind_some]
  rw [on_true q2]
  simp only [Option.bind_some]
  have w2 := next_wf (n := 2) q2
  generalize next e.1 2 = y4 at w2 ⊢
  by_cases c : y4.1 = 0
  · obtain ⟨f, r1, r2⟩ := clear5 w2 q3
    simp only [c, decide_true, cond_true]
    rw [r1]
    simp only [Option.bind_some]
    rw [tail5]
    rfl
  · simp only [c, decide_false, cond_false, Option.bind_some]
    rw [tail5]
    rfl
theorem sameP_self (p : Pk) : Sp04.sameP p p = true := by
  unfold Sp04.sameP
  simp only [eq_self, decide_true, Bool.and_self]
theorem sameF_self (f : Fr) : Sp04.sameF f f = true := by
  unfold Sp04.sameF
  rw [sameP_self]
  simp only [eq_self, decide_true, Bool.and_self]
theorem be4_len (l : List Int) : (joined l).length = 4 * l.length := by
  unfold joined
  induction l with
  | nil => rfl
  | cons x l ih =>
    rw [List.flatMap_cons, List.length_append, ih]
    show 4 + 4 * l.length = 4 * (l.length + 1)
    omega
theorem encL_len2 (l : List Lb) : (encL l).1.length ≤ 96 := by
  unfold encL
  by_cases h1 : l.length < 1
  · rw [decide_eq_true h1]; exact Nat.zero_le _
  by_cases h2 : 24 < l.length
  · rw [decide_eq_false h1, decide_eq_true h2]; exact Nat.zero_le _
  rw [decide_eq_false h1, decide_eq_false h2]
  cases l.any lost with
  | true => exact Nat.zero_le _
  | false =>
    show (joined (ends (l.map lint))).length ≤ 96
    rw [be4_len]
    unfold ends
    rw [List.length_set, List.length_map]
    omega
theorem encF_len (f : Fr) : (encF f).1.length ≤ 200 := by
  unfold encF
  cases hv : validF f with
  | false => exact Nat.zero_le _
  | true =>
    obtain ⟨v1, v2, v3, v4⟩ := validF_iff hv
    obtain ⟨e1, e2, e3, e4, e5⟩ := enc_size v4
    by_cases h : f.1.length = 0
    · rw [decide_eq_true h]
      show (0 :: (Sp04.encode f.2).1).length ≤ 200
      rw [List.length_cons]
      omega
    · rw [decide_eq_false h]
      have := encL_len2 (f.1.map fun n => (16 + n, 0, 255, ()))
      show (1 :: ((encL (f.1.map fun n => (16 + n, 0, 255, ()))).1 ++ (Sp04.encode f.2).1)).length ≤ 200
      rw [List.length_cons, List.length_append]
      omega
theorem packet_good {t : Tp} {n : Int} (w : wf t = true) : wf (packet t n).2 = true ∧ 0 ≤ bt (packet t n).1 ∧ bytesOk (py (packet t n).1) := by
  obtain ⟨-, h1, h2, -⟩ := pkt_good w
  refine ⟨packet_wf w, ?_⟩
  unfold packet
  simp only
  cases decide (0 < n) with
  | false => exact ⟨h1, h2⟩
  | true =>
    simp only [cond_true]
    cases (one (pkt t).2 n).1 with
    | false => exact ⟨h1, h2⟩
    | true =>
      simp only [cond_true]
      unfold spoilP
      simp only
      generalize next (one (pkt t).2 n).2 9 = k
      cases decide (k.1 = 0) with
      | true => exact ⟨h1, h2⟩
      | false =>
      cases decide (k.1 = 1) with
      | true => exact ⟨h1, h2⟩
      | false =>
      cases decide (k.1 = 2) with
      | true => exact ⟨h1, h2⟩
      | false =>
      cases decide (k.1 = 3) with
      | true => exact ⟨h1, h2⟩
      | false =>
      cases decide (k.1 = 4) with
      | true => exact ⟨h1, h2⟩
      | false =>
      cases decide (k.1 = 5) with
      | true => exact ⟨h1, h2⟩
      | false =>
      cases decide (k.1 = 6) with
      | true => exact ⟨h1, h2⟩
      | false =>
      cases decide (k.1 = 7) with
      | true => exact ⟨h1, h2⟩
      | false =>
        refine ⟨h1, bytesOk_app (bytesOk_app h2 fun x hx => ?_) (text_bytes _ _)⟩
        obtain ⟨l, hl, hx⟩ := List.mem_flatten.1 hx
        rw [List.eq_of_mem_replicate hl] at hx
        simp only [List.mem_cons, List.not_mem_nil, or_false] at hx
        omega
theorem frm_good {t : Tp} {n : Int} (w : wf t = true) : wf (frm t n).2 = true ∧ (frm t n).1.1.length ≤ 29 ∧ 0 ≤ bt (frm t n).1.2 ∧ bytesOk (py (frm t n).1.2) := by
  unfold frm
  simp only
  obtain ⟨w1, h1, h2⟩ := packet_good (n := 0) w
  generalize packet t 0 = y3 at w1 h1 h2 ⊢
  have w2 : wf (order y3.2 5).2 = true := (order_wf w1 5).1
  generalize order y3.2 5 = y4 at w2 ⊢
  have hk := next_range (t := y4.2) (n := 5) (by decide)
  have w3 := next_wf (n := 5) w2
  generalize next y4.2 5 = y5 at hk w3 ⊢
  have hl : ((List.range y5.1.toNat).map fun i => 1 + y4.1.getD (y5.1.toNat - i) 0).length ≤ 4 := by
    rw [List.length_map, List.length_range]
    omega
  generalize ((List.range y5.1.toNat).map fun i => 1 + y4.1.getD (y5.1.toNat - i) 0) = r at hl ⊢
  cases decide (0 < n) with
  | false => exact ⟨w3, by show r.length ≤ 29; omega, h1, h2⟩
  | true =>
    simp only [cond_true]
    have w4 := one_wf (n := n) w3
    generalize one y5.2 n = y6 at w4 ⊢
    cases y6.1 with
    | false => exact ⟨w4, by show r.length ≤ 29; omega, h1, h2⟩
    | true =>
      simp only [cond_true]
      have w5 := next_wf (n := 3) w4
      generalize next y6.2 3 = y7 at w5 ⊢
      cases decide (y7.1 = 0) with
      | true =>
        obtain ⟨w6, h3, h4⟩ := packet_good (n := 1) w5
        exact ⟨w6, by show r.length ≤ 29; omega, h3, h4⟩
      | false =>
        simp only [cond_false]
        cases decide (y7.1 = 1) with
        | true => exact ⟨pick_wf (l := [0, 1, 2, 99, 100]) w5, by show (r ++ [_]).length ≤ 29; rw [List.length_append]; show r.length + 1 ≤ 29; omega, h1, h2⟩
        | false => exact ⟨w5, by show (r ++ _).length ≤ 29; rw [List.length_append, List.length_map, List.length_range]; omega, h1, h2⟩
end Go.Abs.C04

namespace Go.Abs.C04
open Go Go.Proofs Sp04
set_option maxRecDepth 100000

theorem route_loop_w (y : List Int × Tp) (hl : y.1.length = 5) (hm : ∀ x ∈ y.1, 0 ≤ x ∧ x < 5) (p : Pk) (k : Nat) (hk : k < 5) : ∀ j, j ≤ k →
    Loop (g11w1_s0 y) ((j : Int), ((List.range (k - j)).map (fun i => 1 + y.1.getD (k - i) 0), p), ()) = some (((List.range k).map (fun i => 1 + y.1.getD (k - i) 0), p), ())
  | 0, _ => by
    rw [Loop_step]
    unfold g11w1_s0
    rw [decide_eq_false (show ¬ ((0 : Nat) : Int) > 0 by omega)]
    rfl
  | j + 1, h => by
    rw [Loop_step]
    have hx := hm _ (getD_mem (d := 0) (show j + 1 < y.1.length by omega))
    have hs : g11w1_s0 y (((j + 1 : Nat) : Int), ((List.range (k - (j + 1))).map (fun i => 1 + y.1.getD (k - i) 0), p), ()) = some (.inl ((j : Int), ((List.range (k - j)).map (fun i => 1 + y.1.getD (k - i) 0), p), ())) := by
      unfold g11w1_s0
      simp only [Int.ofNat_eq_natCast, Int.toNat_natCast, List.length_map, List.length_range]
      rw [decide_eq_true (show ((j + 1 : Nat) : Int) > 0 by omega), decide_eq_true (show (0 : Int) ≤ ((j + 1 : Nat) : Int) by omega), decide_eq_true (show ((j + 1 : Nat) : Int) < (y.1.length : Int) by omega),
        show Nat.ble ((k - (j + 1) + 1) * 8) 140737488355328 = true from Nat.ble_eq_true_of_le (by omega), wi64 (n := ((j + 1 : Nat) : Int) - 1) (by omega) (by omega), wi64 (n := 1 + y.1.getD (j + 1) 0) (by omega) (by omega),
        show ((j + 1 : Nat) : Int) - 1 = (j : Int) by omega, show k - j = k - (j + 1) + 1 by omega, List.range_succ, List.map_append, show (List.map (fun i => 1 + y.1.getD (k - i) 0) [k - (j + 1)]) = [1 + y.1.getD (j + 1) 0] by
          simp only [List.map_cons, List.map_nil]
          rw [show k - (k - (j + 1)) = j + 1 by omega]]
      rfl
    rw [hs]
    exact route_loop_w y hl hm p k hk j (by omega)
theorem more_loop_w (r : List Int) (hr : r.length ≤ 100) (p : Pk) : ∀ j, j ≤ 25 →
    Loop g11w1_s1 ((r ++ (List.range (25 - j)).map (fun (i : Nat) => 50 + (i : Int)), p), ((25 - j : Nat) : Int), ()) = some ((r ++ (List.range 25).map (fun (i : Nat) => 50 + (i : Int)), p), ())
  | 0, _ => by
    rw [Loop_step]
    rfl
  | j + 1, h => by
    rw [Loop_step]
    have hs : g11w1_s1 ((r ++ (List.range (25 - (j + 1))).map (fun (i : Nat) => 50 + (i : Int)), p), ((25 - (j + 1) : Nat) : Int), ()) = some (.inl ((r ++ (List.range (25 - j)).map (fun (i : Nat) => 50 + (i : Int)), p), ((25 - j : Nat) : Int), ())) := by
      unfold g11w1_s1
      simp only [List.length_append, List.length_map, List.length_range]
      rw [decide_eq_true (show ((25 - (j + 1) : Nat) : Int) < 25 by omega), show Nat.ble ((r.length + (25 - (j + 1)) + 1) * 8) 140737488355328 = true from Nat.ble_eq_true_of_le (by omega),
        wi64 (n := ((25 - (j + 1) : Nat) : Int) + 1) (by omega) (by omega), wi64 (n := 50 + ((25 - (j + 1) : Nat) : Int)) (by omega) (by omega), show ((25 - (j + 1) : Nat) : Int) + 1 = ((25 - j : Nat) : Int) by omega,
        show 25 - j = 25 - (j + 1) + 1 by omega, List.range_succ, List.map_append, List.append_assoc]
      rfl
    rw [hs]
    exact more_loop_w r hr p j (by omega)

theorem g11w1_ok (a0 : (List Int)) (a1 : Int) (a2 : Int) (r0 : (Ty.sl (.int .i64)).ok a0) (r1 : IntKind.i64.has a1) (r2 : IntKind.i64.has a2) (h : (Sp04.wf (a0, a1, ()) && Sp04.small a2) = true) : g11w1 a0 a1 a2 = some (Sp04.frm (a0, a1, ()) a2) := by
  simp only [Bool.and_eq_true] at h
  obtain ⟨w0, hsm⟩ := h
  unfold g11w1 frm
  simp only
  rw [on_true (show (wf (a0, a1, ()) && small 0) = true by rw [w0]; rfl)]
  simp only [Option.bind_some]
  have w := packet_wf (n := 0) w0
  generalize packet (a0, a1, ()) 0 = y3 at w ⊢
  rw [on_true (show (wf y3.2 && decide ((0 : Int) ≤ 5) && decide ((5 : Int) ≤ 1000)) = true by rw [w]; rfl)]
  simp only [Option.bind_some]
  have hl : (order y3.2 5).1.length = 5 := (order_wf w 5).2
  have hm : ∀ x ∈ (order y3.2 5).1, 0 ≤ x ∧ x < 5 := fun x hx => order_mem y3.2 5 x hx
  replace w : wf (order y3.2 5).2 = true := (order_wf w 5).1
  generalize order y3.2 5 = y4 at w hl hm ⊢
  rw [on_true w]
  simp only [Option.bind_some]
  have hk := next_range (t := y4.2) (n := 5) (by decide)
  replace w := next_wf (n := 5) w
  generalize next y4.2 5 = y5 at w hk ⊢
  obtain ⟨k5, t5⟩ := y5
  simp only at w hk ⊢
  obtain ⟨k, rfl⟩ : ∃ n : Nat, k5 = n := ⟨k5.toNat, by omega⟩
  have hr := route_loop_w y4 hl hm y3.1 k (by omega) k (Nat.le_refl _)
  rw [Nat.sub_self] at hr
  have hr : Loop (g11w1_s0 y4) ((k : Int), ([], y3.1), ()) = some (((List.range k).map (fun i => 1 + y4.1.getD (k - i) 0), y3.1), ()) := hr
  rw [hr]
  simp only [Option.bind_some, Int.toNat_natCast]
  have hrl : ((List.range k).map (fun i => 1 + y4.1.getD (k - i) 0)).length < 5 := by rw [List.length_map, List.length_range]; omega
  generalize (List.range k).map (fun i => 1 + y4.1.getD (k - i) 0) = r at hrl ⊢
  simp only [gt_iff_lt]
  by_cases hp : 0 < a2
  rotate_left
  · simp only [hp, decide_false, cond_false, Option.bind_some]
  simp only [hp, decide_true, cond_true]
  rw [on_true (show (wf t5 && small a2) = true by rw [w, hsm]; rfl)]
  simp only [Option.bind_some]
  replace w := one_wf (n := a2) w
  generalize one t5 a2 = y7 at w ⊢
  obtain ⟨b7, t7⟩ := y7
  cases b7 with
  | false => simp only [cond_false, Option.bind_some]
  | true =>
    simp only [cond_true]
    simp only at w
    rw [on_true w]
    simp only [Option.bind_some]
    replace w := next_wf (n := 3) w
    generalize next t7 3 = y8 at w ⊢
    rw [on_true (show (wf y8.2 && small 1) = true by rw [w]; rfl), on_true (show (wf y8.2 && decide (0 < 5) && decide (5 ≤ 1000)) = true by rw [w]; rfl)]
    have hm := more_loop_w r (by omega) y3.1 25 (Nat.le_refl _)
    have hm : Loop g11w1_s1 ((r ++ [], y3.1), (0 : Int), ()) = some ((r ++ (List.range 25).map (fun (i : Nat) => 50 + (i : Int)), y3.1), ()) := hm
    rw [List.append_nil] at hm
    rw [hm, show Nat.ble ((r.length + 1) * 8) 140737488355328 = true from Nat.ble_eq_true_of_le (by omega)]
    simp only [Option.bind_some, cond_true]
    by_cases k0 : y8.1 = 0
    · simp only [k0, decide_true, cond_true, Option.bind_some]
    by_cases k1 : y8.1 = 1
    · simp only [k0, k1, decide_true, decide_false, cond_true, cond_false, Option.bind_some]; rfl
    simp only [k0, k1, decide_false, cond_false, Option.bind_some]
end Go.Abs.C04

namespace Go.Abs.C04
open Go Go.Proofs
abbrev AllOk (L : List (Nat × Con)) : Prop := ∀ g con, lookC L g = some con → FunOk Try.prog B (g % 1000000) con
theorem ok106 : FunOk Try.prog B 106 c106 := glue L0 gam_nil plan106 Try.func106 (by kernel_rfl) (by
  rintro ⟨⟨⟩, a0, ⟨⟩⟩ y r h
  obtain ⟨h1, h2⟩ := Sp04.on_some h
  subst h2
  exact (g106_eq a0).trans (g106_ok a0 r.2.1 h1))
theorem all106 : AllOk L106 := gam_cons rfl ok106 gam_nil

theorem ok103 : FunOk Try.prog B 103 c103 := glue L106 all106 plan103 Try.func103 (by kernel_rfl) (by
  rintro ⟨⟨⟩, a0, a1, ⟨⟩⟩ y r h
  obtain ⟨h1, h2⟩ := Sp04.on_some h
  subst h2
  exact (g103_eq a0 a1).trans (g103_ok a0 a1 r.2.1 r.2.2.1 h1))
theorem all103 : AllOk L103 := gam_cons rfl ok103 all106

theorem ok100 : FunOk Try.prog B 100 c100 := glue L103 all103 plan100 Try.func100 (by kernel_rfl) (by
  rintro ⟨⟨⟩, ⟨a0, a1, ⟨⟩⟩, a2, ⟨⟩⟩ y r h
  obtain ⟨h1, h2⟩ := Sp04.on_some h
  subst h2
  exact (g100_eq a0 a1 a2).trans (g100_ok a0 a1 a2 r.2.1.1 r.2.1.2.1 r.2.2.1 h1))
theorem all100 : AllOk L100 := gam_cons rfl ok100 all103

theorem ok97 : FunOk Try.prog B 97 c97 := glue L100 all100 plan97 Try.func97 (by kernel_rfl) (by
  rintro ⟨⟨⟩, ⟨a0, a1, ⟨⟩⟩, ⟨⟩⟩ y r h
  exact (g97_eq a0 a1).trans ((g97_ok a0 a1 r.2.1.1 r.2.1.2.1).trans h))
theorem all97 : AllOk L97 := gam_cons rfl ok97 all100

theorem ok101 : FunOk Try.prog B 101 c101 := glue L97 all97 plan101 Try.func101 (by kernel_rfl) (by
  rintro ⟨⟨⟩, ⟨a0, a1, ⟨⟩⟩, ⟨⟩⟩ y r h
  exact (g101_eq a0 a1).trans ((g101_ok a0 a1 r.2.1.1 r.2.1.2.1).trans h))
theorem all101 : AllOk L101 := gam_cons rfl ok101 all97

theorem ok48 : FunOk Try.prog B 48 c48 := glue L101 all101 plan48 Try.func48 (by kernel_rfl) (by
  rintro ⟨⟨a0, a1, ⟨⟩⟩, ⟨⟩⟩ y r h
  obtain ⟨h1, h2⟩ := Sp04.on_some h
  subst h2
  exact (g48_eq a0 a1).trans (g48_ok a0 a1 r.1.1 r.1.2.1 h1))
theorem all48 : AllOk L48 := gam_cons rfl ok48 all101

theorem ok47 : FunOk Try.prog B 47 c47 := glue L48 all48 plan47 Try.func47 (by kernel_rfl) (by
  rintro ⟨⟨⟩, a0, a1, ⟨⟩⟩ y r h
  exact (g47_eq a0 a1).trans ((g47_ok a0 a1 r.2.1 r.2.2.1).trans h))
theorem all47 : AllOk L47 := gam_cons rfl ok47 all48

theorem ok19 : FunOk Try.prog B 19 c19 := glue L47 all47 plan19 Try.func19 (by kernel_rfl) (by
  rintro ⟨⟨a0, a1, ⟨⟩⟩, a2, ⟨⟩⟩ y r h
  obtain ⟨h1, h2⟩ := Sp04.on_some h
  subst h2
  exact (g19_eq a0 a1 a2).trans (g19_ok a0 a1 a2 r.1.1 r.1.2.1 r.2.1 h1))
theorem all19 : AllOk L19 := gam_cons rfl ok19 all47

theorem ok59 : FunOk Try.prog B 59 c59 := glue L19 all19 plan59 Try.func59 (by kernel_rfl) (by
  rintro ⟨⟨a0, a1, ⟨⟩⟩, a2, a3, ⟨⟩⟩ y r h
  obtain ⟨h1, h2⟩ := Sp04.on_some h
  subst h2
  exact (g59_eq a0 a1 a2 a3).trans (g59_ok a0 a1 a2 a3 r.1.1 r.1.2.1 r.2.1 r.2.2.1 h1))
theorem all59 : AllOk L59 := gam_cons rfl ok59 all19

theorem ok18 : FunOk Try.prog B 18 c18 := glue L59 all59 plan18 Try.func18 (by kernel_rfl) (by
  rintro ⟨⟨a0, a1, ⟨⟩⟩, a2, ⟨⟩⟩ y r h
  obtain ⟨h1, h2⟩ := Sp04.on_some h
  subst h2
  exact (g18_eq a0 a1 a2).trans (g18_ok a0 a1 a2 r.1.1 r.1.2.1 r.2.1 h1))
theorem all18 : AllOk L18 := gam_cons rfl ok18 all59

theorem ok17 : FunOk Try.prog B 17 c17 := glue L18 all18 plan17 Try.func17 (by kernel_rfl) (by
  rintro ⟨⟨a0, a1, ⟨⟩⟩, a2, ⟨⟩⟩ y r h
  obtain ⟨h1, h2⟩ := Sp04.on_some h
  subst h2
  exact (g17_eq a0 a1 a2).trans (g17_ok a0 a1 a2 r.1.1 r.1.2.1 r.2.1 h1))
theorem all17 : AllOk L17 := gam_cons rfl ok17 all18

theorem ok31 : FunOk Try.prog B 31 c31 := glue L17 all17 plan31 Try.func31 (by kernel_rfl) (by
  rintro ⟨⟨a0, a1, ⟨⟩⟩, ⟨⟩⟩ y r h
  obtain ⟨h1, h2⟩ := Sp04.on_some h
  subst h2
  exact (g31_eq a0 a1).trans (g31_ok a0 a1 r.1.1 r.1.2.1 h1))
theorem all31 : AllOk L31 := gam_cons rfl ok31 all17

theorem ok102 : FunOk Try.prog B 102 c102 := glue L31 all31 plan102 Try.func102 (by kernel_rfl) (by
  rintro ⟨⟨⟩, ⟨a0, a1, ⟨⟩⟩, a2, ⟨⟩⟩ y r h
  obtain ⟨h1, h2⟩ := Sp04.on_some h
  subst h2
  exact (g102_eq a0 a1 a2).trans (g102_ok a0 a1 a2 r.2.1.1 r.2.1.2.1 r.2.2.1 h1))
theorem all102 : AllOk L102 := gam_cons rfl ok102 all31

theorem ok89 : FunOk Try.prog B 89 c89 := glue L102 all102 plan89 Try.func89 (by kernel_rfl) (by
  rintro ⟨⟨⟩, ⟨a0, a1, ⟨⟩⟩, a2, a3, ⟨⟩⟩ y r h
  exact (g89_eq a0 a1 a2 a3).trans ((g89_ok a0 a1 a2 a3 r.2.1.1 r.2.1.2.1 r.2.2.1 r.2.2.2.1).trans h))
theorem all89 : AllOk L89 := gam_cons rfl ok89 all102

theorem ok98 : FunOk Try.prog B 98 c98 := glue L89 all89 plan98 Try.func98 (by kernel_rfl) (by
  rintro ⟨⟨⟩, ⟨a0, a1, ⟨⟩⟩, ⟨⟩⟩ y r h
  exact (g98_eq a0 a1).trans ((g98_ok a0 a1 r.2.1.1 r.2.1.2.1).trans h))
theorem all98 : AllOk L98 := gam_cons rfl ok98 all89

theorem ok99 : FunOk Try.prog B 99 c99 := glue L98 all98 plan99 Try.func99 (by kernel_rfl) (by
  rintro ⟨⟨a0, a1, ⟨⟩⟩, a2, a3, ⟨⟩⟩ y r h
  obtain ⟨h1, h2⟩ := Sp04.on_some h
  subst h2
  exact (g99_eq a0 a1 a2 a3).trans (g99_ok a0 a1 a2 a3 r.1.1 r.1.2.1 r.2.1 r.2.2.1 h1))
theorem all99 : AllOk L99 := gam_cons rfl ok99 all98

theorem ok104 : FunOk Try.prog B 104 c104 := glue L99 all99 plan104 Try.func104 (by kernel_rfl) (by
  rintro ⟨⟨⟩, ⟨a0, a1, ⟨⟩⟩, a2, a3, ⟨⟩⟩ y r h
  obtain ⟨h1, h2⟩ := Sp04.on_some h
  subst h2
  exact (g104_eq a0 a1 a2 a3).trans (g104_ok a0 a1 a2 a3 r.2.1.1 r.2.1.2.1 r.2.2.1 r.2.2.2.1 h1))
theorem all104 : AllOk L104 := gam_cons rfl ok104 all99

theorem ok105 : FunOk Try.prog B 105 c105 := glue L104 all104 plan105 Try.func105 (by kernel_rfl) (by
  rintro ⟨⟨a0, a1, ⟨⟩⟩, ⟨a2, a3, ⟨⟩⟩, a4, a5, ⟨⟩⟩ y r h
  obtain ⟨h1, h2⟩ := Sp04.on_some h
  subst h2
  exact (g105_eq a0 a1 a2 a3 a4 a5).trans (g105_ok a0 a1 a2 a3 a4 a5 r.1.1 r.1.2.1 r.2.1.1 r.2.1.2.1 r.2.2.1 r.2.2.2.1 h1))
theorem all105 : AllOk L105 := gam_cons rfl ok105 all104

theorem ok75 : FunOk Try.prog B 75 c75 := glue L105 all105 plan75 Try.func75 (by kernel_rfl) (by
  rintro ⟨⟨⟩, ⟨a0, a1, ⟨⟩⟩, a2, a3, ⟨⟩⟩ y r h
  exact (g75_eq a0 a1 a2 a3).trans ((g75_ok a0 a1 a2 a3 r.2.1.1 r.2.1.2.1 r.2.2.1 r.2.2.2.1).trans h))
theorem all75 : AllOk L75 := gam_cons rfl ok75 all105

theorem ok75w1 : FunOk Try.prog B 75 c75w1 := glue L75 all75 plan75w1 Try.func75 (by kernel_rfl) (by
  rintro ⟨⟨⟩, ⟨a0, a1, ⟨⟩⟩, a2, a3, ⟨⟩⟩ y r h
  exact (g75w1_eq a0 a1 a2 a3).trans ((g75w1_ok a0 a1 a2 a3 r.2.1.1 r.2.1.2.1 r.2.2.1 r.2.2.2.1).trans h))
theorem all75w1 : AllOk L75w1 := gam_cons rfl ok75w1 all75

theorem ok80 : FunOk Try.prog B 80 c80 := glue L75w1 all75w1 plan80 Try.func80 (by kernel_rfl) (by
  rintro ⟨⟨⟩, ⟨a0, a1, ⟨⟩⟩, a2, a3, ⟨⟩⟩ y r h
  exact (g80_eq a0 a1 a2 a3).trans ((g80_ok a0 a1 a2 a3 r.2.1.1 r.2.1.2.1 r.2.2.1 r.2.2.2.1).trans h))
theorem all80 : AllOk L80 := gam_cons rfl ok80 all75w1

theorem ok83 : FunOk Try.prog B 83 c83 := glue L80 all80 plan83 Try.func83 (by kernel_rfl) (by
  rintro ⟨⟨⟩, ⟨a0, a1, ⟨⟩⟩, a2, a3, ⟨⟩⟩ y r h
  exact (g83_eq a0 a1 a2 a3).trans ((g83_ok a0 a1 a2 a3 r.2.1.1 r.2.1.2.1 r.2.2.1 r.2.2.2.1).trans h))
theorem all83 : AllOk L83 := gam_cons rfl ok83 all80

theorem ok86 : FunOk Try.prog B 86 c86 := glue L83 all83 plan86 Try.func86 (by kernel_rfl) (by
  rintro ⟨⟨⟩, ⟨a0, a1, ⟨⟩⟩, a2, a3, ⟨⟩⟩ y r h
  exact (g86_eq a0 a1 a2 a3).trans ((g86_ok a0 a1 a2 a3 r.2.1.1 r.2.1.2.1 r.2.2.1 r.2.2.2.1).trans h))
theorem all86 : AllOk L86 := gam_cons rfl ok86 all83

theorem ok76 : FunOk Try.prog B 76 c76 := glue L86 all86 plan76 Try.func76 (by kernel_rfl) (by
  rintro ⟨⟨⟩, ⟨a0, a1, ⟨⟩⟩, ⟨⟩⟩ y r h
  exact (g76_eq a0 a1).trans ((g76_ok a0 a1 r.2.1.1 r.2.1.2.1).trans h))
theorem all76 : AllOk L76 := gam_cons rfl ok76 all86

theorem ok81 : FunOk Try.prog B 81 c81 := glue L76 all76 plan81 Try.func81 (by kernel_rfl) (by
  rintro ⟨⟨⟩, ⟨a0, a1, ⟨⟩⟩, ⟨⟩⟩ y r h
  exact (g81_eq a0 a1).trans ((g81_ok a0 a1 r.2.1.1 r.2.1.2.1).trans h))
theorem all81 : AllOk L81 := gam_cons rfl ok81 all76

theorem ok9 : FunOk Try.prog B 9 c9 := glue L81 all81 plan9 Try.func9 (by kernel_rfl) (by
  rintro ⟨⟨⟩, a0, ⟨⟩⟩ y r h
  exact (g9_eq a0).trans ((g9_ok a0 r.2.1).trans h))
theorem all9 : AllOk L9 := gam_cons rfl ok9 all81

theorem ok82 : FunOk Try.prog B 82 c82 := glue L9 all9 plan82 Try.func82 (by kernel_rfl) (by
  rintro ⟨⟨⟩, ⟨a0, a1, ⟨⟩⟩, ⟨⟩⟩ y r h
  exact (g82_eq a0 a1).trans ((g82_ok a0 a1 r.2.1.1 r.2.1.2.1).trans h))
theorem all82 : AllOk L82 := gam_cons rfl ok82 all9

theorem ok85 : FunOk Try.prog B 85 c85 := glue L82 all82 plan85 Try.func85 (by kernel_rfl) (by
  rintro ⟨⟨⟩, ⟨a0, a1, ⟨⟩⟩, a2, a3, ⟨⟩⟩ y r h
  exact (g85_eq a0 a1 a2 a3).trans ((g85_ok a0 a1 a2 a3 r.2.1.1 r.2.1.2.1 r.2.2.1 r.2.2.2.1).trans h))
theorem all85 : AllOk L85 := gam_cons rfl ok85 all82

theorem ok94 : FunOk Try.prog B 94 c94 := glue L85 all85 plan94 Try.func94 (by kernel_rfl) (by
  rintro ⟨⟨⟩, a0, ⟨⟩⟩ y r h
  exact (g94_eq a0).trans ((g94_ok a0 r.2.1).trans h))
theorem all94 : AllOk L94 := gam_cons rfl ok94 all85

theorem ok96 : FunOk Try.prog B 96 c96 := glue L94 all94 plan96 Try.func96 (by kernel_rfl) (by
  rintro ⟨⟨⟩, a0, ⟨⟩⟩ y r h
  exact (g96_eq a0).trans ((g96_ok a0 r.2.1).trans h))
theorem all96 : AllOk L96 := gam_cons rfl ok96 all94

theorem ok78 : FunOk Try.prog B 78 c78 := glue L96 all96 plan78 Try.func78 (by kernel_rfl) (by
  rintro ⟨⟨⟩, a0, ⟨⟩⟩ y r h
  obtain ⟨h1, h2⟩ := Sp04.on_some h
  subst h2
  exact (g78_eq a0).trans (g78_ok a0 r.2.1 h1))
theorem all78 : AllOk L78 := gam_cons rfl ok78 all96

theorem ok87 : FunOk Try.prog B 87 c87 := glue L78 all78 plan87 Try.func87 (by kernel_rfl) (by
  rintro ⟨⟨⟩, a0, ⟨⟩⟩ y r h
  obtain ⟨h1, h2⟩ := Sp04.on_some h
  subst h2
  exact (g87_eq a0).trans (g87_ok a0 r.2.1 h1))
theorem all87 : AllOk L87 := gam_cons rfl ok87 all78

theorem ok63 : FunOk Try.prog B 63 c63 := glue L87 all87 plan63 Try.func63 (by kernel_rfl) (by
  rintro ⟨⟨a0, a1, ⟨⟩⟩, ⟨⟩⟩ y r h
  obtain ⟨h1, h2⟩ := Sp04.on_some h
  subst h2
  exact (g63_eq a0 a1).trans (g63_ok a0 a1 r.1.1 r.1.2.1 h1))
theorem all63 : AllOk L63 := gam_cons rfl ok63 all87

theorem ok68 : FunOk Try.prog B 68 c68 := glue L63 all63 plan68 Try.func68 (by kernel_rfl) (by
  rintro ⟨⟨⟩, a0, a1, ⟨⟩⟩ y r h
  exact (g68_eq a0 a1).trans ((g68_ok a0 a1 r.2.1 r.2.2.1).trans h))
theorem all68 : AllOk L68 := gam_cons rfl ok68 all63

theorem ok70 : FunOk Try.prog B 70 c70 := glue L68 all68 plan70 Try.func70 (by kernel_rfl) (by
  rintro ⟨⟨⟩, a0, a1, ⟨⟩⟩ y r h
  exact (g70_eq a0 a1).trans ((g70_ok a0 a1 r.2.1 r.2.2.1).trans h))
theorem all70 : AllOk L70 := gam_cons rfl ok70 all68

theorem ok91 : FunOk Try.prog B 91 c91 := glue L70 all70 plan91 Try.func91 (by kernel_rfl) (by
  rintro ⟨⟨⟩, a0, ⟨⟩⟩ y r h
  exact (g91_eq a0).trans ((g91_ok a0 r.2.1).trans h))
theorem all91 : AllOk L91 := gam_cons rfl ok91 all70

theorem ok95 : FunOk Try.prog B 95 c95 := glue L91 all91 plan95 Try.func95 (by kernel_rfl) (by
  rintro ⟨⟨⟩, a0, ⟨⟩⟩ y r h
  exact (g95_eq a0).trans ((g95_ok a0 r.2.1).trans h))
theorem all95 : AllOk L95 := gam_cons rfl ok95 all91

theorem ok92 : FunOk Try.prog B 92 c92 := glue L95 all95 plan92 Try.func92 (by kernel_rfl) (by
  rintro ⟨⟨⟩, a0, ⟨⟩⟩ y r h
  exact (g92_eq a0).trans ((g92_ok a0 r.2.1).trans h))
theorem all92 : AllOk L92 := gam_cons rfl ok92 all95

theorem ok69 : FunOk Try.prog B 69 c69 := glue L92 all92 plan69 Try.func69 (by kernel_rfl) (by
  rintro ⟨⟨⟩, a0, a1, ⟨⟩⟩ y r h
  exact (g69_eq a0 a1).trans ((g69_ok a0 a1 r.2.1 r.2.2.1).trans h))
theorem all69 : AllOk L69 := gam_cons rfl ok69 all92

theorem ok71 : FunOk Try.prog B 71 c71 := glue L69 all69 plan71 Try.func71 (by kernel_rfl) (by
  rintro ⟨⟨⟩, a0, a1, ⟨⟩⟩ y r h
  exact (g71_eq a0 a1).trans ((g71_ok a0 a1 r.2.1 r.2.2.1).trans h))
theorem all71 : AllOk L71 := gam_cons rfl ok71 all69

theorem ok64 : FunOk Try.prog B 64 c64 := glue L71 all71 plan64 Try.func64 (by kernel_rfl) (by
  rintro ⟨⟨a0, a1, ⟨⟩⟩, a2, ⟨⟩⟩ y r h
  obtain ⟨h1, h2⟩ := Sp04.on_some h
  subst h2
  exact (g64_eq a0 a1 a2).trans (g64_ok a0 a1 a2 r.1.1 r.1.2.1 r.2.1 h1))
theorem all64 : AllOk L64 := gam_cons rfl ok64 all71

theorem ok65 : FunOk Try.prog B 65 c65 := glue L64 all64 plan65 Try.func65 (by kernel_rfl) (by
  rintro ⟨⟨a0, a1, ⟨⟩⟩, a2, ⟨⟩⟩ y r h
  obtain ⟨h1, h2⟩ := Sp04.on_some h
  subst h2
  exact (g65_eq a0 a1 a2).trans (g65_ok a0 a1 a2 r.1.1 r.1.2.1 r.2.1 h1))
theorem all65 : AllOk L65 := gam_cons rfl ok65 all64

theorem ok38 : FunOk Try.prog B 38 c38 := glue L65 all65 plan38 Try.func38 (by kernel_rfl) (by
  rintro ⟨⟨a0, a1, ⟨⟩⟩, a2, ⟨⟩⟩ y r h
  obtain ⟨h1, h2⟩ := Sp04.on_some h
  subst h2
  exact (g38_eq a0 a1 a2).trans (g38_ok a0 a1 a2 r.1.1 r.1.2.1 r.2.1 h1))
theorem all38 : AllOk L38 := gam_cons rfl ok38 all65

theorem ok44 : FunOk Try.prog B 44 c44 := glue L38 all38 plan44 Try.func44 (by kernel_rfl) (by
  rintro ⟨⟨⟩, ⟨a0, a1, a2, a3, a4, a5, a6, a7, a8, a9, ⟨⟩⟩, ⟨⟩⟩ y r h
  exact (g44_eq a0 a1 a2 a3 a4 a5 a6 a7 a8 a9).trans ((g44_ok a0 a1 a2 a3 a4 a5 a6 a7 a8 a9 r.2.1.1 r.2.1.2.1 r.2.1.2.2.1 r.2.1.2.2.2.1 r.2.1.2.2.2.2.1 r.2.1.2.2.2.2.2.1 r.2.1.2.2.2.2.2.2.1 r.2.1.2.2.2.2.2.2.2.1 r.2.1.2.2.2.2.2.2.2.2.1 r.2.1.2.2.2.2.2.2.2.2.2.1).trans h))
theorem all44 : AllOk L44 := gam_cons rfl ok44 all38

theorem ok46 : FunOk Try.prog B 46 c46 := glue L44 all44 plan46 Try.func46 (by kernel_rfl) (by
  rintro ⟨⟨⟩, ⟨a0, a1, a2, a3, a4, a5, a6, a7, a8, a9, ⟨⟩⟩, ⟨⟩⟩ y r h
  exact (g46_eq a0 a1 a2 a3 a4 a5 a6 a7 a8 a9).trans ((g46_ok a0 a1 a2 a3 a4 a5 a6 a7 a8 a9 r.2.1.1 r.2.1.2.1 r.2.1.2.2.1 r.2.1.2.2.2.1 r.2.1.2.2.2.2.1 r.2.1.2.2.2.2.2.1 r.2.1.2.2.2.2.2.2.1 r.2.1.2.2.2.2.2.2.2.1 r.2.1.2.2.2.2.2.2.2.2.1 r.2.1.2.2.2.2.2.2.2.2.2.1).trans h))
theorem all46 : AllOk L46 := gam_cons rfl ok46 all44

theorem ok84 : FunOk Try.prog B 84 c84 := glue L46 all46 plan84 Try.func84 (by kernel_rfl) (by
  rintro ⟨⟨⟩, a0, a1, ⟨⟩⟩ y r h
  obtain ⟨h1, h2⟩ := Sp04.on_some h
  subst h2
  exact (g84_eq a0 a1).trans (g84_ok a0 a1 r.2.1 r.2.2.1 h1))
theorem all84 : AllOk L84 := gam_cons rfl ok84 all46

theorem ok88 : FunOk Try.prog B 88 c88 := glue L84 all84 plan88 Try.func88 (by kernel_rfl) (by
  rintro ⟨⟨⟩, a0, a1, ⟨⟩⟩ y r h
  obtain ⟨h1, h2⟩ := Sp04.on_some h
  subst h2
  exact (g88_eq a0 a1).trans (g88_ok a0 a1 r.2.1 r.2.2.1 h1))
theorem all88 : AllOk L88 := gam_cons rfl ok88 all84

theorem ok73 : FunOk Try.prog B 73 c73 := glue L88 all88 plan73 Try.func73 (by kernel_rfl) (by
  rintro ⟨⟨⟩, a0, ⟨⟩⟩ y r h
  obtain ⟨h1, h2⟩ := Sp04.on_some h
  subst h2
  exact (g73_eq a0).trans (g73_ok a0 r.2.1 h1))
theorem all73 : AllOk L73 := gam_cons rfl ok73 all88

theorem ok74 : FunOk Try.prog B 74 c74 := ⟨rfl, fun h => (by cases h), fun x hx => (by cases hx; exact x74_ok), _, Try.func74, by kernel_rfl, by kernel_rfl⟩
theorem all74 : AllOk L74 := gam_cons rfl ok74 all73

theorem ok79 : FunOk Try.prog B 79 c79 := glue L74 all74 plan79 Try.func79 (by kernel_rfl) (by
  rintro ⟨⟨⟩, ⟨⟩⟩ y r h
  exact (g79_eq ).trans ((g79_ok  ).trans h))
theorem all79 : AllOk L79 := gam_cons rfl ok79 all74

theorem ok52 : FunOk Try.prog B 52 c52 := glue L79 all79 plan52 Try.func52 (by kernel_rfl) (by
  rintro ⟨⟨⟩, ⟨a0, a1, a2, a3, a4, a5, a6, a7, a8, a9, ⟨⟩⟩, ⟨⟩⟩ y r h
  exact (g52_eq a0 a1 a2 a3 a4 a5 a6 a7 a8 a9).trans ((g52_ok a0 a1 a2 a3 a4 a5 a6 a7 a8 a9 r.2.1.1 r.2.1.2.1 r.2.1.2.2.1 r.2.1.2.2.2.1 r.2.1.2.2.2.2.1 r.2.1.2.2.2.2.2.1 r.2.1.2.2.2.2.2.2.1 r.2.1.2.2.2.2.2.2.2.1 r.2.1.2.2.2.2.2.2.2.2.1 r.2.1.2.2.2.2.2.2.2.2.2.1).trans h))
theorem all52 : AllOk L52 := gam_cons rfl ok52 all79

theorem ok54 : FunOk Try.prog B 54 c54 := glue L52 all52 plan54 Try.func54 (by kernel_rfl) (by
  rintro ⟨⟨⟩, ⟨a0, a1, a2, a3, a4, a5, a6, a7, a8, a9, ⟨⟩⟩, ⟨⟩⟩ y r h
  exact (g54_eq a0 a1 a2 a3 a4 a5 a6 a7 a8 a9).trans ((g54_ok a0 a1 a2 a3 a4 a5 a6 a7 a8 a9 r.2.1.1 r.2.1.2.1 r.2.1.2.2.1 r.2.1.2.2.2.1 r.2.1.2.2.2.2.1 r.2.1.2.2.2.2.2.1 r.2.1.2.2.2.2.2.2.1 r.2.1.2.2.2.2.2.2.2.1 r.2.1.2.2.2.2.2.2.2.2.1 r.2.1.2.2.2.2.2.2.2.2.2.1).trans h))
theorem all54 : AllOk L54 := gam_cons rfl ok54 all52

theorem ok56 : FunOk Try.prog B 56 c56 := glue L54 all54 plan56 Try.func56 (by kernel_rfl) (by
  rintro ⟨⟨⟩, a0, ⟨⟩⟩ y r h
  exact (g56_eq a0).trans ((g56_ok a0 r.2.1).trans h))
theorem all56 : AllOk L56 := gam_cons rfl ok56 all54

theorem ok58 : FunOk Try.prog B 58 c58 := glue L56 all56 plan58 Try.func58 (by kernel_rfl) (by
  rintro ⟨⟨⟩, a0, ⟨⟩⟩ y r h
  exact (g58_eq a0).trans ((g58_ok a0 r.2.1).trans h))
theorem all58 : AllOk L58 := gam_cons rfl ok58 all56

theorem ok37 : FunOk Try.prog B 37 c37 := glue L58 all58 plan37 Try.func37 (by kernel_rfl) (by
  rintro ⟨⟨a0, a1, ⟨⟩⟩, a2, ⟨⟩⟩ y r h
  obtain ⟨h1, h2⟩ := Sp04.on_some h
  subst h2
  exact (g37_eq a0 a1 a2).trans (g37_ok a0 a1 a2 r.1.1 r.1.2.1 r.2.1 h1))
theorem all37 : AllOk L37 := gam_cons rfl ok37 all58

theorem ok39 : FunOk Try.prog B 39 c39 := glue L37 all37 plan39 Try.func39 (by kernel_rfl) (by
  rintro ⟨⟨⟩, a0, a1, a2, ⟨⟩⟩ y r h
  exact (g39_eq a0 a1 a2).trans ((g39_ok a0 a1 a2 r.2.1 r.2.2.1 r.2.2.2.1).trans h))
theorem all39 : AllOk L39 := gam_cons rfl ok39 all37

theorem ok42 : FunOk Try.prog B 42 c42 := glue L39 all39 plan42 Try.func42 (by kernel_rfl) (by
  rintro ⟨⟨⟩, a0, ⟨⟩⟩ y r h
  exact (g42_eq a0).trans ((g42_ok a0 r.2.1).trans h))
theorem all42 : AllOk L42 := gam_cons rfl ok42 all39

theorem ok41 : FunOk Try.prog B 41 c41 := glue L42 all42 plan41 Try.func41 (by kernel_rfl) (by
  rintro ⟨⟨⟩, a0, ⟨⟩⟩ y r h
  exact (g41_eq a0).trans ((g41_ok a0 r.2.1).trans h))
theorem all41 : AllOk L41 := gam_cons rfl ok41 all42

theorem ok61 : FunOk Try.prog B 61 c61 := glue L41 all41 plan61 Try.func61 (by kernel_rfl) (by
  rintro ⟨⟨⟩, a0, ⟨⟩⟩ y r h
  exact (g61_eq a0).trans ((g61_ok a0 r.2.1).trans h))
theorem all61 : AllOk L61 := gam_cons rfl ok61 all41

theorem ok93 : FunOk Try.prog B 93 c93 := glue L61 all61 plan93 Try.func93 (by kernel_rfl) (by
  rintro ⟨⟨⟩, a0, a1, ⟨⟩⟩ y r h
  exact (g93_eq a0 a1).trans ((g93_ok a0 a1 r.2.1 r.2.2.1).trans h))
theorem all93 : AllOk L93 := gam_cons rfl ok93 all61

theorem ok67 : FunOk Try.prog B 67 c67 := glue L93 all93 plan67 Try.func67 (by kernel_rfl) (by
  rintro ⟨⟨⟩, a0, a1, ⟨⟩⟩ y r h
  exact (g67_eq a0 a1).trans ((g67_ok a0 a1 r.2.1 r.2.2.1).trans h))
theorem all67 : AllOk L67 := gam_cons rfl ok67 all93

theorem ok43 : FunOk Try.prog B 43 c43 := glue L67 all67 plan43 Try.func43 (by kernel_rfl) (by
  rintro ⟨⟨⟩, a0, ⟨⟩⟩ y r h
  exact (g43_eq a0).trans ((g43_ok a0 r.2.1).trans h))
theorem all43 : AllOk L43 := gam_cons rfl ok43 all67

theorem ok45 : FunOk Try.prog B 45 c45 := glue L43 all43 plan45 Try.func45 (by kernel_rfl) (by
  rintro ⟨⟨⟩, a0, ⟨⟩⟩ y r h
  exact (g45_eq a0).trans ((g45_ok a0 r.2.1).trans h))
theorem all45 : AllOk L45 := gam_cons rfl ok45 all43

theorem ok66 : FunOk Try.prog B 66 c66 := glue L45 all45 plan66 Try.func66 (by kernel_rfl) (by
  rintro ⟨⟨⟩, a0, ⟨⟩, ⟨⟩⟩ y r h
  exact (g66_eq a0).trans ((g66_ok a0 r.2.1).trans h))
theorem all66 : AllOk L66 := gam_cons rfl ok66 all45

theorem ok40 : FunOk Try.prog B 40 c40 := glue L66 all66 plan40 Try.func40 (by kernel_rfl) (by
  rintro ⟨⟨⟩, a0, ⟨⟩, ⟨⟩⟩ y r h
  exact (g40_eq a0).trans ((g40_ok a0 r.2.1).trans h))
theorem all40 : AllOk L40 := gam_cons rfl ok40 all66

theorem ok12 : FunOk Try.prog B 12 c12 := glue L40 all40 plan12 Try.func12 (by kernel_rfl) (by
  rintro ⟨⟨⟩, ⟨a0, a1, a2, ⟨⟩⟩, ⟨⟩⟩ y r h
  exact (g12_eq a0 a1 a2).trans ((g12_ok a0 a1 a2 r.2.1.1 r.2.1.2.1 r.2.1.2.2.1).trans h))
theorem all12 : AllOk L12 := gam_cons rfl ok12 all40

theorem ok13 : FunOk Try.prog B 13 c13 := glue L12 all12 plan13 Try.func13 (by kernel_rfl) (by
  rintro ⟨⟨⟩, ⟨a0, a1, a2, ⟨⟩⟩, ⟨⟩⟩ y r h
  exact (g13_eq a0 a1 a2).trans ((g13_ok a0 a1 a2 r.2.1.1 r.2.1.2.1 r.2.1.2.2.1).trans h))
theorem all13 : AllOk L13 := gam_cons rfl ok13 all12

theorem ok50 : FunOk Try.prog B 50 c50 := glue L13 all13 plan50 Try.func50 (by kernel_rfl) (by
  rintro ⟨⟨⟩, ⟨a0, a1, a2, ⟨⟩⟩, ⟨⟩⟩ y r h
  exact (g50_eq a0 a1 a2).trans ((g50_ok a0 a1 a2 r.2.1.1 r.2.1.2.1 r.2.1.2.2.1).trans h))
theorem all50 : AllOk L50 := gam_cons rfl ok50 all13

theorem ok55 : FunOk Try.prog B 55 c55 := glue L50 all50 plan55 Try.func55 (by kernel_rfl) (by
  rintro ⟨⟨⟩, ⟨a0, a1, a2, ⟨⟩⟩, ⟨⟩⟩ y r h
  obtain ⟨h1, h2⟩ := Sp04.on_some h
  subst h2
  exact (g55_eq a0 a1 a2).trans (g55_ok a0 a1 a2 r.2.1.1 r.2.1.2.1 r.2.1.2.2.1 h1))
theorem all55 : AllOk L55 := gam_cons rfl ok55 all50

theorem ok14 : FunOk Try.prog B 14 c14 := glue L55 all55 plan14 Try.func14 (by kernel_rfl) (by
  rintro ⟨⟨⟩, ⟨a0, a1, a2, a3, a4, a5, a6, a7, a8, a9, a10, ⟨⟩⟩, ⟨⟩⟩ y r h
  exact (g14_eq a0 a1 a2 a3 a4 a5 a6 a7 a8 a9 a10).trans ((g14_ok a0 a1 a2 a3 a4 a5 a6 a7 a8 a9 a10 r.2.1.1 r.2.1.2.1 r.2.1.2.2.1 r.2.1.2.2.2.1 r.2.1.2.2.2.2.1 r.2.1.2.2.2.2.2.1 r.2.1.2.2.2.2.2.2.1 r.2.1.2.2.2.2.2.2.2.1 r.2.1.2.2.2.2.2.2.2.2.1 r.2.1.2.2.2.2.2.2.2.2.2.1 r.2.1.2.2.2.2.2.2.2.2.2.2.1).trans h))
theorem all14 : AllOk L14 := gam_cons rfl ok14 all55

theorem ok15 : FunOk Try.prog B 15 c15 := glue L14 all14 plan15 Try.func15 (by kernel_rfl) (by
  rintro ⟨⟨⟩, ⟨a0, a1, a2, a3, a4, a5, a6, a7, a8, a9, a10, ⟨⟩⟩, ⟨⟩⟩ y r h
  exact (g15_eq a0 a1 a2 a3 a4 a5 a6 a7 a8 a9 a10).trans ((g15_ok a0 a1 a2 a3 a4 a5 a6 a7 a8 a9 a10 r.2.1.1 r.2.1.2.1 r.2.1.2.2.1 r.2.1.2.2.2.1 r.2.1.2.2.2.2.1 r.2.1.2.2.2.2.2.1 r.2.1.2.2.2.2.2.2.1 r.2.1.2.2.2.2.2.2.2.1 r.2.1.2.2.2.2.2.2.2.2.1 r.2.1.2.2.2.2.2.2.2.2.2.1 r.2.1.2.2.2.2.2.2.2.2.2.2.1).trans h))
theorem all15 : AllOk L15 := gam_cons rfl ok15 all14

theorem ok57 : FunOk Try.prog B 57 c57 := glue L15 all15 plan57 Try.func57 (by kernel_rfl) (by
  rintro ⟨⟨⟩, a0, a1, ⟨⟩⟩ y r h
  exact (g57_eq a0 a1).trans ((g57_ok a0 a1 r.2.1 r.2.2.1).trans h))
theorem all57 : AllOk L57 := gam_cons rfl ok57 all15

theorem ok28 : FunOk Try.prog B 28 c28 := glue L57 all57 plan28 Try.func28 (by kernel_rfl) (by
  rintro ⟨⟨⟩, ⟨a0, a1, a2, a3, a4, a5, a6, a7, a8, a9, a10, ⟨⟩⟩, ⟨a11, a12, a13, a14, a15, a16, a17, a18, a19, a20, a21, ⟨⟩⟩, ⟨⟩⟩ y r h
  exact (g28_eq a0 a1 a2 a3 a4 a5 a6 a7 a8 a9 a10 a11 a12 a13 a14 a15 a16 a17 a18 a19 a20 a21).trans ((g28_ok a0 a1 a2 a3 a4 a5 a6 a7 a8 a9 a10 a11 a12 a13 a14 a15 a16 a17 a18 a19 a20 a21 r.2.1.1 r.2.1.2.1 r.2.1.2.2.1 r.2.1.2.2.2.1 r.2.1.2.2.2.2.1 r.2.1.2.2.2.2.2.1 r.2.1.2.2.2.2.2.2.1 r.2.1.2.2.2.2.2.2.2.1 r.2.1.2.2.2.2.2.2.2.2.1 r.2.1.2.2.2.2.2.2.2.2.2.1 r.2.1.2.2.2.2.2.2.2.2.2.2.1 r.2.2.1.1 r.2.2.1.2.1 r.2.2.1.2.2.1 r.2.2.1.2.2.2.1 r.2.2.1.2.2.2.2.1 r.2.2.1.2.2.2.2.2.1 r.2.2.1.2.2.2.2.2.2.1 r.2.2.1.2.2.2.2.2.2.2.1 r.2.2.1.2.2.2.2.2.2.2.2.1 r.2.2.1.2.2.2.2.2.2.2.2.2.1 r.2.2.1.2.2.2.2.2.2.2.2.2.2.1).trans h))
theorem all28 : AllOk L28 := gam_cons rfl ok28 all57

theorem ok23 : FunOk Try.prog B 23 c23 := glue L28 all28 plan23 Try.func23 (by kernel_rfl) (by
  rintro ⟨⟨⟩, a0, a1, ⟨⟩⟩ y r h
  exact (g23_eq a0 a1).trans ((g23_ok a0 a1 r.2.1 r.2.2.1).trans h))
theorem all23 : AllOk L23 := gam_cons rfl ok23 all28

theorem ok51 : FunOk Try.prog B 51 c51 := glue L23 all23 plan51 Try.func51 (by kernel_rfl) (by
  rintro ⟨⟨⟩, a0, ⟨⟩⟩ y r h
  exact (g51_eq a0).trans ((g51_ok a0 r.2.1).trans h))
theorem all51 : AllOk L51 := gam_cons rfl ok51 all23

theorem ok72 : FunOk Try.prog B 72 c72 := glue L51 all51 plan72 Try.func72 (by kernel_rfl) (by
  rintro ⟨⟨⟩, a0, ⟨⟩, ⟨⟩⟩ y r h
  exact (g72_eq a0).trans ((g72_ok a0 r.2.1).trans h))
theorem all72 : AllOk L72 := gam_cons rfl ok72 all51

theorem ok49 : FunOk Try.prog B 49 c49 := glue L72 all72 plan49 Try.func49 (by kernel_rfl) (by
  rintro ⟨⟨⟩, a0, ⟨⟩, ⟨⟩⟩ y r h
  exact (g49_eq a0).trans ((g49_ok a0 r.2.1).trans h))
theorem all49 : AllOk L49 := gam_cons rfl ok49 all72

theorem ok20 : FunOk Try.prog B 20 c20 := glue L49 all49 plan20 Try.func20 (by kernel_rfl) (by
  rintro ⟨⟨⟩, a0, ⟨⟩⟩ y r h
  exact (g20_eq a0).trans ((g20_ok a0 r.2.1).trans h))
theorem all20 : AllOk L20 := gam_cons rfl ok20 all49

theorem ok21 : FunOk Try.prog B 21 c21 := glue L20 all20 plan21 Try.func21 (by kernel_rfl) (by
  rintro ⟨⟨⟩, a0, ⟨⟩⟩ y r h
  exact (g21_eq a0).trans ((g21_ok a0 r.2.1).trans h))
theorem all21 : AllOk L21 := gam_cons rfl ok21 all20

theorem ok22 : FunOk Try.prog B 22 c22 := glue L21 all21 plan22 Try.func22 (by kernel_rfl) (by
  rintro ⟨⟨⟩, a0, ⟨⟩⟩ y r h
  exact (g22_eq a0).trans ((g22_ok a0 r.2.1).trans h))
theorem all22 : AllOk L22 := gam_cons rfl ok22 all21

theorem ok24 : FunOk Try.prog B 24 c24 := glue L22 all22 plan24 Try.func24 (by kernel_rfl) (by
  rintro ⟨⟨⟩, a0, ⟨⟩⟩ y r h
  exact (g24_eq a0).trans ((g24_ok a0 r.2.1).trans h))
theorem all24 : AllOk L24 := gam_cons rfl ok24 all22

theorem all77 : AllOk L77 := gam_cons rfl ok77 all24

theorem all90 : AllOk L90 := gam_cons rfl ok90 all77

theorem ok53 : FunOk Try.prog B 53 c53 := glue L90 all90 plan53 Try.func53 (by kernel_rfl) (by
  rintro ⟨⟨⟩, a0, ⟨⟩⟩ y r h
  obtain ⟨h1, h2⟩ := Sp04.on_some h
  subst h2
  exact (g53_eq a0).trans (g53_ok a0 r.2.1 h1))
theorem all53 : AllOk L53 := gam_cons rfl ok53 all90

theorem ok60 : FunOk Try.prog B 60 c60 := glue L53 all53 plan60 Try.func60 (by kernel_rfl) (by
  rintro ⟨⟨⟩, a0, ⟨⟩⟩ y r h
  obtain ⟨h1, h2⟩ := Sp04.on_some h
  subst h2
  exact (g60_eq a0).trans (g60_ok a0 r.2.1 h1))
theorem all60 : AllOk L60 := gam_cons rfl ok60 all53

theorem all62 : AllOk L62 := gam_cons rfl ok62 all60

theorem ok25 : FunOk Try.prog B 25 c25 := glue L62 all62 plan25 Try.func25 (by kernel_rfl) (by
  rintro ⟨⟨⟩, ⟨a0, a1, a2, a3, a4, a5, a6, a7, a8, a9, a10, ⟨⟩⟩, ⟨⟩⟩ y r h
  exact (g25_eq a0 a1 a2 a3 a4 a5 a6 a7 a8 a9 a10).trans ((g25_ok a0 a1 a2 a3 a4 a5 a6 a7 a8 a9 a10 r.2.1.1 r.2.1.2.1 r.2.1.2.2.1 r.2.1.2.2.2.1 r.2.1.2.2.2.2.1 r.2.1.2.2.2.2.2.1 r.2.1.2.2.2.2.2.2.1 r.2.1.2.2.2.2.2.2.2.1 r.2.1.2.2.2.2.2.2.2.2.1 r.2.1.2.2.2.2.2.2.2.2.2.1 r.2.1.2.2.2.2.2.2.2.2.2.2.1).trans h))
theorem all25 : AllOk L25 := gam_cons rfl ok25 all62

theorem ok26 : FunOk Try.prog B 26 c26 := glue L25 all25 plan26 Try.func26 (by kernel_rfl) (by
  rintro ⟨⟨⟩, ⟨a0, a1, a2, a3, a4, a5, a6, a7, a8, a9, a10, ⟨⟩⟩, ⟨⟩⟩ y r h
  exact (g26_eq a0 a1 a2 a3 a4 a5 a6 a7 a8 a9 a10).trans ((g26_ok a0 a1 a2 a3 a4 a5 a6 a7 a8 a9 a10 r.2.1.1 r.2.1.2.1 r.2.1.2.2.1 r.2.1.2.2.2.1 r.2.1.2.2.2.2.1 r.2.1.2.2.2.2.2.1 r.2.1.2.2.2.2.2.2.1 r.2.1.2.2.2.2.2.2.2.1 r.2.1.2.2.2.2.2.2.2.2.1 r.2.1.2.2.2.2.2.2.2.2.2.1 r.2.1.2.2.2.2.2.2.2.2.2.2.1).trans h))
theorem all26 : AllOk L26 := gam_cons rfl ok26 all25

theorem ok72v : FunOk Try.prog B 72 c72v := glue L26 all26 plan72v Try.func72 (by kernel_rfl) (by
  rintro ⟨⟨⟩, a0, ⟨⟩, ⟨⟩⟩ y r h
  obtain ⟨h1, h2⟩ := Sp04.on_some h
  subst h2
  exact (g72v_eq a0).trans (g72v_ok a0 r.2.1 h1))
theorem all72v : AllOk L72v := gam_cons rfl ok72v all26

theorem ok49v : FunOk Try.prog B 49 c49v := glue L72v all72v plan49v Try.func49 (by kernel_rfl) (by
  rintro ⟨⟨⟩, a0, ⟨⟩, ⟨⟩⟩ y r h
  obtain ⟨h1, h2⟩ := Sp04.on_some h
  subst h2
  exact (g49v_eq a0).trans (g49v_ok a0 r.2.1 h1))
theorem all49v : AllOk L49v := gam_cons rfl ok49v all72v

theorem ok27 : FunOk Try.prog B 27 c27 := glue L49v all49v plan27 Try.func27 (by kernel_rfl) (by
  rintro ⟨⟨⟩, a0, ⟨⟩⟩ y r h
  exact (g27_eq a0).trans ((g27_ok a0 r.2.1).trans h))
theorem all27 : AllOk L27 := gam_cons rfl ok27 all49v

theorem ok29 : FunOk Try.prog B 29 c29 := glue L27 all27 plan29 Try.func29 (by kernel_rfl) (by
  rintro ⟨⟨⟩, a0, ⟨⟩⟩ y r h
  exact (g29_eq a0).trans ((g29_ok a0 r.2.1).trans h))
theorem all29 : AllOk L29 := gam_cons rfl ok29 all27

theorem ok66v : FunOk Try.prog B 66 c66v := glue L29 all29 plan66v Try.func66 (by kernel_rfl) (by
  rintro ⟨⟨⟩, a0, ⟨⟩, ⟨⟩⟩ y r h
  exact (g66v_eq a0).trans ((g66v_ok a0 r.2.1).trans h))
theorem all66v : AllOk L66v := gam_cons rfl ok66v all29

theorem ok40v : FunOk Try.prog B 40 c40v := glue L66v all66v plan40v Try.func40 (by kernel_rfl) (by
  rintro ⟨⟨⟩, a0, ⟨⟩, ⟨⟩⟩ y r h
  exact (g40v_eq a0).trans ((g40v_ok a0 r.2.1).trans h))
theorem all40v : AllOk L40v := gam_cons rfl ok40v all66v

theorem ok32 : FunOk Try.prog B 32 c32 := glue L40v all40v plan32 Try.func32 (by kernel_rfl) (by
  rintro ⟨⟨⟩, ⟨a0, a1, a2, a3, a4, a5, a6, a7, a8, a9, a10, ⟨⟩⟩, a11, ⟨⟩⟩ y r h
  obtain ⟨h1, h2⟩ := Sp04.on_some h
  subst h2
  exact (g32_eq a0 a1 a2 a3 a4 a5 a6 a7 a8 a9 a10 a11).trans (g32_ok a0 a1 a2 a3 a4 a5 a6 a7 a8 a9 a10 a11 r.2.1.1 r.2.1.2.1 r.2.1.2.2.1 r.2.1.2.2.2.1 r.2.1.2.2.2.2.1 r.2.1.2.2.2.2.2.1 r.2.1.2.2.2.2.2.2.1 r.2.1.2.2.2.2.2.2.2.1 r.2.1.2.2.2.2.2.2.2.2.1 r.2.1.2.2.2.2.2.2.2.2.2.1 r.2.1.2.2.2.2.2.2.2.2.2.2.1 r.2.2.1 h1))
theorem all32 : AllOk L32 := gam_cons rfl ok32 all40v

theorem ok33 : FunOk Try.prog B 33 c33 := glue L32 all32 plan33 Try.func33 (by kernel_rfl) (by
  rintro ⟨⟨⟩, ⟨a0, a1, a2, a3, a4, a5, a6, a7, a8, a9, a10, ⟨⟩⟩, a11, ⟨⟩⟩ y r h
  obtain ⟨h1, h2⟩ := Sp04.on_some h
  subst h2
  exact (g33_eq a0 a1 a2 a3 a4 a5 a6 a7 a8 a9 a10 a11).trans (g33_ok a0 a1 a2 a3 a4 a5 a6 a7 a8 a9 a10 a11 r.2.1.1 r.2.1.2.1 r.2.1.2.2.1 r.2.1.2.2.2.1 r.2.1.2.2.2.2.1 r.2.1.2.2.2.2.2.1 r.2.1.2.2.2.2.2.2.1 r.2.1.2.2.2.2.2.2.2.1 r.2.1.2.2.2.2.2.2.2.2.1 r.2.1.2.2.2.2.2.2.2.2.2.1 r.2.1.2.2.2.2.2.2.2.2.2.2.1 r.2.2.1 h1))
theorem all33 : AllOk L33 := gam_cons rfl ok33 all32

theorem ok34 : FunOk Try.prog B 34 c34 := glue L33 all33 plan34 Try.func34 (by kernel_rfl) (by
  rintro ⟨⟨⟩, ⟨a0, a1, a2, a3, a4, a5, a6, a7, a8, a9, a10, ⟨⟩⟩, ⟨⟩⟩ y r h
  exact (g34_eq a0 a1 a2 a3 a4 a5 a6 a7 a8 a9 a10).trans ((g34_ok a0 a1 a2 a3 a4 a5 a6 a7 a8 a9 a10 r.2.1.1 r.2.1.2.1 r.2.1.2.2.1 r.2.1.2.2.2.1 r.2.1.2.2.2.2.1 r.2.1.2.2.2.2.2.1 r.2.1.2.2.2.2.2.2.1 r.2.1.2.2.2.2.2.2.2.1 r.2.1.2.2.2.2.2.2.2.2.1 r.2.1.2.2.2.2.2.2.2.2.2.1 r.2.1.2.2.2.2.2.2.2.2.2.2.1).trans h))
theorem all34 : AllOk L34 := gam_cons rfl ok34 all33

theorem ok35 : FunOk Try.prog B 35 c35 := glue L34 all34 plan35 Try.func35 (by kernel_rfl) (by
  rintro ⟨⟨⟩, ⟨a0, a1, a2, a3, a4, a5, a6, a7, a8, a9, a10, ⟨⟩⟩, ⟨⟩⟩ y r h
  exact (g35_eq a0 a1 a2 a3 a4 a5 a6 a7 a8 a9 a10).trans ((g35_ok a0 a1 a2 a3 a4 a5 a6 a7 a8 a9 a10 r.2.1.1 r.2.1.2.1 r.2.1.2.2.1 r.2.1.2.2.2.1 r.2.1.2.2.2.2.1 r.2.1.2.2.2.2.2.1 r.2.1.2.2.2.2.2.2.1 r.2.1.2.2.2.2.2.2.2.1 r.2.1.2.2.2.2.2.2.2.2.1 r.2.1.2.2.2.2.2.2.2.2.2.1 r.2.1.2.2.2.2.2.2.2.2.2.2.1).trans h))
theorem all35 : AllOk L35 := gam_cons rfl ok35 all34

theorem ok36 : FunOk Try.prog B 36 c36 := glue L35 all35 plan36 Try.func36 (by kernel_rfl) (by
  rintro ⟨⟨a0, a1, ⟨⟩⟩, a2, a3, ⟨⟩⟩ y r h
  obtain ⟨h1, h2⟩ := Sp04.on_some h
  subst h2
  exact (g36_eq a0 a1 a2 a3).trans (g36_ok a0 a1 a2 a3 r.1.1 r.1.2.1 r.2.1 r.2.2.1 h1))
theorem all36 : AllOk L36 := gam_cons rfl ok36 all35

theorem ok10 : FunOk Try.prog B 10 c10 := glue L36 all36 plan10 Try.func10 (by kernel_rfl) (by
  rintro ⟨⟨a0, a1, ⟨⟩⟩, a2, ⟨⟩⟩ y r h
  obtain ⟨h1, h2⟩ := Sp04.on_some h
  subst h2
  exact (g10_eq a0 a1 a2).trans (g10_ok a0 a1 a2 r.1.1 r.1.2.1 r.2.1 h1))
theorem all10 : AllOk L10 := gam_cons rfl ok10 all36

theorem ok30 : FunOk Try.prog B 30 c30 := glue L10 all10 plan30 Try.func30 (by kernel_rfl) (by
  rintro ⟨⟨a0, a1, ⟨⟩⟩, a2, a3, a4, ⟨⟩⟩ y r h
  obtain ⟨h1, h2⟩ := Sp04.on_some h
  subst h2
  exact (g30_eq a0 a1 a2 a3 a4).trans (g30_ok a0 a1 a2 a3 a4 r.1.1 r.1.2.1 r.2.1 r.2.2.1 r.2.2.2.1 h1))
theorem all30 : AllOk L30 := gam_cons rfl ok30 all10

theorem ok11 : FunOk Try.prog B 11 c11 := glue L30 all30 plan11 Try.func11 (by kernel_rfl) (by
  rintro ⟨⟨a0, a1, ⟨⟩⟩, a2, ⟨⟩⟩ y r h
  obtain ⟨h1, h2⟩ := Sp04.on_some h
  subst h2
  exact (g11_eq a0 a1 a2).trans (g11_ok a0 a1 a2 r.1.1 r.1.2.1 r.2.1 h1))
theorem all11 : AllOk L11 := gam_cons rfl ok11 all30

theorem ok11w1 : FunOk Try.prog B 11 c11w1 := glue L11 all11 plan11w1 Try.func11 (by kernel_rfl) (by
  rintro ⟨⟨a0, a1, ⟨⟩⟩, a2, ⟨⟩⟩ y r h
  obtain ⟨h1, h2⟩ := Sp04.on_some h
  subst h2
  exact (g11w1_eq a0 a1 a2).trans (g11w1_ok a0 a1 a2 r.1.1 r.1.2.1 r.2.1 h1))
theorem all11w1 : AllOk L11w1 := gam_cons rfl ok11w1 all11

theorem ok16 : FunOk Try.prog B 16 c16 := glue L11w1 all11w1 plan16 Try.func16 (by kernel_rfl) (by
  rintro ⟨⟨⟩, ⟨⟩⟩ y r h
  exact (g16_eq ).trans ((g16_ok  ).trans h))
theorem all16 : AllOk L16 := gam_cons rfl ok16 all11w1
end Go.Abs.C04
