/- Chapter 07: proved is that functions that the law reaches keep their contracts (topologies); no conditions but those that each theorem states. -/
import Derived.Test.YtmofipnlkfhfpaaRunC
set_option linter.unusedVariables false
set_option linter.unusedSimpArgs false
namespace Go.Abs.C07
open Go Go.Proofs Sp07
set_option maxRecDepth 100000

theorem g100_ok (a0 : Int) (r0 : IntKind.i64.has a0) : g100 a0 = some (false, ()) := by
  unfold g100
  rw [decide_eq_true rfl]
  rfl
theorem g97_ok (a0 : Int) (a1 : Int) (r0 : IntKind.i64.has a0) (r1 : IntKind.i64.has a1) : g97 a0 a1 = some (Sp07.cmpI a0 a1, ()) := by
  unfold g97 cmpI
  cases decide (a0 < a1) with
  | true => rfl
  | false =>
    show (bif decide (a1 < a0) then _ else _) = _
    cases decide (a1 < a0) <;> rfl
theorem nz_drop (l : List Int) (i : Nat) (h : i < l.length) : firstNZ (l.drop i) = bif decide (l.getD i 0 = 0) then firstNZ (l.drop (i + 1)) else l.getD i 0 := by
  rw [List.drop_eq_getElem_cons h]
  have : l.getD i 0 = l[i] := by rw [List.getD_eq_getElem?_getD, List.getElem?_eq_getElem h]; rfl
  rw [this]
  rfl
theorem g99_ok (a0 : (List Int)) (r0 : (Ty.sl (.int .i64)).ok a0) : g99 a0 = some (Sp07.firstNZ a0, ()) := by
  have hlen : a0.length ≤ 281474976710656 := by
    have h : a0.length * 8 ≤ 140737488355328 := r0.1
    omega
  have key : ∀ j k, k + j = a0.length → ∃ e, Loop (g99_s0 a0) ((k : Int), ()) = some e ∧ (bif e.1 then some e.2.1 else some ((0 : Int), ())) = some (firstNZ (a0.drop k), ()) := by
    intro j
    induction j with
    | zero =>
      intro k hk
      have hk : k = a0.length := by omega
      subst hk
      refine ⟨(false, ((0, ()), ())), ?_, ?_⟩
      · rw [Loop_step]
        unfold g99_s0
        simp only [Int.ofNat_eq_natCast]
        rw [decide_eq_false (show ¬ (a0.length : Int) < (a0.length : Int) by omega)]
        rfl
      · rw [List.drop_length]; rfl
    | succ j ih =>
      intro k hk
      have hs : g99_s0 a0 ((k : Int), ()) = bif !decide (a0.getD k 0 = 0) then some (.inr (true, ((a0.getD k 0, ()), ()))) else some (.inl (((k + 1 : Nat) : Int), ())) := by
        unfold g99_s0
        simp only [Int.ofNat_eq_natCast, Int.toNat_natCast]
        rw [decide_eq_true (show (k : Int) < (a0.length : Int) by omega), decide_eq_true (show (0 : Int) ≤ (k : Int) by omega), wi64 (n := (k : Int) + 1) (by omega) (by omega)]
        rfl
      by_cases h0 : a0.getD k 0 = 0
      · obtain ⟨e, h1, h2⟩ := ih (k + 1) (by omega)
        refine ⟨e, ?_, ?_⟩
        · rw [Loop_step, hs, decide_eq_true h0]
          exact h1
        · rw [nz_drop a0 k (by omega), decide_eq_true h0]
          exact h2
      · refine ⟨(true, ((a0.getD k 0, ()), ())), ?_, ?_⟩
        · rw [Loop_step, hs, decide_eq_false h0]
          rfl
        · rw [nz_drop a0 k (by omega), decide_eq_false h0]
          rfl
  obtain ⟨e, h1, h2⟩ := key a0.length 0 (by omega)
  have h1 : Loop (g99_s0 a0) (0, ()) = some e := h1
  unfold g99
  rw [h1]
  exact h2
theorem g79_ok (a0 : Int) (a1 : Int) (a2 : Int) (r0 : IntKind.i64.has a0) (r1 : IntKind.i64.has a1) (r2 : IntKind.i64.has a2) : g79 a0 a1 a2 = some (Sp07.inside a0 a1 a2, ()) := by
  unfold g79 Sp07.inside
  show (Option.bind (bif decide (a1 ≤ a0) then some (decide (a0 ≤ a2), ()) else some (false, ())) fun y3 => some y3) = _
  cases decide (a1 ≤ a0) <;> rfl
theorem g82_ok (a0 : Int) (a1 : Bool) (a2 : Int) (r0 : IntKind.i64.has a0) (r2 : IntKind.i64.has a2) : g82 a0 a1 a2 = some (Sp07.cmpI a0 a2, ()) := by
  rfl
theorem g87_ok (a0 : Int) (a1 : Int) (a2 : Int) (a3 : Int) (a4 : Int) (a5 : Int) (a6 : Int) (a7 : Int) (a8 : Int) (a9 : Int) (r0 : IntKind.i64.has a0) (r1 : IntKind.i64.has a1) (r2 : IntKind.i64.has a2) (r3 : IntKind.i64.has a3) (r4 : IntKind.i64.has a4) (r5 : IntKind.i64.has a5) (r6 : IntKind.i64.has a6) (r7 : IntKind.i64.has a7) (r8 : IntKind.i64.has a8) (r9 : IntKind.i64.has a9) : g87 a0 a1 a2 a3 a4 a5 a6 a7 a8 a9 = some (Sp07.lkCmp (a0, a1, a2, a3, a4, ()) (a5, a6, a7, a8, a9, ()), ()) := by
  rfl
theorem g78_ok (a0 : Int) (a1 : Bool) (r0 : IntKind.i64.has a0) : g78 a0 a1 = some (Sp07.badR (a0, a1, ()), ()) := by
  rfl
theorem idx_any {α : Type} (p : α → Bool) (l : List α) : decide (idx p l ≥ 0) = l.any p := by
  unfold idx
  cases l.any p with
  | true => exact decide_eq_true (by show (0 : Int) ≤ ((_ : Nat) : Int); omega)
  | false => exact decide_eq_false (by show ¬ (-1 : Int) ≥ 0; decide)
theorem find_loop {α : Type} (f : (Int × Unit) → Option (Sum (Int × Unit) (Bool × ((Int × Unit) × Unit)))) (l : List α) (p : α → Bool) (d : α)
    (hs : ∀ i : Nat, i < l.length → f ((i : Int), ()) = bif p (l.getD i d) then some (.inr (true, (((i : Int), ()), ()))) else some (.inl (((i + 1 : Nat) : Int), ())))
    (he : f ((l.length : Int), ()) = some (.inr (false, ((0, ()), ())))) : Option.bind (Loop f ((0 : Int), ())) (fun y1 => bif y1.1 then some y1.2.1 else some ((-1 : Int), ())) = some (idx p l, ()) := by
  have key : ∀ j k, k + j = l.length → (∀ i, i < k → p (l.getD i d) = false) → Option.bind (Loop f ((k : Int), ())) (fun y1 => bif y1.1 then some y1.2.1 else some ((-1 : Int), ())) = some (idx p l, ()) := by
    intro j
    induction j with
    | zero =>
      intro k hk hn
      have hk : k = l.length := by omega
      subst hk
      have ha : l.any p = false := by
        rw [Bool.eq_false_iff]
        intro h
        obtain ⟨x, hx, hp⟩ := List.any_eq_true.1 h
        obtain ⟨i, hi, rfl⟩ := List.getElem_of_mem hx
        have := hn i hi
        rw [List.getD_eq_getElem?_getD, List.getElem?_eq_getElem hi] at this
        have this : p l[i] = false := this
        rw [hp] at this
        cases this
      rw [Loop_step, he]
      unfold idx
      rw [ha]
      rfl
    | succ j ih =>
      intro k hk hn
      rw [Loop_step, hs k (by omega)]
      cases hp : p (l.getD k d) with
      | true =>
        have hlt : k < l.length := by omega
        have e : l.getD k d = l[k] := by rw [List.getD_eq_getElem?_getD, List.getElem?_eq_getElem hlt]; rfl
        have ha : l.any p = true := List.any_eq_true.2 ⟨l[k], List.getElem_mem _, by rw [← e]; exact hp⟩
        have hf : l.findIdx p = k := by
          rw [List.findIdx_eq hlt]
          refine ⟨by rw [← e]; exact hp, fun i hi => ?_⟩
          have := hn i hi
          rw [List.getD_eq_getElem?_getD, List.getElem?_eq_getElem (by omega)] at this
          simpa using this
        unfold idx
        rw [ha, hf]
        rfl
      | false =>
        refine ih (k + 1) (by omega) fun i hi => ?_
        by_cases h : i = k
        · rw [h]; exact hp
        · exact hn i (by omega)
  exact key l.length 0 (by omega) (fun i hi => absurd hi (by omega))
theorem len_rt {l : List Rt} (h : (Ty.sl rtT).ok l) : l.length ≤ 8796093022208 := by
  have h : l.length * 16 ≤ 140737488355328 := h.1
  omega
theorem len_lk {l : List Lk} (h : (Ty.sl lkT).ok l) : l.length ≤ 8796093022208 := by
  have h : l.length * 40 ≤ 140737488355328 := h.1
  omega
theorem g96_ok (a0 : (List (Int × (Bool × Unit)))) (r0 : (Ty.sl (rtT)).ok a0) : g96 a0 = some (Sp07.idx Sp07.badR a0, ()) := by
  have hl := len_rt r0
  refine find_loop (g96_s0 a0) a0 badR (0, false, ()) (fun i hi => ?_) ?_
  · unfold g96_s0
    simp only [Int.ofNat_eq_natCast, Int.toNat_natCast]
    rw [decide_eq_true (show (i : Int) < (a0.length : Int) by omega), decide_eq_true (show (0 : Int) ≤ (i : Int) by omega), wi64 (n := (i : Int) + 1) (by omega) (by omega)]
    rfl
  · unfold g96_s0
    simp only [Int.ofNat_eq_natCast]
    rw [decide_eq_false (show ¬ (a0.length : Int) < (a0.length : Int) by omega)]
    rfl
theorem g77_ok (a0 : (List (Int × (Bool × Unit)))) (r0 : (Ty.sl (rtT)).ok a0) : g77 a0 = some (a0.any Sp07.badR, ()) := by
  unfold g77
  rw [idx_any]
theorem g84_ok (a0 : Int) (a1 : Int) (a2 : Int) (a3 : Int) (a4 : Int) (r0 : IntKind.i64.has a0) (r1 : IntKind.i64.has a1) (r2 : IntKind.i64.has a2) (r3 : IntKind.i64.has a3) (r4 : IntKind.i64.has a4) : g84 a0 a1 a2 a3 a4 = some (Sp07.badK (a0, a1, a2, a3, a4, ()), ()) := by
  unfold g84 badK
  simp only [Bool.not_not]
  cases Sp07.inside a2 1 1000 <;> cases Sp07.inside a3 1 1000 <;> rfl
theorem g98_ok (a0 : (List (Int × (Int × (Int × (Int × (Int × Unit))))))) (r0 : (Ty.sl (lkT)).ok a0) : g98 a0 = some (Sp07.idx Sp07.badK a0, ()) := by
  have hl := len_lk r0
  refine find_loop (g98_s0 a0) a0 badK (0, 0, 0, 0, 0, ()) (fun i hi => ?_) ?_
  · unfold g98_s0
    simp only [Int.ofNat_eq_natCast, Int.toNat_natCast]
    rw [decide_eq_true (show (i : Int) < (a0.length : Int) by omega), decide_eq_true (show (0 : Int) ≤ (i : Int) by omega), wi64 (n := (i : Int) + 1) (by omega) (by omega)]
    rfl
  · unfold g98_s0
    simp only [Int.ofNat_eq_natCast]
    rw [decide_eq_false (show ¬ (a0.length : Int) < (a0.length : Int) by omega)]
    rfl
theorem g83_ok (a0 : (List (Int × (Int × (Int × (Int × (Int × Unit))))))) (r0 : (Ty.sl (lkT)).ok a0) : g83 a0 = some (a0.any Sp07.badK, ()) := by
  unfold g83
  rw [idx_any]
theorem g80_ok (a0 : Int) (a1 : (List (Int × (Bool × Unit)))) (a2 : (List (Int × (Int × (Int × (Int × (Int × Unit))))))) (r0 : IntKind.i64.has a0) (r1 : (Ty.sl (rtT)).ok a1) (r2 : (Ty.sl (lkT)).ok a2) : g80 a0 a1 a2 = some (Sp07.unk (a1, a2, ()) a0, ()) := by
  rfl
theorem g85_ok (a0 : Int) (a1 : Int) (a2 : Int) (a3 : Int) (a4 : Int) (a5 : (List (Int × (Bool × Unit)))) (a6 : (List (Int × (Int × (Int × (Int × (Int × Unit))))))) (r0 : IntKind.i64.has a0) (r1 : IntKind.i64.has a1) (r2 : IntKind.i64.has a2) (r3 : IntKind.i64.has a3) (r4 : IntKind.i64.has a4) (r5 : (Ty.sl (rtT)).ok a5) (r6 : (Ty.sl (lkT)).ok a6) : g85 a0 a1 a2 a3 a4 a5 a6 = some (Sp07.unk (a5, a6, ()) a0 || Sp07.unk (a5, a6, ()) a1, ()) := by
  unfold g85
  cases unk (a5, a6, ()) a0 <;> rfl
theorem g98v_ok (a0 : (List (Int × (Int × (Int × (Int × (Int × Unit))))))) (a1 : (List (Int × (Bool × Unit)))) (a2 : (List (Int × (Int × (Int × (Int × (Int × Unit))))))) (r0 : (Ty.sl (lkT)).ok a0) (r1 : (Ty.sl (rtT)).ok a1) (r2 : (Ty.sl (lkT)).ok a2) : g98v a0 a1 a2 = some (Sp07.idx (fun l => Sp07.unk (a1, a2, ()) l.1 || Sp07.unk (a1, a2, ()) l.2.1) a0, ()) := by
  have hl := len_lk r0
  refine find_loop (g98v_s0 a0 a1 a2) a0 (fun l => unk (a1, a2, ()) l.1 || unk (a1, a2, ()) l.2.1) (0, 0, 0, 0, 0, ()) (fun i hi => ?_) ?_
  · unfold g98v_s0
    simp only [Int.ofNat_eq_natCast, Int.toNat_natCast]
    rw [decide_eq_true (show (i : Int) < (a0.length : Int) by omega), decide_eq_true (show (0 : Int) ≤ (i : Int) by omega), wi64 (n := (i : Int) + 1) (by omega) (by omega)]
    rfl
  · unfold g98v_s0
    simp only [Int.ofNat_eq_natCast]
    rw [decide_eq_false (show ¬ (a0.length : Int) < (a0.length : Int) by omega)]
    rfl
theorem g83w1_ok (a0 : (List (Int × (Int × (Int × (Int × (Int × Unit))))))) (a1 : (List (Int × (Bool × Unit)))) (a2 : (List (Int × (Int × (Int × (Int × (Int × Unit))))))) (r0 : (Ty.sl (lkT)).ok a0) (r1 : (Ty.sl (rtT)).ok a1) (r2 : (Ty.sl (lkT)).ok a2) : g83w1 a0 a1 a2 = some (a0.any (fun l => Sp07.unk (a1, a2, ()) l.1 || Sp07.unk (a1, a2, ()) l.2.1), ()) := by
  unfold g83w1
  rw [idx_any]
theorem g86_ok (a0 : Int) (a1 : Int) (a2 : Int) (a3 : Int) (a4 : Int) (r0 : IntKind.i64.has a0) (r1 : IntKind.i64.has a1) (r2 : IntKind.i64.has a2) (r3 : IntKind.i64.has a3) (r4 : IntKind.i64.has a4) : g86 a0 a1 a2 a3 a4 = some (Sp07.down (a0, a1, a2, a3, a4, ()), ()) := by
  rfl
theorem g98x_ok (a0 : (List (Int × (Int × (Int × (Int × (Int × Unit))))))) (r0 : (Ty.sl (lkT)).ok a0) : g98x a0 = some (Sp07.idx Sp07.down a0, ()) := by
  have hl := len_lk r0
  refine find_loop (g98x_s0 a0) a0 down (0, 0, 0, 0, 0, ()) (fun i hi => ?_) ?_
  · unfold g98x_s0
    simp only [Int.ofNat_eq_natCast, Int.toNat_natCast]
    rw [decide_eq_true (show (i : Int) < (a0.length : Int) by omega), decide_eq_true (show (0 : Int) ≤ (i : Int) by omega), wi64 (n := (i : Int) + 1) (by omega) (by omega)]
    rfl
  · unfold g98x_s0
    simp only [Int.ofNat_eq_natCast]
    rw [decide_eq_false (show ¬ (a0.length : Int) < (a0.length : Int) by omega)]
    rfl
theorem g83w2_ok (a0 : (List (Int × (Int × (Int × (Int × (Int × Unit))))))) (r0 : (Ty.sl (lkT)).ok a0) : g83w2 a0 = some (a0.any Sp07.down, ()) := by
  unfold g83w2
  rw [idx_any]
theorem g89_ok (a0 : (List (Int × (Bool × Unit)))) (a1 : (List (Int × (Int × (Int × (Int × (Int × Unit))))))) (r0 : (Ty.sl (rtT)).ok a0) (r1 : (Ty.sl (lkT)).ok a1) : g89 a0 a1 = some (Sp07.okT (a0, a1, ()), ()) := by
  rfl
end Go.Abs.C07

namespace Go.Abs.C07
open Go Go.Proofs Sp07
set_option maxRecDepth 100000

theorem cond_some {α : Type} (b : Bool) (x y : α) : (bif b then some x else some y) = some (bif b then x else y) := by cases b <;> rfl
theorem cmp_lt (a b : Int) : decide (cmpI a b < 0) = decide (a < b) := by
  unfold cmpI
  by_cases h : a < b
  · rw [decide_eq_true h]; rfl
  · rw [decide_eq_false h]
    by_cases h2 : b < a
    · rw [decide_eq_true h2]; rfl
    · rw [decide_eq_false h2]; rfl
theorem cmp_eq (a b : Int) : decide (cmpI a b = 0) = decide (a = b) := by
  unfold cmpI
  by_cases h : a < b
  · rw [decide_eq_true h, decide_eq_false (show ¬ a = b by omega)]; rfl
  · rw [decide_eq_false h]
    by_cases h2 : b < a
    · rw [decide_eq_true h2, decide_eq_false (show ¬ a = b by omega)]; rfl
    · rw [decide_eq_false h2, decide_eq_true (show a = b by omega)]; rfl
theorem bsGo_le (l : List Rt) (id : Int) : ∀ f i j, i ≤ j → bsGo l id f i j ≤ j
  | 0, i, j, h => h
  | f + 1, i, j, h => by
    unfold bsGo
    by_cases hij : i < j
    · rw [decide_eq_true hij]
      simp only [cond_true]
      cases decide (cmpI (l.getD ((i + j) / 2) zR).1 id < 0) with
      | true => exact bsGo_le l id f _ j (by omega)
      | false => exact Nat.le_trans (bsGo_le l id f i _ (by omega)) (by omega)
    · rw [decide_eq_false hij]
      exact h
theorem bs_loop (a0 : List Rt) (a1 : Int) (hl : a0.length ≤ 8796093022208) : ∀ f i j, i ≤ j → j ≤ a0.length → j - i ≤ f → Loop (g81_s0 a0 a1) ((j : Int), (i : Int), ()) = some (((bsGo a0 a1 f i j : Nat) : Int), ())
  | 0, i, j, h1, h2, h3 => by
    have : i = j := by omega
    subst this
    rw [Loop_step]
    unfold g81_s0 bsGo
    rw [decide_eq_false (show ¬ (i : Int) < (i : Int) by omega)]
    rfl
  | f + 1, i, j, h1, h2, h3 => by
    rw [Loop_step]
    by_cases hij : i < j
    · have e1 : IntKind.wrap .i64 ((i : Int) + (j : Int)) = ((i + j : Nat) : Int) := by rw [wi64 (by omega) (by omega)]; omega
      have e2 : IntKind.wrap .u64 ((i + j : Nat) : Int) = ((i + j : Nat) : Int) := wu64 (by omega) (by omega)
      have e3 : (((i + j : Nat) : Int)).fdiv 2 = (((i + j) / 2 : Nat) : Int) := by
        rw [Int.fdiv_eq_ediv_of_nonneg _ (by omega)]
        omega
      have e4 : IntKind.wrap .i64 (((i + j) / 2 : Nat) : Int) = (((i + j) / 2 : Nat) : Int) := wi64 (by omega) (by omega)
      have e5 : IntKind.wrap .i64 ((((i + j) / 2 : Nat) : Int) + 1) = (((i + j) / 2 + 1 : Nat) : Int) := by rw [wi64 (by omega) (by omega)]; omega
      have hs : g81_s0 a0 a1 ((j : Int), (i : Int), ()) = bif decide (cmpI (a0.getD ((i + j) / 2) zR).1 a1 < 0) then some (.inl ((j : Int), (((i + j) / 2 + 1 : Nat) : Int), ())) else some (.inl ((((i + j) / 2 : Nat) : Int), (i : Int), ())) := by
        unfold g81_s0
        simp only [e1, e2, e3, e4, e5, Int.toNat_natCast, Int.ofNat_eq_natCast]
        rw [decide_eq_true (show (i : Int) < (j : Int) by omega), decide_eq_true (show (0 : Int) ≤ (((i + j) / 2 : Nat) : Int) by omega), decide_eq_true (show (((i + j) / 2 : Nat) : Int) < (a0.length : Int) by omega)]
        show Option.bind (bif decide (cmpI (a0.getD ((i + j) / 2) zR).1 a1 < 0) then _ else _) _ = _
        cases decide (cmpI (a0.getD ((i + j) / 2) zR).1 a1 < 0) <;> rfl
      rw [hs]
      unfold bsGo
      rw [decide_eq_true hij]
      cases decide (cmpI (a0.getD ((i + j) / 2) zR).1 a1 < 0) with
      | true => exact bs_loop a0 a1 hl f _ j (by omega) h2 (by omega)
      | false => exact bs_loop a0 a1 hl f i _ (by omega) (by omega) (by omega)
    · have : i = j := by omega
      subst this
      unfold g81_s0 bsGo
      rw [decide_eq_false (show ¬ (i : Int) < (i : Int) by omega), decide_eq_false hij]
      rfl

theorem g81_ok (a0 : (List (Int × (Bool × Unit)))) (a1 : Int) (r0 : (Ty.sl (rtT)).ok a0) (r1 : IntKind.i64.has a1) : g81 a0 a1 = some (Sp07.bs a0 a1, ()) := by
  have hl := len_rt r0
  have h := bs_loop a0 a1 hl a0.length 0 a0.length (Nat.zero_le _) (Nat.le_refl _) (by omega)
  have hle := bsGo_le a0 a1 a0.length 0 a0.length (Nat.zero_le _)
  have h : Loop (g81_s0 a0 a1) (Int.ofNat a0.length, 0, ()) = _ := h
  unfold g81 bs
  rw [h]
  simp only [Option.bind_some, Int.ofNat_eq_natCast, Int.toNat_natCast]
  by_cases hr : bsGo a0 a1 a0.length 0 a0.length < a0.length
  · rw [decide_eq_true (show ((bsGo a0 a1 a0.length 0 a0.length : Nat) : Int) < (a0.length : Int) by omega), decide_eq_true hr, decide_eq_true (show (0 : Int) ≤ ((bsGo a0 a1 a0.length 0 a0.length : Nat) : Int) by omega)]
    rfl
  · rw [decide_eq_false (show ¬ ((bsGo a0 a1 a0.length 0 a0.length : Nat) : Int) < (a0.length : Int) by omega), decide_eq_false hr]
    rfl

theorem up_lt {l : List Rt} (h : upR l = true) : ∀ j i, i < j → j < l.length → (l.getD i zR).1 < (l.getD j zR).1
  | 0, i, hi, _ => by omega
  | j + 1, i, hi, hj => by
    have hs : (l.getD j zR).1 < (l.getD (j + 1) zR).1 := of_decide_eq_true (List.all_eq_true.1 h j (List.mem_range.2 (by omega)))
    by_cases hij : i = j
    · rw [hij]; exact hs
    · exact Int.lt_trans (up_lt h j i (by omega) (by omega)) hs
theorem bs_inv {l : List Rt} (h : upR l = true) (id : Int) : ∀ f i j, i ≤ j → j ≤ l.length → j - i ≤ f → (∀ k, k < i → (l.getD k zR).1 < id) → (∀ k, j ≤ k → k < l.length → id ≤ (l.getD k zR).1) →
    bsGo l id f i j ≤ l.length ∧ (∀ k, k < bsGo l id f i j → (l.getD k zR).1 < id) ∧ ∀ k, bsGo l id f i j ≤ k → k < l.length → id ≤ (l.getD k zR).1
  | 0, i, j, h1, h2, h3, h4, h5 => by
    have : i = j := by omega
    subst this
    exact ⟨h2, h4, h5⟩
  | f + 1, i, j, h1, h2, h3, h4, h5 => by
    unfold bsGo
    by_cases hij : i < j
    · rw [decide_eq_true hij, cmp_lt]
      simp only [cond_true]
      by_cases hc : (l.getD ((i + j) / 2) zR).1 < id
      · rw [decide_eq_true hc]
        refine bs_inv h id f _ j (by omega) h2 (by omega) (fun k hk => ?_) h5
        by_cases hk2 : k = (i + j) / 2
        · rw [hk2]; exact hc
        · exact Int.lt_trans (up_lt h _ k (by omega) (by omega)) hc
      · rw [decide_eq_false hc]
        refine bs_inv h id f i _ (by omega) (by omega) (by omega) h4 (fun k hk hkl => ?_)
        by_cases hk2 : k = (i + j) / 2
        · rw [hk2]; omega
        · have := up_lt h k ((i + j) / 2) (by omega) hkl
          omega
    · have : i = j := by omega
      subst this
      rw [decide_eq_false hij]
      exact ⟨h2, h4, h5⟩
theorem getD_ix {α : Type} {l : List α} {d : α} {i : Nat} (h : i < l.length) : l.getD i d = l[i] := by
  rw [List.getD_eq_getElem?_getD, List.getElem?_eq_getElem h]
  rfl
theorem hasR_iff (l : List Rt) (id : Int) : Sp07.hasR l id = true ↔ ∃ k, k < l.length ∧ (l.getD k zR).1 = id := by
  unfold Sp07.hasR
  rw [List.any_eq_true]
  constructor
  · rintro ⟨x, hx, h⟩
    obtain ⟨k, hk, rfl⟩ := List.getElem_of_mem hx
    exact ⟨k, hk, by rw [getD_ix hk]; exact of_decide_eq_true h⟩
  · rintro ⟨k, hk, h⟩
    rw [getD_ix hk] at h
    exact ⟨l[k], List.getElem_mem _, decide_eq_true h⟩
theorem bs_has {l : List Rt} (h : upR l = true) (id : Int) : (bs l id).2.1 = Sp07.hasR l id ∧ (Sp07.hasR l id = true → (bs l id).1 = ((l.findIdx fun r => decide (r.1 = id) : Nat) : Int) ∧ (bs l id).1.toNat < l.length) := by
  obtain ⟨q1, q2, q3⟩ := bs_inv h id l.length 0 l.length (Nat.zero_le _) (Nat.le_refl _) (by omega) (fun k hk => by omega) (fun k hk hk2 => by omega)
  unfold bs
  simp only [cmp_eq]
  generalize bsGo l id l.length 0 l.length = r at q1 q2 q3
  by_cases hr : r < l.length
  · rw [decide_eq_true hr]
    by_cases he : (l.getD r zR).1 = id
    · have hh : Sp07.hasR l id = true := (hasR_iff l id).2 ⟨r, hr, he⟩
      rw [decide_eq_true he, hh]
      refine ⟨rfl, fun _ => ⟨?_, by simpa using hr⟩⟩
      have : l.findIdx (fun r => decide (r.1 = id)) = r := by
        rw [List.findIdx_eq hr]
        refine ⟨by rw [getD_ix hr] at he; exact decide_eq_true he, fun k hk => ?_⟩
        have := q2 k hk
        rw [getD_ix (by omega)] at this
        exact decide_eq_false (by omega)
      rw [this]
    · have hh : Sp07.hasR l id = false := by
        rw [Bool.eq_false_iff]
        intro hc
        obtain ⟨k, hk, hki⟩ := (hasR_iff l id).1 hc
        by_cases h1 : k < r
        · have := q2 k h1; omega
        · by_cases h2 : k = r
          · rw [h2] at hki; exact he hki
          · have h3 := up_lt h k r (by omega) hk
            have h4 := q3 r (Nat.le_refl _) hr
            omega
      rw [decide_eq_false he, hh]
      exact ⟨rfl, fun h => by cases h⟩
  · have hh : Sp07.hasR l id = false := by
      rw [Bool.eq_false_iff]
      intro hc
      obtain ⟨k, hk, hki⟩ := (hasR_iff l id).1 hc
      have := q2 k (by omega)
      omega
    rw [decide_eq_false hr, hh]
    exact ⟨rfl, fun h => by cases h⟩

theorem any_upR (l : List Rt) : (List.range l.length).any (fun i => decide (0 < i) && decide ((l.getD (i - 1) zR).1 ≥ (l.getD i zR).1)) = !upR l := by
  unfold upR
  rw [Bool.eq_iff_iff, List.any_eq_true]
  simp only [Bool.not_eq_true', Bool.and_eq_true, decide_eq_true_eq, List.mem_range]
  rw [Bool.eq_false_iff, ne_eq, List.all_eq_true]
  constructor
  · rintro ⟨i, h1, h2, h3⟩ hc
    have := of_decide_eq_true (hc (i - 1) (List.mem_range.2 (by omega)))
    rw [show i - 1 + 1 = i by omega] at this
    omega
  · intro hc
    refine Classical.byContradiction fun hn => hc fun i hi => ?_
    have hi := List.mem_range.1 hi
    refine decide_eq_true ?_
    refine Classical.byContradiction fun h2 => hn ⟨i + 1, by omega, by omega, ?_⟩
    rw [show i + 1 - 1 = i by omega]
    omega
theorem any_upL (l : List Lk) : (List.range l.length).any (fun i => decide (0 < i) && !lessL (l.getD (i - 1) zL) (l.getD i zL)) = !upL l := by
  unfold upL
  rw [Bool.eq_iff_iff, List.any_eq_true]
  simp only [Bool.not_eq_true', Bool.and_eq_true, decide_eq_true_eq, List.mem_range]
  rw [Bool.eq_false_iff, ne_eq, List.all_eq_true]
  constructor
  · rintro ⟨i, h1, h2, h3⟩ hc
    have := hc (i - 1) (List.mem_range.2 (by omega))
    rw [show i - 1 + 1 = i by omega, h3] at this
    cases this
  · intro hc
    refine Classical.byContradiction fun hn => hc fun i hi => ?_
    have hi := List.mem_range.1 hi
    refine Classical.byContradiction fun h2 => hn ⟨i + 1, by omega, by omega, ?_⟩
    rw [show i + 1 - 1 = i by omega]
    exact Bool.eq_false_iff.2 h2
theorem cmp_less (a b : Lk) : decide (lkCmp a b ≥ 0) = !lessL a b := by
  unfold lkCmp lessL
  show decide ((bif decide (cmpI a.1 b.1 = 0) then (bif decide (cmpI a.2.1 b.2.1 = 0) then 0 else cmpI a.2.1 b.2.1) else cmpI a.1 b.1) ≥ 0) = _
  rw [cmp_eq, cmp_eq]
  unfold cmpI
  by_cases h1 : a.1 < b.1
  · rw [decide_eq_true h1, decide_eq_false (show ¬ a.1 = b.1 by omega)]; rfl
  rw [decide_eq_false h1]
  by_cases h2 : b.1 < a.1
  · rw [decide_eq_true h2, decide_eq_false (show ¬ a.1 = b.1 by omega)]; rfl
  rw [decide_eq_false h2, decide_eq_true (show a.1 = b.1 by omega)]
  by_cases h3 : a.2.1 < b.2.1
  · rw [decide_eq_true h3, decide_eq_false (show ¬ a.2.1 = b.2.1 by omega)]; rfl
  rw [decide_eq_false h3]
  by_cases h4 : b.2.1 < a.2.1
  · rw [decide_eq_true h4, decide_eq_false (show ¬ a.2.1 = b.2.1 by omega)]; rfl
  rw [decide_eq_false h4, decide_eq_true (show a.2.1 = b.2.1 by omega)]
  rfl
theorem orderR (l : List Rt) (hl : l.length ≤ 8796093022208) : Loop (g61_s0 l) ((0 : Int), ()) = some (bif !upR l then (true, ((25, ()), ())) else (false, ((0, ()), ()))) := by
  rw [← any_upR]
  refine Loop_scanI l.length _ _ _ (fun i hi hlt => ?_) ?_
  · obtain ⟨k, rfl⟩ : ∃ n : Nat, i = n := ⟨i.toNat, by omega⟩
    have e2 : IntKind.wrap .i64 ((k : Int) + 1) = (k : Int) + 1 := wi64 (by omega) (by omega)
    unfold g61_s0
    simp only [Int.ofNat_eq_natCast, Int.toNat_natCast, e2]
    rw [decide_eq_true hlt]
    by_cases h0 : 0 < k
    · have e1 : IntKind.wrap .i64 ((k : Int) - 1) = ((k - 1 : Nat) : Int) := by rw [wi64 (by omega) (by omega)]; omega
      simp only [e1, Int.toNat_natCast]
      rw [decide_eq_true (show (k : Int) > 0 by omega), decide_eq_true (show (0 : Int) ≤ ((k - 1 : Nat) : Int) by omega), decide_eq_true (show ((k - 1 : Nat) : Int) < (l.length : Int) by omega), decide_eq_true (show (0 : Int) ≤ (k : Int) by omega), decide_eq_true h0]
      simp only [Bool.and_self, cond_true, Option.bind_some, Bool.true_and]
      exact cond_some _ _ _
    · rw [decide_eq_false (show ¬ (k : Int) > 0 by omega), decide_eq_false h0]
      rfl
  · unfold g61_s0
    simp only [Int.ofNat_eq_natCast]
    rw [decide_eq_false (show ¬ (l.length : Int) < (l.length : Int) by omega)]
    rfl
theorem orderL (l : List Lk) (hl : l.length ≤ 8796093022208) : Loop (g61_s1 l) ((0 : Int), ()) = some (bif !upL l then (true, ((25, ()), ())) else (false, ((0, ()), ()))) := by
  rw [← any_upL]
  refine Loop_scanI l.length _ _ _ (fun i hi hlt => ?_) ?_
  · obtain ⟨k, rfl⟩ : ∃ n : Nat, i = n := ⟨i.toNat, by omega⟩
    have e2 : IntKind.wrap .i64 ((k : Int) + 1) = (k : Int) + 1 := wi64 (by omega) (by omega)
    unfold g61_s1
    simp only [Int.ofNat_eq_natCast, Int.toNat_natCast, e2]
    rw [decide_eq_true hlt]
    by_cases h0 : 0 < k
    · have e1 : IntKind.wrap .i64 ((k : Int) - 1) = ((k - 1 : Nat) : Int) := by rw [wi64 (by omega) (by omega)]; omega
      simp only [e1, Int.toNat_natCast]
      rw [decide_eq_true (show (k : Int) > 0 by omega), decide_eq_true (show (0 : Int) ≤ ((k - 1 : Nat) : Int) by omega), decide_eq_true (show ((k - 1 : Nat) : Int) < (l.length : Int) by omega), decide_eq_true (show (0 : Int) ≤ (k : Int) by omega), decide_eq_true h0, ← cmp_less]
      simp only [Bool.and_self, cond_true, Option.bind_some, Bool.true_and]
      exact cond_some _ _ _
    · rw [decide_eq_false (show ¬ (k : Int) > 0 by omega), decide_eq_false h0]
      rfl
  · unfold g61_s1
    simp only [Int.ofNat_eq_natCast]
    rw [decide_eq_false (show ¬ (l.length : Int) < (l.length : Int) by omega)]
    rfl
theorem g61_ok (a0 : (List (Int × (Bool × Unit)))) (a1 : (List (Int × (Int × (Int × (Int × (Int × Unit))))))) (r0 : (Ty.sl (rtT)).ok a0) (r1 : (Ty.sl (lkT)).ok a1) : g61 a0 a1 = some (Sp07.chk (a0, a1, ()), ()) := by
  have h1 := len_rt r0
  have h2 := len_lk r1
  unfold g61 chk
  rw [orderR a0 h1, orderL a1 h2]
  have e1 : decide (Int.ofNat a0.length > 24) = decide (24 < a0.length) := decide_eq_decide.2 (by simp only [Int.ofNat_eq_natCast]; omega)
  have e2 : decide (Int.ofNat a1.length > 60) = decide (60 < a1.length) := decide_eq_decide.2 (by simp only [Int.ofNat_eq_natCast]; omega)
  rw [e1, e2]
  simp only
  cases decide (24 < a0.length) with
  | true => rfl
  | false =>
  cases decide (60 < a1.length) with
  | true => rfl
  | false =>
  simp only [Bool.not_false, cond_true, Option.bind_some, cond_false, Bool.or_self]
  cases a0.any badR with
  | true => rfl
  | false =>
  simp only [cond_false]
  cases hu : upR a0 with
  | false => rfl
  | true =>
  simp only [Bool.not_true, cond_false, Option.bind_some]
  have hun : (fun (y4 : Lk) => unk (a0, a1, ()) y4.1 || unk (a0, a1, ()) y4.2.1) = fun l => !Sp07.hasR a0 l.1 || !Sp07.hasR a0 l.2.1 := by
    funext l
    unfold unk
    rw [(bs_has hu l.1).1, (bs_has hu l.2.1).1]
  rw [hun]
  cases a1.any badK with
  | true => rfl
  | false =>
  cases a1.any (fun l => !Sp07.hasR a0 l.1 || !Sp07.hasR a0 l.2.1) with
  | true => rfl
  | false =>
  cases a1.any down with
  | true => rfl
  | false =>
  cases upL a1 <;> rfl

theorem ok_up {g : To} (h : okT g = true) : upR g.1 = true := by
  unfold okT chk at h
  cases hu : upR g.1 with
  | true => rfl
  | false =>
    rw [hu] at h
    cases h1 : (decide (24 < g.1.length) || decide (60 < g.2.1.length)) with
    | true => rw [h1] at h; cases h
    | false =>
      rw [h1] at h
      cases h2 : g.1.any badR with
      | true => rw [h2] at h; cases h
      | false => rw [h2] at h; cases h
theorem g88_ok (a0 : (List (Int × (Bool × Unit)))) (a1 : (List (Int × (Int × (Int × (Int × (Int × Unit))))))) (a2 : Int) (r0 : (Ty.sl (rtT)).ok a0) (r1 : (Ty.sl (lkT)).ok a1) (r2 : IntKind.i64.has a2) : g88 a0 a1 a2 = some (Sp07.find (a0, a1, ()) a2, ()) := by
  unfold g88 find
  simp only
  have hlt : (bs a0 a2).2.1 = true → 0 ≤ (bs a0 a2).1 ∧ (bs a0 a2).1 < (a0.length : Int) := by
    intro h
    unfold bs at h ⊢
    simp only [Bool.and_eq_true, decide_eq_true_eq] at h ⊢
    omega
  cases hb : (bs a0 a2).2.1 with
  | false => rfl
  | true =>
    obtain ⟨p1, p2⟩ := hlt hb
    simp only [Bool.not_true, cond_false, cond_true, Int.ofNat_eq_natCast]
    rw [decide_eq_true p1, decide_eq_true p2]
    rfl
theorem g62_ok (a0 : (List (Int × (Bool × Unit)))) (a1 : (List (Int × (Int × (Int × (Int × (Int × Unit))))))) (a2 : Int) (r0 : (Ty.sl (rtT)).ok a0) (r1 : (Ty.sl (lkT)).ok a1) (r2 : IntKind.i64.has a2) : g62 a0 a1 a2 = some (Sp07.hasT (a0, a1, ()) a2, ()) := by
  unfold g62 hasT
  cases ho : okT (a0, a1, ()) with
  | false => rfl
  | true =>
    have hb := (bs_has (ok_up ho) a2).1
    have hb : (bs a0 a2).2.1 = Sp07.hasR a0 a2 := hb
    unfold find
    simp only [cond_true, Bool.true_and]
    rw [hb]
    cases Sp07.hasR a0 a2 <;> rfl
theorem cap_find {l : List Rt} (h : upR l = true) (id : Int) : (bif (bs l id).2.1 then ((l.getD (bs l id).1.toNat zR, true, ()) : Rt × Bool × Unit) else (zR, false, ())).1.2.1 = capR l id := by
  obtain ⟨h1, h2⟩ := bs_has h id
  rw [h1]
  unfold capR
  cases hh : Sp07.hasR l id with
  | true =>
    obtain ⟨h3, h4⟩ := h2 hh
    rw [h3]
    rfl
  | false =>
    have : l.findIdx (fun r => decide (r.1 = id)) = l.length := by
      rw [List.findIdx_eq_length]
      intro x hx
      refine decide_eq_false fun hc => ?_
      have : Sp07.hasR l id = true := List.any_eq_true.2 ⟨x, hx, decide_eq_true hc⟩
      rw [hh] at this
      cases this
    rw [this]
    simp [List.getD_eq_getElem?_getD, zR]
theorem g63_ok (a0 : (List (Int × (Bool × Unit)))) (a1 : (List (Int × (Int × (Int × (Int × (Int × Unit))))))) (a2 : Int) (r0 : (Ty.sl (rtT)).ok a0) (r1 : (Ty.sl (lkT)).ok a1) (r2 : IntKind.i64.has a2) : g63 a0 a1 a2 = some (Sp07.capT (a0, a1, ()) a2, ()) := by
  unfold g63 capT
  cases ho : okT (a0, a1, ()) with
  | false => rfl
  | true =>
    have hb := cap_find (ok_up ho) a2
    simp only [cond_true, Bool.true_and, Option.bind_some]
    unfold find
    simp only
    simp only at hb
    rw [← hb]
end Go.Abs.C07

namespace Go.Abs.C07
open Go Go.Proofs Sp07
set_option maxRecDepth 100000

theorem g90_ok (a0 : Int) (r0 : IntKind.i64.has a0) : g90 a0 = some (Sp07.inside a0 1 1000, ()) := by
  unfold g90 Sp07.inside
  show (Option.bind (bif decide (1 ≤ a0) then some (decide (a0 ≤ 1000), ()) else some (false, ())) fun y3 => some y3) = _
  cases decide (1 ≤ a0) <;> rfl
theorem first_loop {α β : Type} (f : (Int × Unit) → Option (Sum (Int × Unit) (Bool × (β × Unit)))) (l : List α) (d : α) (hit : α → Option β) (z : β)
    (hs : ∀ i : Nat, i < l.length → f ((i : Int), ()) = some (match hit (l.getD i d) with | some v => .inr (true, (v, ())) | none => .inl (((i + 1 : Nat) : Int), ())))
    (he : f ((l.length : Int), ()) = some (.inr (false, (z, ())))) : Loop f ((0 : Int), ()) = some (match l.findSome? hit with | some v => (true, (v, ())) | none => (false, (z, ()))) := by
  have key : ∀ j k, k + j = l.length → Loop f ((k : Int), ()) = some (match (l.drop k).findSome? hit with | some v => (true, (v, ())) | none => (false, (z, ()))) := by
    intro j
    induction j with
    | zero =>
      intro k hk
      have hk : k = l.length := by omega
      subst hk
      rw [Loop_step, he, List.drop_length]
      rfl
    | succ j ih =>
      intro k hk
      have hlt : k < l.length := by omega
      rw [Loop_step, hs k hlt, List.drop_eq_getElem_cons hlt, List.findSome?_cons, getD_ix hlt]
      cases hit l[k] with
      | some v => rfl
      | none => exact ih (k + 1) (by omega)
  exact key l.length 0 (by omega)
theorem scan1 {ρ : Type} (f : (Int × Unit) → Option (Sum (Int × Unit) ρ)) (n : Nat) (bad : Nat → Bool) (R1 R0 : ρ)
    (h1 : ∀ i : Nat, 1 ≤ i → i < n → f ((i : Int), ()) = some (bif bad i then .inr R1 else .inl (((i + 1 : Nat) : Int), ())))
    (h0 : ∀ i : Nat, n ≤ i → i ≤ n + 1 → f ((i : Int), ()) = some (.inr R0)) : Loop f ((1 : Int), ()) = some (bif (List.range n).any (fun i => decide (0 < i) && bad i) then R1 else R0) := by
  have key : ∀ j k, k + j = n → 1 ≤ k → (∀ i, 0 < i → i < k → bad i = false) → Loop f ((k : Int), ()) = some (bif (List.range n).any (fun i => decide (0 < i) && bad i) then R1 else R0) := by
    intro j
    induction j with
    | zero =>
      intro k hk hk1 hn
      have hk : k = n := by omega
      subst hk
      rw [Loop_step, h0 k (Nat.le_refl _) (by omega)]
      have : (List.range k).any (fun i => decide (0 < i) && bad i) = false := by
        rw [Bool.eq_false_iff]
        intro h
        obtain ⟨x, hx, hp⟩ := List.any_eq_true.1 h
        simp only [Bool.and_eq_true, decide_eq_true_eq] at hp
        rw [hn x hp.1 (List.mem_range.1 hx)] at hp
        cases hp.2
      rw [this]
      rfl
    | succ j ih =>
      intro k hk hk1 hn
      rw [Loop_step, h1 k hk1 (by omega)]
      cases hb : bad k with
      | true =>
        have : (List.range n).any (fun i => decide (0 < i) && bad i) = true := List.any_eq_true.2 ⟨k, List.mem_range.2 (by omega), by rw [hb, decide_eq_true (show 0 < k by omega)]; rfl⟩
        rw [this]
        rfl
      | false =>
        refine ih (k + 1) (by omega) (by omega) fun i hi hik => ?_
        by_cases h : i = k
        · rw [h]; exact hb
        · exact hn i hi (by omega)
  by_cases hn : 1 ≤ n
  · exact key (n - 1) 1 (by omega) (Nat.le_refl _) (fun i h1 h2 => by omega)
  · have : n = 0 := by omega
    subst this
    rw [Loop_step]
    have := h0 1 (by omega) (by omega)
    have this : f ((1 : Int), ()) = _ := this
    rw [this]
    rfl
theorem g91_ok (a0 : (List (Int × (Bool × Unit)))) (a1 : (List (Int × (Int × (Int × (Int × (Int × Unit))))))) (a2 : Int) (r0 : (Ty.sl (rtT)).ok a0) (r1 : (Ty.sl (lkT)).ok a1) (r2 : IntKind.i64.has a2) : g91 a0 a1 a2 = some (Sp07.hasR a0 a2, ()) := by
  have hl := len_rt r0
  have h := first_loop (g91_s0 a0 a2) a0 (0, false, ()) (fun r => bif decide (r.1 = a2) then some (true, ()) else none) (false, ()) (fun i hi => by
    unfold g91_s0
    simp only [Int.ofNat_eq_natCast, Int.toNat_natCast]
    rw [decide_eq_true (show (i : Int) < (a0.length : Int) by omega), decide_eq_true (show (0 : Int) ≤ (i : Int) by omega), wi64 (n := (i : Int) + 1) (by omega) (by omega)]
    cases decide ((a0.getD i (0, false, ())).1 = a2) <;> rfl) (by
    unfold g91_s0
    simp only [Int.ofNat_eq_natCast]
    rw [decide_eq_false (show ¬ (a0.length : Int) < (a0.length : Int) by omega)]
    rfl)
  unfold g91
  rw [h]
  clear h r0 hl
  induction a0 with
  | nil => rfl
  | cons x r ih =>
    rw [List.findSome?_cons]
    show _ = some ((decide (x.1 = a2) || Sp07.hasR r a2), ())
    cases decide (x.1 = a2) with
    | true => rfl
    | false => exact ih
theorem order1 (l : List Rt) (hl : l.length ≤ 8796093022208) : Loop (g64_s1 l) ((1 : Int), ()) = some (bif !upR l then (true, ((25, ()), ())) else (false, ((0, ()), ()))) := by
  rw [← any_upR]
  refine scan1 (g64_s1 l) l.length _ _ _ (fun k h0 hlt => ?_) (fun i hi hi2 => ?_)
  · have e1 : IntKind.wrap .i64 ((k : Int) - 1) = ((k - 1 : Nat) : Int) := by rw [wi64 (by omega) (by omega)]; omega
    have e2 : IntKind.wrap .i64 ((k : Int) + 1) = ((k + 1 : Nat) : Int) := by rw [wi64 (by omega) (by omega)]; omega
    unfold g64_s1
    simp only [Int.ofNat_eq_natCast, Int.toNat_natCast, e1, e2]
    rw [decide_eq_true (show (k : Int) < (l.length : Int) by omega), decide_eq_true (show (0 : Int) ≤ ((k - 1 : Nat) : Int) by omega), decide_eq_true (show ((k - 1 : Nat) : Int) < (l.length : Int) by omega), decide_eq_true (show (0 : Int) ≤ (k : Int) by omega)]
    simp only [Bool.and_self, cond_true]
    exact cond_some _ _ _
  · unfold g64_s1
    simp only [Int.ofNat_eq_natCast]
    rw [decide_eq_false (show ¬ (i : Int) < (l.length : Int) by omega)]
    rfl
theorem order2 (l : List Lk) (hl : l.length ≤ 8796093022208) : Loop (g64_s5 l) ((1 : Int), ()) = some (bif !upL l then (true, ((25, ()), ())) else (false, ((0, ()), ()))) := by
  rw [← any_upL]
  refine scan1 (g64_s5 l) l.length _ _ _ (fun k h0 hlt => ?_) (fun i hi hi2 => ?_)
  · have e1 : IntKind.wrap .i64 ((k : Int) - 1) = ((k - 1 : Nat) : Int) := by rw [wi64 (by omega) (by omega)]; omega
    have e2 : IntKind.wrap .i64 ((k : Int) + 1) = ((k + 1 : Nat) : Int) := by rw [wi64 (by omega) (by omega)]; omega
    unfold g64_s5
    simp only [Int.ofNat_eq_natCast, Int.toNat_natCast, e1, e2]
    rw [decide_eq_true (show (k : Int) < (l.length : Int) by omega), decide_eq_true (show (0 : Int) ≤ ((k - 1 : Nat) : Int) by omega), decide_eq_true (show ((k - 1 : Nat) : Int) < (l.length : Int) by omega), decide_eq_true (show (0 : Int) ≤ (k : Int) by omega)]
    simp only [Bool.and_self, cond_true]
    have hb : ∀ a b : Lk, Option.bind (bif !decide (a.1 > b.1) then (bif decide (a.1 = b.1) then some (decide (a.2.1 ≥ b.2.1), ()) else some (false, ())) else some (true, ())) (fun y2 : Bool × Unit => bif y2.1 then some (Sum.inr (true, (((25 : Int), ()), ()))) else some (Sum.inl (((k + 1 : Nat) : Int), ()))) =
        some (bif !lessL a b then (Sum.inr (true, (((25 : Int), ()), ())) : Sum (Int × Unit) (Bool × ((Int × Unit) × Unit))) else Sum.inl (((k + 1 : Nat) : Int), ())) := by
      intro a b
      unfold lessL
      by_cases h1 : a.1 < b.1
      · rw [decide_eq_true h1, decide_eq_false (show ¬ a.1 > b.1 by omega), decide_eq_false (show ¬ a.1 = b.1 by omega)]; rfl
      by_cases h2 : a.1 > b.1
      · rw [decide_eq_false h1, decide_eq_true h2, decide_eq_false (show ¬ a.1 = b.1 by omega)]; rfl
      rw [decide_eq_false h1, decide_eq_false h2, decide_eq_true (show a.1 = b.1 by omega)]
      by_cases h3 : a.2.1 < b.2.1
      · rw [decide_eq_true h3, decide_eq_false (show ¬ a.2.1 ≥ b.2.1 by omega)]; rfl
      · rw [decide_eq_false h3, decide_eq_true (show a.2.1 ≥ b.2.1 by omega)]; rfl
    exact hb _ _
  · unfold g64_s5
    simp only [Int.ofNat_eq_natCast]
    rw [decide_eq_false (show ¬ (i : Int) < (l.length : Int) by omega)]
    rfl
theorem scan0 {α ρ : Type} (f : (Int × Unit) → Option (Sum (Int × Unit) ρ)) (l : List α) (d : α) (bad : α → Bool) (R1 R0 : ρ)
    (h1 : ∀ i : Nat, i < l.length → f ((i : Int), ()) = some (bif bad (l.getD i d) then .inr R1 else .inl (((i + 1 : Nat) : Int), ())))
    (h0 : f ((l.length : Int), ()) = some (.inr R0)) : Loop f ((0 : Int), ()) = some (bif l.any bad then R1 else R0) :=
  Loop_scan l d bad R1 R0 (fun i hi hlt => by
    obtain ⟨k, rfl⟩ : ∃ n : Nat, i = n := ⟨i.toNat, by omega⟩
    rw [h1 k (by omega), Int.toNat_natCast]
    rfl) h0
theorem g64_ok (a0 : (List (Int × (Bool × Unit)))) (a1 : (List (Int × (Int × (Int × (Int × (Int × Unit))))))) (r0 : (Ty.sl (rtT)).ok a0) (r1 : (Ty.sl (lkT)).ok a1) : g64 a0 a1 = some (Sp07.chk (a0, a1, ()), ()) := by
  have h1 := len_rt r0
  have h2 := len_lk r1
  have l0 : Loop (g64_s0 a0) ((0 : Int), ()) = some (bif a0.any badR then (true, ((2, ()), ())) else (false, ((0, ()), ()))) := by
    refine scan0 _ a0 (0, false, ()) badR _ _ (fun k hk => ?_) ?_
    · have e2 : IntKind.wrap .i64 ((k : Int) + 1) = ((k + 1 : Nat) : Int) := by rw [wi64 (by omega) (by omega)]; omega
      unfold g64_s0 badR Sp07.inside
      simp only [Int.ofNat_eq_natCast, Int.toNat_natCast, e2]
      rw [decide_eq_true (show (k : Int) < (a0.length : Int) by omega), decide_eq_true (show (0 : Int) ≤ (k : Int) by omega)]
      simp only [Bool.and_self, cond_true]
      by_cases q1 : (a0.getD k (0, false, ())).1 < 1
      · rw [decide_eq_true q1, decide_eq_false (show ¬ 1 ≤ (a0.getD k (0, false, ())).1 by omega)]; rfl
      by_cases q2 : (a0.getD k (0, false, ())).1 > 99
      · rw [decide_eq_false q1, decide_eq_true q2, decide_eq_true (show 1 ≤ (a0.getD k (0, false, ())).1 by omega), decide_eq_false (show ¬ (a0.getD k (0, false, ())).1 ≤ 99 by omega)]; rfl
      · rw [decide_eq_false q1, decide_eq_false q2, decide_eq_true (show 1 ≤ (a0.getD k (0, false, ())).1 by omega), decide_eq_true (show (a0.getD k (0, false, ())).1 ≤ 99 by omega)]; rfl
    · unfold g64_s0
      simp only [Int.ofNat_eq_natCast]
      rw [decide_eq_false (show ¬ (a0.length : Int) < (a0.length : Int) by omega)]
      rfl
  have l2 : Loop (g64_s2 a1) ((0 : Int), ()) = some (bif a1.any badK then (true, ((2, ()), ())) else (false, ((0, ()), ()))) := by
    refine scan0 _ a1 (0, 0, 0, 0, 0, ()) badK _ _ (fun k hk => ?_) ?_
    · have e2 : IntKind.wrap .i64 ((k : Int) + 1) = ((k + 1 : Nat) : Int) := by rw [wi64 (by omega) (by omega)]; omega
      have hb : ∀ x : Lk, badK x = (!Sp07.inside x.2.2.1 1 1000 || !Sp07.inside x.2.2.2.1 1 1000 || (decide (x.2.2.2.2.1 < 0) || decide (x.2.2.2.2.1 > 1000))) := by
        intro x
        unfold badK Sp07.inside
        congr 1
        by_cases q1 : x.2.2.2.2.1 < 0
        · rw [decide_eq_true q1, decide_eq_false (show ¬ 0 ≤ x.2.2.2.2.1 by omega)]; rfl
        by_cases q2 : x.2.2.2.2.1 > 1000
        · rw [decide_eq_false q1, decide_eq_true q2, decide_eq_true (show 0 ≤ x.2.2.2.2.1 by omega), decide_eq_false (show ¬ x.2.2.2.2.1 ≤ 1000 by omega)]; rfl
        · rw [decide_eq_false q1, decide_eq_false q2, decide_eq_true (show 0 ≤ x.2.2.2.2.1 by omega), decide_eq_true (show x.2.2.2.2.1 ≤ 1000 by omega)]; rfl
      unfold g64_s2
      simp only [Int.ofNat_eq_natCast, Int.toNat_natCast, e2]
      rw [decide_eq_true (show (k : Int) < (a1.length : Int) by omega), decide_eq_true (show (0 : Int) ≤ (k : Int) by omega), hb]
      cases Sp07.inside (a1.getD k (0, 0, 0, 0, 0, ())).2.2.1 1 1000 with
      | false => rfl
      | true =>
      cases Sp07.inside (a1.getD k (0, 0, 0, 0, 0, ())).2.2.2.1 1 1000 with
      | false => rfl
      | true =>
      cases decide ((a1.getD k (0, 0, 0, 0, 0, ())).2.2.2.2.1 < 0) with
      | true => rfl
      | false => cases decide ((a1.getD k (0, 0, 0, 0, 0, ())).2.2.2.2.1 > 1000) <;> rfl
    · unfold g64_s2
      simp only [Int.ofNat_eq_natCast]
      rw [decide_eq_false (show ¬ (a1.length : Int) < (a1.length : Int) by omega)]
      rfl
  have l3 : Loop (g64_s3 a0 a1) ((0 : Int), ()) = some (bif a1.any (fun l => !Sp07.hasR a0 l.1 || !Sp07.hasR a0 l.2.1) then (true, ((4, ()), ())) else (false, ((0, ()), ()))) := by
    refine scan0 _ a1 (0, 0, 0, 0, 0, ()) _ _ _ (fun k hk => ?_) ?_
    · have e2 : IntKind.wrap .i64 ((k : Int) + 1) = ((k + 1 : Nat) : Int) := by rw [wi64 (by omega) (by omega)]; omega
      unfold g64_s3
      simp only [Int.ofNat_eq_natCast, Int.toNat_natCast, e2]
      rw [decide_eq_true (show (k : Int) < (a1.length : Int) by omega), decide_eq_true (show (0 : Int) ≤ (k : Int) by omega)]
      cases Sp07.hasR a0 (a1.getD k (0, 0, 0, 0, 0, ())).1 with
      | false => rfl
      | true => cases Sp07.hasR a0 (a1.getD k (0, 0, 0, 0, 0, ())).2.1 <;> rfl
    · unfold g64_s3
      simp only [Int.ofNat_eq_natCast]
      rw [decide_eq_false (show ¬ (a1.length : Int) < (a1.length : Int) by omega)]
      rfl
  have l4 : Loop (g64_s4 a1) ((0 : Int), ()) = some (bif a1.any down then (true, ((8, ()), ())) else (false, ((0, ()), ()))) := by
    refine scan0 _ a1 (0, 0, 0, 0, 0, ()) down _ _ (fun k hk => ?_) ?_
    · have e2 : IntKind.wrap .i64 ((k : Int) + 1) = ((k + 1 : Nat) : Int) := by rw [wi64 (by omega) (by omega)]; omega
      unfold g64_s4
      simp only [Int.ofNat_eq_natCast, Int.toNat_natCast, e2]
      rw [decide_eq_true (show (k : Int) < (a1.length : Int) by omega), decide_eq_true (show (0 : Int) ≤ (k : Int) by omega)]
      simp only [Bool.and_self, cond_true]
      exact cond_some _ _ _
    · unfold g64_s4
      simp only [Int.ofNat_eq_natCast]
      rw [decide_eq_false (show ¬ (a1.length : Int) < (a1.length : Int) by omega)]
      rfl
  unfold g64 chk
  rw [l0, order1 a0 h1, l2, l3, l4, order2 a1 h2]
  have e1 : decide (Int.ofNat a0.length > 24) = decide (24 < a0.length) := decide_eq_decide.2 (by simp only [Int.ofNat_eq_natCast]; omega)
  have e2 : decide (Int.ofNat a1.length > 60) = decide (60 < a1.length) := decide_eq_decide.2 (by simp only [Int.ofNat_eq_natCast]; omega)
  rw [e1, e2]
  simp only
  cases decide (24 < a0.length) with
  | true => rfl
  | false =>
  cases decide (60 < a1.length) with
  | true => rfl
  | false =>
  simp only [Bool.not_false, cond_true, Option.bind_some, cond_false, Bool.or_self]
  cases a0.any badR with
  | true => rfl
  | false =>
  cases upR a0 with
  | false => rfl
  | true =>
  cases a1.any badK with
  | true => rfl
  | false =>
  cases a1.any (fun l => !Sp07.hasR a0 l.1 || !Sp07.hasR a0 l.2.1) with
  | true => rfl
  | false =>
  cases a1.any down with
  | true => rfl
  | false =>
  cases upL a1 <;> rfl
theorem g65_ok (a0 : (List (Int × (Bool × Unit)))) (a1 : (List (Int × (Int × (Int × (Int × (Int × Unit))))))) (a2 : Int) (r0 : (Ty.sl (rtT)).ok a0) (r1 : (Ty.sl (lkT)).ok a1) (r2 : IntKind.i64.has a2) : g65 a0 a1 a2 = some (Sp07.hasT (a0, a1, ()) a2, ()) := by
  unfold g65 hasT okT
  cases decide (chk (a0, a1, ()) = 0) <;> rfl
theorem g66_ok (a0 : (List (Int × (Bool × Unit)))) (a1 : (List (Int × (Int × (Int × (Int × (Int × Unit))))))) (a2 : Int) (r0 : (Ty.sl (rtT)).ok a0) (r1 : (Ty.sl (lkT)).ok a1) (r2 : IntKind.i64.has a2) : g66 a0 a1 a2 = some (Sp07.capT (a0, a1, ()) a2, ()) := by
  have hl := len_rt r0
  have h := first_loop (g66_s0 a0 a2) a0 (0, false, ()) (fun r => bif decide (r.1 = a2) then some r.2 else none) (false, ()) (fun i hi => by
    unfold g66_s0
    simp only [Int.ofNat_eq_natCast, Int.toNat_natCast]
    rw [decide_eq_true (show (i : Int) < (a0.length : Int) by omega), decide_eq_true (show (0 : Int) ≤ (i : Int) by omega), wi64 (n := (i : Int) + 1) (by omega) (by omega)]
    cases decide ((a0.getD i (0, false, ())).1 = a2) <;> rfl) (by
    unfold g66_s0
    simp only [Int.ofNat_eq_natCast]
    rw [decide_eq_false (show ¬ (a0.length : Int) < (a0.length : Int) by omega)]
    rfl)
  unfold g66 capT okT
  rw [h]
  have hf : ∀ l : List Rt, Option.bind (some (match l.findSome? (fun r => bif decide (r.1 = a2) then some r.2 else none) with | some v => (true, (v, ())) | none => (false, ((false, ()), ())))) (fun y3 : Bool × ((Bool × Unit) × Unit) => bif y3.1 then some y3.2.1 else some (false, ())) = some (capR l a2, ()) := by
    intro l
    induction l with
    | nil => rfl
    | cons x r ih =>
      rw [List.findSome?_cons]
      unfold capR
      rw [List.findIdx_cons]
      by_cases hx : x.1 = a2
      · simp only [decide_eq_true hx, cond_true]
        rfl
      · simp only [decide_eq_false hx, cond_false]
        exact ih
  cases decide (chk (a0, a1, ()) = 0) with
  | false => rfl
  | true =>
    refine Eq.trans ?_ (hf a0)
    cases a0.findSome? (fun r => bif decide (r.1 = a2) then some r.2 else none) <;> rfl
theorem g68_ok (a0 : (List (Int × (Bool × Unit)))) (a1 : (List (Int × (Int × (Int × (Int × (Int × Unit))))))) (a2 : Int) (a3 : Int) (r0 : (Ty.sl (rtT)).ok a0) (r1 : (Ty.sl (lkT)).ok a1) (r2 : IntKind.i64.has a2) (r3 : IntKind.i64.has a3) : g68 a0 a1 a2 a3 = some (Sp07.price a1 a2 a3, ()) := by
  have hl := len_lk r1
  have h := first_loop (g68_s0 a1 a2 a3) a1 (0, 0, 0, 0, 0, ()) (fun l => bif decide (l.1 = a2) && decide (l.2.1 = a3) then some (true, (l.2.2.1, ())) else bif decide (l.2.1 = a2) && decide (l.1 = a3) then some (true, (l.2.2.2.1, ())) else none) (false, (0, ())) (fun i hi => by
    unfold g68_s0
    simp only [Int.ofNat_eq_natCast, Int.toNat_natCast]
    rw [decide_eq_true (show (i : Int) < (a1.length : Int) by omega), decide_eq_true (show (0 : Int) ≤ (i : Int) by omega), wi64 (n := (i : Int) + 1) (by omega) (by omega)]
    cases decide ((a1.getD i (0, 0, 0, 0, 0, ())).1 = a2) <;> cases decide ((a1.getD i (0, 0, 0, 0, 0, ())).2.1 = a3) <;> cases decide ((a1.getD i (0, 0, 0, 0, 0, ())).2.1 = a2) <;> cases decide ((a1.getD i (0, 0, 0, 0, 0, ())).1 = a3) <;> rfl) (by
    unfold g68_s0
    simp only [Int.ofNat_eq_natCast]
    rw [decide_eq_false (show ¬ (a1.length : Int) < (a1.length : Int) by omega)]
    rfl)
  unfold g68
  rw [h]
  clear h r1 hl
  induction a1 with
  | nil => rfl
  | cons x r ih =>
    rw [List.findSome?_cons]
    unfold price
    cases h1 : (decide (x.1 = a2) && decide (x.2.1 = a3)) with
    | true => rfl
    | false =>
      cases h2 : (decide (x.2.1 = a2) && decide (x.1 = a3)) with
      | true => rfl
      | false => exact ih
theorem g67_ok (a0 : (List (Int × (Bool × Unit)))) (a1 : (List (Int × (Int × (Int × (Int × (Int × Unit))))))) (a2 : Int) (r0 : (Ty.sl (rtT)).ok a0) (r1 : (Ty.sl (lkT)).ok a1) (r2 : IntKind.i64.has a2) : g67 a0 a1 a2 = some (Sp07.near (a0, a1, ()) a2, ()) := by
  have hl := len_rt r0
  have key : ∀ j k, k + j = a0.length → ∀ acc : List Int, acc.length ≤ k → Loop (g67_s0 a0 a1 a2) (acc, (k : Int), ()) = some (acc ++ ((a0.drop k).filter (fun x => (price a1 a2 x.1).2.1)).map (fun x => x.1), ()) := by
    intro j
    induction j with
    | zero =>
      intro k hk acc _
      have hk : k = a0.length := by omega
      subst hk
      rw [Loop_step]
      unfold g67_s0
      simp only [Int.ofNat_eq_natCast]
      rw [decide_eq_false (show ¬ (a0.length : Int) < (a0.length : Int) by omega), List.drop_length]
      simp
    | succ j ih =>
      intro k hk acc hacc
      have hlt : k < a0.length := by omega
      have e2 : IntKind.wrap .i64 ((k : Int) + 1) = ((k + 1 : Nat) : Int) := by rw [wi64 (by omega) (by omega)]; omega
      rw [Loop_step, List.drop_eq_getElem_cons hlt]
      have hs : g67_s0 a0 a1 a2 (acc, (k : Int), ()) = some (.inl (bif (price a1 a2 a0[k].1).2.1 then acc ++ [a0[k].1] else acc, ((k + 1 : Nat) : Int), ())) := by
        unfold g67_s0
        simp only [Int.ofNat_eq_natCast, Int.toNat_natCast, e2]
        rw [decide_eq_true (show (k : Int) < (a0.length : Int) by omega), decide_eq_true (show (0 : Int) ≤ (k : Int) by omega), getD_ix (d := (0, false, ())) hlt, show Nat.ble ((acc.length + 1) * 8) 140737488355328 = true from Nat.ble_eq_true_of_le (by omega)]
        cases (price a1 a2 a0[k].1).2.1 <;> rfl
      rw [hs, List.filter_cons]
      cases hp : (price a1 a2 a0[k].1).2.1 with
      | true =>
        simp only [cond_true, if_true, List.map_cons]
        rw [ih (k + 1) (by omega) _ (by rw [List.length_append]; show acc.length + 1 ≤ _; omega), List.append_assoc]
        rfl
      | false =>
        simp only [cond_false]
        rw [ih (k + 1) (by omega) acc (by omega)]
        rfl
  have h := key a0.length 0 (by omega) [] (Nat.le_refl _)
  have h : Loop (g67_s0 a0 a1 a2) ([], 0, ()) = _ := h
  unfold g67
  rw [h]
  rfl
end Go.Abs.C07

namespace Go.Abs.C07
open Go Go.Proofs Sp07
set_option maxRecDepth 100000

theorem ok_parts {g : To} (h : okT g = true) : g.1.length ≤ 24 ∧ g.2.1.length ≤ 60 ∧ upR g.1 = true ∧ upL g.2.1 = true ∧ ∀ l ∈ g.2.1, Sp07.hasR g.1 l.1 = true ∧ Sp07.hasR g.1 l.2.1 = true ∧ l.1 < l.2.1 := by
  unfold okT chk at h
  cases h1 : (decide (24 < g.1.length) || decide (60 < g.2.1.length)) with
  | true => rw [h1] at h; cases h
  | false =>
  rw [h1] at h
  cases h2 : g.1.any badR with
  | true => rw [h2] at h; cases h
  | false =>
  rw [h2] at h
  cases h3 : upR g.1 with
  | false => rw [h3] at h; cases h
  | true =>
  rw [h3] at h
  cases h4 : g.2.1.any badK with
  | true => rw [h4] at h; cases h
  | false =>
  rw [h4] at h
  cases h5 : g.2.1.any (fun l => !Sp07.hasR g.1 l.1 || !Sp07.hasR g.1 l.2.1) with
  | true => rw [h5] at h; cases h
  | false =>
  rw [h5] at h
  cases h6 : g.2.1.any down with
  | true => rw [h6] at h; cases h
  | false =>
  rw [h6] at h
  cases h7 : upL g.2.1 with
  | false => rw [h7] at h; cases h
  | true =>
    simp only [Bool.or_eq_false_iff, decide_eq_false_iff_not] at h1
    refine ⟨by omega, by omega, rfl, rfl, fun l hl => ?_⟩
    have p5 := List.any_eq_false.1 h5 l hl
    have p6 := List.any_eq_false.1 h6 l hl
    simp only [Bool.or_eq_true, Bool.not_eq_true', not_or, Bool.not_eq_false] at p5
    unfold down at p6
    simp only [decide_eq_true_eq] at p6
    exact ⟨p5.1, p5.2, by omega⟩
theorem less_iff (a b : Lk) : lessL a b = true ↔ a.1 < b.1 ∨ (a.1 = b.1 ∧ a.2.1 < b.2.1) := by
  unfold lessL
  simp only [Bool.or_eq_true, Bool.and_eq_true, decide_eq_true_eq]
theorem up_ltL {l : List Lk} (h : upL l = true) : ∀ j i, i < j → j < l.length → lessL (l.getD i zL) (l.getD j zL) = true
  | 0, i, hi, _ => by omega
  | j + 1, i, hi, hj => by
    have hs : lessL (l.getD j zL) (l.getD (j + 1) zL) = true := List.all_eq_true.1 h j (List.mem_range.2 (by omega))
    by_cases hij : i = j
    · rw [hij]; exact hs
    · have h1 := (less_iff _ _).1 (up_ltL h j i (by omega) (by omega))
      have h2 := (less_iff _ _).1 hs
      exact (less_iff _ _).2 (by omega)
theorem pairL {l : List Lk} (h : upL l = true) : l.Pairwise fun a b => lessL a b = true := by
  rw [List.pairwise_iff_getElem]
  intro i j hi hj hij
  have := up_ltL h j i hij hj
  rw [getD_ix hi, getD_ix hj] at this
  exact this
theorem pairR {l : List Rt} (h : upR l = true) : l.Pairwise fun a b => a.1 < b.1 := by
  rw [List.pairwise_iff_getElem]
  intro i j hi hj hij
  have := up_lt h j i hij hj
  rw [getD_ix hi, getD_ix hj] at this
  exact this
theorem price_fwd {l : Lk} {a b : Int} (ha : l.1 = a) (hb : l.2.1 = b) : ∀ {ls : List Lk}, (ls.Pairwise fun x y => lessL x y = true) → (∀ x ∈ ls, x.1 < x.2.1) → l ∈ ls → price ls a b = (l.2.2.1, true, ())
  | [], _, _, hl => by cases hl
  | x :: r, hp, hd, hl => by
    unfold price
    have hlt := hd l hl
    rcases List.mem_cons.1 hl with rfl | hl
    · rw [decide_eq_true ha, decide_eq_true hb]; rfl
    · have hp := List.pairwise_cons.1 hp
      have hx := (less_iff _ _).1 (hp.1 l hl)
      have hxd := hd x (List.mem_cons_self ..)
      have n1 : (decide (x.1 = a) && decide (x.2.1 = b)) = false := by
        rw [Bool.and_eq_false_iff, decide_eq_false_iff_not, decide_eq_false_iff_not]; omega
      have n2 : (decide (x.2.1 = a) && decide (x.1 = b)) = false := by
        rw [Bool.and_eq_false_iff, decide_eq_false_iff_not, decide_eq_false_iff_not]; omega
      rw [n1, n2]
      exact price_fwd ha hb hp.2 (fun y hy => hd y (List.mem_cons_of_mem _ hy)) hl
theorem price_bwd {l : Lk} {a b : Int} (ha : l.2.1 = a) (hb : l.1 = b) : ∀ {ls : List Lk}, (ls.Pairwise fun x y => lessL x y = true) → (∀ x ∈ ls, x.1 < x.2.1) → l ∈ ls → price ls a b = (l.2.2.2.1, true, ())
  | [], _, _, hl => by cases hl
  | x :: r, hp, hd, hl => by
    unfold price
    have hlt := hd l hl
    rcases List.mem_cons.1 hl with rfl | hl
    · have n1 : (decide (l.1 = a) && decide (l.2.1 = b)) = false := by
        rw [Bool.and_eq_false_iff, decide_eq_false_iff_not, decide_eq_false_iff_not]; omega
      rw [n1, decide_eq_true ha, decide_eq_true hb]; rfl
    · have hp := List.pairwise_cons.1 hp
      have hx := (less_iff _ _).1 (hp.1 l hl)
      have hxd := hd x (List.mem_cons_self ..)
      have n1 : (decide (x.1 = a) && decide (x.2.1 = b)) = false := by
        rw [Bool.and_eq_false_iff, decide_eq_false_iff_not, decide_eq_false_iff_not]; omega
      have n2 : (decide (x.2.1 = a) && decide (x.1 = b)) = false := by
        rw [Bool.and_eq_false_iff, decide_eq_false_iff_not, decide_eq_false_iff_not]; omega
      rw [n1, n2]
      exact price_bwd ha hb hp.2 (fun y hy => hd y (List.mem_cons_of_mem _ hy)) hl
theorem price_some {a b : Int} : ∀ {ls : List Lk}, (price ls a b).2.1 = true → ∃ l ∈ ls, (l.1 = a ∧ l.2.1 = b) ∨ (l.2.1 = a ∧ l.1 = b)
  | [], h => by cases h
  | x :: r, h => by
    unfold price at h
    cases h1 : (decide (x.1 = a) && decide (x.2.1 = b)) with
    | true =>
      simp only [Bool.and_eq_true, decide_eq_true_eq] at h1
      exact ⟨x, List.mem_cons_self .., .inl h1⟩
    | false =>
      rw [h1] at h
      cases h2 : (decide (x.2.1 = a) && decide (x.1 = b)) with
      | true =>
        simp only [Bool.and_eq_true, decide_eq_true_eq] at h2
        exact ⟨x, List.mem_cons_self .., .inr h2⟩
      | false =>
        rw [h2] at h
        obtain ⟨l, hl, hh⟩ := price_some (ls := r) h
        exact ⟨l, List.mem_cons_of_mem _ hl, hh⟩
def capOf (lo hi : Int) (c : Int) (ls : List Lk) : Int := ls.foldl (fun c x => bif decide (x.1 = lo) && decide (x.2.1 = hi) then x.2.2.2.2.1 else c) c
theorem cap_none {lo hi c : Int} : ∀ {ls : List Lk}, (∀ x ∈ ls, ¬ (x.1 = lo ∧ x.2.1 = hi)) → capOf lo hi c ls = c
  | [], _ => rfl
  | x :: r, h => by
    have n1 : (decide (x.1 = lo) && decide (x.2.1 = hi)) = false := by
      rw [Bool.and_eq_false_iff, decide_eq_false_iff_not, decide_eq_false_iff_not]
      have := h x (List.mem_cons_self ..)
      omega
    unfold capOf
    rw [List.foldl_cons, n1]
    exact cap_none fun y hy => h y (List.mem_cons_of_mem _ hy)
theorem cap_hit {l : Lk} : ∀ {ls : List Lk} {c : Int}, (ls.Pairwise fun x y => lessL x y = true) → l ∈ ls → capOf l.1 l.2.1 c ls = l.2.2.2.2.1
  | [], _, _, hl => by cases hl
  | x :: r, c, hp, hl => by
    have hp := List.pairwise_cons.1 hp
    rcases List.mem_cons.1 hl with rfl | hl
    · unfold capOf
      rw [List.foldl_cons, decide_eq_true rfl, decide_eq_true rfl]
      refine cap_none fun y hy => ?_
      have := (less_iff _ _).1 (hp.1 y hy)
      omega
    · unfold capOf
      rw [List.foldl_cons]
      exact cap_hit hp.2 hl
theorem asc_ext : ∀ {a b : List Rc}, (a.Pairwise fun x y => x.1 < y.1) → (b.Pairwise fun x y => x.1 < y.1) → (∀ z, z ∈ a ↔ z ∈ b) → a = b
  | [], [], _, _, _ => rfl
  | [], y :: b, _, _, h => by have := (h y).2 (List.mem_cons_self ..); cases this
  | x :: a, [], _, _, h => by have := (h x).1 (List.mem_cons_self ..); cases this
  | x :: a, y :: b, ha, hb, h => by
    have ha' := List.pairwise_cons.1 ha
    have hb' := List.pairwise_cons.1 hb
    have hxy : x = y := by
      rcases List.mem_cons.1 ((h x).1 (List.mem_cons_self ..)) with e | hx
      · exact e
      · rcases List.mem_cons.1 ((h y).2 (List.mem_cons_self ..)) with e | hy
        · exact e.symm
        · have := hb'.1 x hx
          have := ha'.1 y hy
          omega
    subst hxy
    rw [asc_ext ha'.2 hb'.2 fun z => ⟨fun hz => ?_, fun hz => ?_⟩]
    · rcases List.mem_cons.1 ((h z).1 (List.mem_cons_of_mem _ hz)) with rfl | h2
      · have := ha'.1 z hz; omega
      · exact h2
    · rcases List.mem_cons.1 ((h z).2 (List.mem_cons_of_mem _ hz)) with rfl | h2
      · have := hb'.1 z hz; omega
      · exact h2
def lo (r y : Int) : Int := bif decide (y < r) then y else r
def hi (r y : Int) : Int := bif decide (r < y) then y else r
def reachF (ls : List Lk) (r y : Int) : Rc := (y, (price ls r y).1, capOf (lo r y) (hi r y) 0 ls, ())
theorem reach_eq {g : To} (h : okT g = true) (r : Int) : (near g r).map (reachF g.2.1 r) = g.2.1.flatMap (reachOf r) := by
  obtain ⟨-, -, hR, hL, hm⟩ := ok_parts h
  have pL := pairL hL
  have pR := pairR hR
  have hd : ∀ x ∈ g.2.1, x.1 < x.2.1 := fun x hx => (hm x hx).2.2
  have fA : ∀ l ∈ g.2.1, l.1 = r → reachF g.2.1 r l.2.1 = (l.2.1, l.2.2.1, l.2.2.2.2.1, ()) := by
    intro l hl ha
    unfold reachF
    rw [price_fwd ha rfl pL hd hl]
    have h1 : lo r l.2.1 = l.1 := by unfold lo; rw [decide_eq_false (show ¬ l.2.1 < r by have := hd l hl; omega)]; exact ha.symm
    have h2 : hi r l.2.1 = l.2.1 := by unfold hi; rw [decide_eq_true (show r < l.2.1 by have := hd l hl; omega)]; rfl
    rw [h1, h2, cap_hit pL hl]
  have fB : ∀ l ∈ g.2.1, l.2.1 = r → reachF g.2.1 r l.1 = (l.1, l.2.2.2.1, l.2.2.2.2.1, ()) := by
    intro l hl ha
    unfold reachF
    rw [price_bwd ha rfl pL hd hl]
    have h1 : lo r l.1 = l.1 := by unfold lo; rw [decide_eq_true (show l.1 < r by have := hd l hl; omega)]; rfl
    have h2 : hi r l.1 = l.2.1 := by unfold hi; rw [decide_eq_false (show ¬ r < l.1 by have := hd l hl; omega)]; exact ha.symm
    rw [h1, h2, cap_hit pL hl]
  have mem : ∀ (l : Lk) (z : Rc), l.1 < l.2.1 → (z ∈ reachOf r l ↔ (l.1 = r ∧ z = (l.2.1, l.2.2.1, l.2.2.2.2.1, ())) ∨ (l.2.1 = r ∧ z = (l.1, l.2.2.2.1, l.2.2.2.2.1, ()))) := by
    intro l z hlt
    unfold reachOf
    by_cases h1 : r = l.1
    · rw [decide_eq_true h1]
      simp only [cond_true, List.mem_singleton]
      constructor
      · exact fun e => .inl ⟨h1.symm, e⟩
      · rintro (⟨_, e⟩ | ⟨h2, _⟩)
        · exact e
        · omega
    · rw [decide_eq_false h1]
      by_cases h2 : r = l.2.1
      · rw [decide_eq_true h2]
        simp only [cond_false, cond_true, List.mem_singleton]
        constructor
        · exact fun e => .inr ⟨h2.symm, e⟩
        · rintro (⟨h3, _⟩ | ⟨_, e⟩)
          · omega
          · exact e
      · rw [decide_eq_false h2]
        simp only [cond_false, List.not_mem_nil, false_iff]
        rintro (⟨h3, _⟩ | ⟨h3, _⟩) <;> omega
  refine asc_ext ?_ ?_ fun z => ?_
  · unfold near
    rw [List.map_map, List.pairwise_map]
    exact (pR.filter _).imp fun h => h
  · rw [List.pairwise_flatMap]
    refine ⟨fun l hl => ?_, pL.imp_of_mem fun {a b} ha hb hab x hx y hy => ?_⟩
    · unfold reachOf
      cases decide (r = l.1) with
      | true => exact List.pairwise_singleton _ _
      | false => cases decide (r = l.2.1) with
        | true => exact List.pairwise_singleton _ _
        | false => exact List.Pairwise.nil
    · have h1 := hd a ha
      have h2 := hd b hb
      have h3 := (less_iff _ _).1 hab
      rcases (mem a x h1).1 hx with ⟨q1, rfl⟩ | ⟨q1, rfl⟩ <;> rcases (mem b y h2).1 hy with ⟨q2, rfl⟩ | ⟨q2, rfl⟩ <;> simp only <;> omega
  · rw [List.mem_map, List.mem_flatMap]
    constructor
    · rintro ⟨y, hy, rfl⟩
      unfold near at hy
      obtain ⟨x, hx, rfl⟩ := List.mem_map.1 hy
      have hx := (List.mem_filter.1 hx).2
      obtain ⟨l, hl, h1 | h1⟩ := price_some hx
      · refine ⟨l, hl, (mem l _ (hd l hl)).2 (.inl ⟨h1.1, ?_⟩)⟩
        rw [← h1.2]
        exact fA l hl h1.1
      · refine ⟨l, hl, (mem l _ (hd l hl)).2 (.inr ⟨h1.1, ?_⟩)⟩
        rw [← h1.2]
        exact fB l hl h1.1
    · rintro ⟨l, hl, hz⟩
      have hin : ∀ y, Sp07.hasR g.1 y = true → (price g.2.1 r y).2.1 = true → y ∈ near g r := by
        intro y hy hp
        unfold near
        obtain ⟨x, hx, he⟩ := List.any_eq_true.1 hy
        have he := of_decide_eq_true he
        exact List.mem_map.2 ⟨x, List.mem_filter.2 ⟨hx, by rw [he]; exact hp⟩, he⟩
      rcases (mem l z (hd l hl)).1 hz with ⟨q1, rfl⟩ | ⟨q1, rfl⟩
      · exact ⟨l.2.1, hin _ (hm l hl).2.1 (by rw [price_fwd q1 rfl pL hd hl]), fA l hl q1⟩
      · exact ⟨l.1, hin _ (hm l hl).1 (by rw [price_bwd q1 rfl pL hd hl]), fB l hl q1⟩
theorem g33_ok (a0 : (List (Int × (Bool × Unit)))) (a1 : (List (Int × (Int × (Int × (Int × (Int × Unit))))))) (a2 : Int) (a3 : Int) (a4 : (List (Int × (Int × (Int × Unit))))) (r0 : (Ty.sl (rtT)).ok a0) (r1 : (Ty.sl (lkT)).ok a1) (r2 : IntKind.i64.has a2) (r3 : IntKind.i64.has a3) (r4 : (Ty.sl (rc)).ok a4) : g33 a0 a1 a2 a3 a4 = some (Sp07.advOf (a0, a1, ()) a2 a3 a4, ()) := by
  have h1 := len_rt r0
  have h2 := len_lk r1
  have hc : a4.length * 24 ≤ 140737488355328 := r4.1
  have hlen : ∀ l : List Lk, (l.flatMap (reachOf a2)).length ≤ l.length := by
    intro l
    induction l with
    | nil => exact Nat.le_refl _
    | cons x r ih =>
      rw [List.flatMap_cons, List.length_append, List.length_cons]
      have : (reachOf a2 x).length ≤ 1 := by
        unfold reachOf
        cases decide (a2 = x.1) with
        | true => exact Nat.le_refl _
        | false => cases decide (a2 = x.2.1) with
          | true => exact Nat.le_refl _
          | false => exact Nat.zero_le _
      omega
  have key : a1.length ≤ 60 → ∀ j k, k + j = a1.length → Loop (g33_s0 a1 a2) ((a2, (a3, (capT (a0, a1, ()) a2, ((a1.take k).flatMap (reachOf a2), (a4, ()))))), (k : Int), ()) = some ((a2, (a3, (capT (a0, a1, ()) a2, (a1.flatMap (reachOf a2), (a4, ()))))), ()) := by
    intro h60 j
    induction j with
    | zero =>
      intro k hk
      have hk : k = a1.length := by omega
      subst hk
      rw [Loop_step, List.take_length]
      unfold g33_s0
      simp only [Int.ofNat_eq_natCast]
      rw [decide_eq_false (show ¬ (a1.length : Int) < (a1.length : Int) by omega)]
      rfl
    | succ j ih =>
      intro k hk
      have hlt : k < a1.length := by omega
      have e2 : IntKind.wrap .i64 ((k : Int) + 1) = ((k + 1 : Nat) : Int) := by rw [wi64 (by omega) (by omega)]; omega
      have ht : (a1.take (k + 1)).flatMap (reachOf a2) = (a1.take k).flatMap (reachOf a2) ++ reachOf a2 (a1.getD k zL) := by
        rw [List.take_succ_eq_append_getElem hlt, List.flatMap_append, getD_ix hlt]
        simp
      have hle := hlen (a1.take k)
      rw [List.length_take] at hle
      have hs : g33_s0 a1 a2 ((a2, (a3, (capT (a0, a1, ()) a2, ((a1.take k).flatMap (reachOf a2), (a4, ()))))), (k : Int), ()) = some (.inl ((a2, (a3, (capT (a0, a1, ()) a2, ((a1.take (k + 1)).flatMap (reachOf a2), (a4, ()))))), ((k + 1 : Nat) : Int), ())) := by
        rw [ht]
        generalize (a1.take k).flatMap (reachOf a2) = acc at hle
        unfold g33_s0 reachOf
        simp only [Int.ofNat_eq_natCast, Int.toNat_natCast, e2]
        rw [decide_eq_true (show (k : Int) < (a1.length : Int) by omega), decide_eq_true (show (0 : Int) ≤ (k : Int) by omega), show Nat.ble ((acc.length + 1) * 24) 140737488355328 = true from Nat.ble_eq_true_of_le (by omega)]
        show Option.bind (bif decide (a2 = (a1.getD k zL).1) then _ else _) _ = _
        cases decide (a2 = (a1.getD k zL).1) with
        | true => rfl
        | false =>
          show Option.bind (Option.bind (bif decide (a2 = (a1.getD k zL).2.1) then _ else _) _) _ = _
          cases decide (a2 = (a1.getD k zL).2.1) with
          | true => rfl
          | false =>
            simp only [cond_false, cond_true, Bool.and_self, Option.bind_some, List.append_nil]
      rw [Loop_step, hs]
      exact ih (k + 1) (by omega)
  unfold g33 advOf hasT
  cases ho : okT (a0, a1, ()) with
  | false =>
    unfold okT at ho
    rw [ho]
    rfl
  | true =>
    have hk := key (ok_parts ho).2.1 a1.length 0 (by omega)
    have hk : Loop (g33_s0 a1 a2) ((a2, (a3, (capT (a0, a1, ()) a2, ([], (a4, ()))))), 0, ()) = _ := hk
    have hcap : capT (a0, a1, ()) a2 = capR a0 a2 := by unfold capT; rw [ho]; rfl
    unfold okT at ho
    rw [ho, hk, hcap]
    simp only [Bool.true_and, Bool.not_true, cond_false]
    rw [show Nat.ble (a4.length * 24) 140737488355328 = true from Nat.ble_eq_true_of_le hc]
    cases Sp07.hasR a0 a2 with
    | false => rfl
    | true =>
      simp only [Bool.not_true, cond_false, cond_true, Option.bind_some]
      cases validA (a2, a3, capR a0 a2, a1.flatMap (reachOf a2), a4, ()) <;> rfl
theorem cap_loop (ls : List Lk) (hl : ls.length ≤ 60) (r : Int) (adv : Ad) (i : Nat) (nl : List Int) (hi' : i < nl.length) (x0 x1 : Int) : ∀ j k c, k + j = ls.length →
    Loop (g34_s0 ls r (adv, ((i : Int), (nl, ())))) (nl, ((x0, (x1, (c, ()))), ((k : Int), ()))) = some (nl, ((x0, (x1, (capOf (lo r (nl.getD i 0)) (hi r (nl.getD i 0)) c (ls.drop k), ()))), ()))
  | 0, k, c, hk => by
    have hk : k = ls.length := by omega
    subst hk
    rw [Loop_step, List.drop_length]
    unfold g34_s0
    simp only [Int.ofNat_eq_natCast]
    rw [decide_eq_false (show ¬ (ls.length : Int) < (ls.length : Int) by omega)]
    rfl
  | j + 1, k, c, hk => by
    have hlt : k < ls.length := by omega
    have e2 : IntKind.wrap .i64 ((k : Int) + 1) = ((k + 1 : Nat) : Int) := by rw [wi64 (by omega) (by omega)]; omega
    have hs : g34_s0 ls r (adv, ((i : Int), (nl, ()))) (nl, ((x0, (x1, (c, ()))), ((k : Int), ()))) = some (.inl (nl, ((x0, (x1, (bif decide ((ls.getD k zL).1 = lo r (nl.getD i 0)) && decide ((ls.getD k zL).2.1 = hi r (nl.getD i 0)) then (ls.getD k zL).2.2.2.2.1 else c, ()))), (((k + 1 : Nat) : Int), ())))) := by
      unfold g34_s0
      simp only [Int.ofNat_eq_natCast, Int.toNat_natCast, e2]
      rw [decide_eq_true (show (k : Int) < (ls.length : Int) by omega), decide_eq_true (show (0 : Int) ≤ (k : Int) by omega), decide_eq_true (show (0 : Int) ≤ (i : Int) by omega), decide_eq_true (show (i : Int) < (nl.length : Int) by omega), show Nat.blt i nl.length = true from Nat.ble_eq_true_of_le hi']
      have d1 : decide ((ls.getD k (0, 0, 0, 0, 0, ())).1 = bif decide (nl.getD i 0 < r) then nl.getD i 0 else r) = decide ((ls.getD k zL).1 = lo r (nl.getD i 0)) := rfl
      have d2 : decide ((ls.getD k (0, 0, 0, 0, 0, ())).2.1 = bif decide (r < nl.getD i 0) then nl.getD i 0 else r) = decide ((ls.getD k zL).2.1 = hi r (nl.getD i 0)) := rfl
      rw [d1, d2]
      cases decide ((ls.getD k zL).1 = lo r (nl.getD i 0)) with
      | false => rfl
      | true => cases decide ((ls.getD k zL).2.1 = hi r (nl.getD i 0)) <;> rfl
    rw [Loop_step, hs]
    have ih := cap_loop ls hl r adv i nl hi' x0 x1 j (k + 1) (bif decide ((ls.getD k zL).1 = lo r (nl.getD i 0)) && decide ((ls.getD k zL).2.1 = hi r (nl.getD i 0)) then (ls.getD k zL).2.2.2.2.1 else c) (by omega)
    have hd : capOf (lo r (nl.getD i 0)) (hi r (nl.getD i 0)) c (ls.drop k) = capOf (lo r (nl.getD i 0)) (hi r (nl.getD i 0)) (bif decide ((ls.getD k zL).1 = lo r (nl.getD i 0)) && decide ((ls.getD k zL).2.1 = hi r (nl.getD i 0)) then (ls.getD k zL).2.2.2.2.1 else c) (ls.drop (k + 1)) := by
      rw [List.drop_eq_getElem_cons hlt, getD_ix hlt]
      rfl
    rw [hd]
    exact ih
theorem g34_ok (a0 : (List (Int × (Bool × Unit)))) (a1 : (List (Int × (Int × (Int × (Int × (Int × Unit))))))) (a2 : Int) (a3 : Int) (a4 : (List (Int × (Int × (Int × Unit))))) (r0 : (Ty.sl (rtT)).ok a0) (r1 : (Ty.sl (lkT)).ok a1) (r2 : IntKind.i64.has a2) (r3 : IntKind.i64.has a3) (r4 : (Ty.sl (rc)).ok a4) : g34 a0 a1 a2 a3 a4 = some (Sp07.advOf (a0, a1, ()) a2 a3 a4, ()) := by
  have h1 := len_rt r0
  have h2 := len_lk r1
  have key : ∀ (c : Bool) (nl : List Int), nl.length ≤ 24 → a1.length ≤ 60 → ∀ j k, k + j = nl.length → Loop (g34_s1 a1 a2) ((a2, (a3, (c, ((nl.take k).map (reachF a1 a2), (a4, ()))))), ((k : Int), (nl, ()))) = some ((a2, (a3, (c, (nl.map (reachF a1 a2), (a4, ()))))), ()) := by
    intro c nl hnl h60 j
    induction j with
    | zero =>
      intro k hk
      have hk : k = nl.length := by omega
      subst hk
      rw [Loop_step, List.take_length]
      unfold g34_s1
      simp only [Int.ofNat_eq_natCast]
      rw [decide_eq_false (show ¬ (nl.length : Int) < (nl.length : Int) by omega)]
      rfl
    | succ j ih =>
      intro k hk
      have hlt : k < nl.length := by omega
      have e2 : IntKind.wrap .i64 ((k : Int) + 1) = ((k + 1 : Nat) : Int) := by rw [wi64 (by omega) (by omega)]; omega
      have ht : (nl.take (k + 1)).map (reachF a1 a2) = (nl.take k).map (reachF a1 a2) ++ [reachF a1 a2 (nl.getD k 0)] := by
        rw [List.take_succ_eq_append_getElem hlt, List.map_append, getD_ix hlt]
        rfl
      have hs : g34_s1 a1 a2 ((a2, (a3, (c, ((nl.take k).map (reachF a1 a2), (a4, ()))))), ((k : Int), (nl, ()))) = some (.inl ((a2, (a3, (c, ((nl.take (k + 1)).map (reachF a1 a2), (a4, ()))))), (((k + 1 : Nat) : Int), (nl, ())))) := by
        rw [ht]
        unfold g34_s1
        have hcl := cap_loop a1 h60 a2 (a2, (a3, (c, ((nl.take k).map (reachF a1 a2), (a4, ()))))) k nl hlt (nl.getD k 0) (price a1 a2 (nl.getD k 0)).1 a1.length 0 0 (by omega)
        have hcl : Loop (g34_s0 a1 a2 ((a2, (a3, (c, ((nl.take k).map (reachF a1 a2), (a4, ()))))), ((k : Int), (nl, ())))) (nl, ((nl.getD k 0, ((price a1 a2 (nl.getD k 0)).1, ((0 : Int), ()))), ((0 : Int), ()))) = _ := hcl
        simp only [Int.ofNat_eq_natCast, Int.toNat_natCast, e2]
        rw [decide_eq_true (show (k : Int) < (nl.length : Int) by omega), decide_eq_true (show (0 : Int) ≤ (k : Int) by omega), show Nat.blt k nl.length = true from Nat.ble_eq_true_of_le hlt, hcl, show Nat.ble ((((nl.take k).map (reachF a1 a2)).length + 1) * 24) 140737488355328 = true from Nat.ble_eq_true_of_le (by rw [List.length_map, List.length_take]; omega)]
        rfl
      rw [Loop_step, hs]
      exact ih (k + 1) (by omega)
  unfold g34 advOf hasT
  cases ho : okT (a0, a1, ()) with
  | false =>
    unfold okT at ho
    rw [ho]
    rfl
  | true =>
    obtain ⟨p1, p2, -⟩ := ok_parts ho
    have hnl : (near (a0, a1, ()) a2).length ≤ 24 := by
      unfold near
      rw [List.length_map]
      exact Nat.le_trans (List.length_filter_le _ _) p1
    have hk := key (capR a0 a2) (near (a0, a1, ()) a2) hnl p2 (near (a0, a1, ()) a2).length 0 (by omega)
    have hk : Loop (g34_s1 a1 a2) ((a2, (a3, (capR a0 a2, ([], (a4, ()))))), ((0 : Int), (near (a0, a1, ()) a2, ()))) = _ := hk
    have hr := reach_eq ho a2
    have hcap : capT (a0, a1, ()) a2 = capR a0 a2 := by unfold capT; rw [ho]; rfl
    unfold okT at ho
    rw [ho, hcap, hk]
    have hr : (near (a0, a1, ()) a2).map (reachF a1 a2) = a1.flatMap (reachOf a2) := hr
    rw [hr]
    simp only [Bool.true_and, Bool.not_true, cond_false]
    cases Sp07.hasR a0 a2 with
    | false => rfl
    | true =>
      simp only [Bool.not_true, cond_false, cond_true, Option.bind_some]
      cases validA (a2, a3, capR a0 a2, a1.flatMap (reachOf a2), a4, ()) <;> rfl
end Go.Abs.C07

namespace Go.Abs.C07
open Go Go.Proofs Sp07
set_option maxRecDepth 100000

theorem take_tw {α : Type} (p : α → Bool) : ∀ l : List α, l.take (l.takeWhile p).length = l.takeWhile p
  | [] => rfl
  | x :: r => by
    rw [List.takeWhile_cons]
    cases p x with
    | true => 
      simp only [if_true, List.length_cons, List.take_succ_cons]
      rw [take_tw p r]
    | false => rfl
theorem drop_tw {α : Type} (p : α → Bool) : ∀ l : List α, l.drop (l.takeWhile p).length = l.dropWhile p
  | [] => rfl
  | x :: r => by
    rw [List.takeWhile_cons, List.dropWhile_cons]
    cases p x with
    | true =>
      simp only [if_true, List.length_cons, List.drop_succ_cons]
      rw [drop_tw p r]
    | false => rfl
theorem tw_le {α : Type} (p : α → Bool) (l : List α) : (l.takeWhile p).length ≤ l.length := by
  have := congrArg List.length (take_tw p l)
  rw [List.length_take] at this
  omega
theorem at_loop (a0 : List Lk) (i : Nat) (hi : i < a0.length) (out : List Lk) (ho : out.length ≤ 20000) (z : List Lk × Unit) : ∀ j k, k + j = out.length →
    Loop (g60_s0 a0 ((i : Int), z)) ((k : Int), (out, ())) = some (((k + ((out.drop k).takeWhile (fun y => lessL y (a0.getD i zL))).length : Nat) : Int), (out, ()))
  | 0, k, hk => by
    have hk : k = out.length := by omega
    subst hk
    rw [Loop_step, List.drop_length]
    unfold g60_s0
    simp only [Int.ofNat_eq_natCast]
    rw [decide_eq_false (show ¬ (out.length : Int) < (out.length : Int) by omega)]
    rfl
  | j + 1, k, hk => by
    have hlt : k < out.length := by omega
    have e2 : IntKind.wrap .i64 ((k : Int) + 1) = ((k + 1 : Nat) : Int) := by rw [wi64 (by omega) (by omega)]; omega
    have hs : g60_s0 a0 ((i : Int), z) ((k : Int), (out, ())) = bif lessL (out.getD k zL) (a0.getD i zL) then some (.inl (((k + 1 : Nat) : Int), (out, ()))) else some (.inr ((k : Int), (out, ()))) := by
      unfold g60_s0 lessL
      simp only [Int.ofNat_eq_natCast, Int.toNat_natCast, e2]
      rw [decide_eq_true (show (k : Int) < (out.length : Int) by omega), decide_eq_true (show (0 : Int) ≤ (k : Int) by omega), decide_eq_true (show (0 : Int) ≤ (i : Int) by omega), decide_eq_true (show (i : Int) < (a0.length : Int) by omega), show Nat.blt k out.length = true from Nat.ble_eq_true_of_le hlt]
      have d1 : decide ((out.getD k (0, 0, 0, 0, 0, ())).1 < (a0.getD i (0, 0, 0, 0, 0, ())).1) = decide ((out.getD k zL).1 < (a0.getD i zL).1) := rfl
      have d2 : decide ((out.getD k (0, 0, 0, 0, 0, ())).1 = (a0.getD i (0, 0, 0, 0, 0, ())).1) = decide ((out.getD k zL).1 = (a0.getD i zL).1) := rfl
      have d3 : decide ((out.getD k (0, 0, 0, 0, 0, ())).2.1 < (a0.getD i (0, 0, 0, 0, 0, ())).2.1) = decide ((out.getD k zL).2.1 < (a0.getD i zL).2.1) := rfl
      rw [d1, d2, d3]
      cases decide ((out.getD k zL).1 < (a0.getD i zL).1) with
      | true => rfl
      | false =>
        cases decide ((out.getD k zL).1 = (a0.getD i zL).1) with
        | false => rfl
        | true => cases decide ((out.getD k zL).2.1 < (a0.getD i zL).2.1) <;> rfl
    rw [Loop_step, hs, List.drop_eq_getElem_cons hlt, List.takeWhile_cons, getD_ix hlt]
    cases lessL out[k] (a0.getD i zL) with
    | false => rfl
    | true =>
      have ih := at_loop a0 i hi out ho z j (k + 1) (by omega)
      simp only [cond_true, if_true, List.length_cons]
      rw [ih]
      congr 2
      omega
theorem ins_len (x : Lk) (l : List Lk) : (ins x l).length = l.length + 1 := by
  unfold ins
  rw [List.length_append, List.length_cons, ← take_tw, ← drop_tw, List.length_take, List.length_drop]
  have := tw_le (fun y => lessL y x) l
  omega
theorem ordN_len (l : List Lk) : ∀ k, (ordN l k).length = k
  | 0 => rfl
  | k + 1 => by rw [ordN, ins_len, ordN_len l k]
theorem ord_len (l : List Lk) : (ord l).length = l.length := ordN_len l _
theorem g60_ok (a0 : (List (Int × (Int × (Int × (Int × (Int × Unit))))))) (r0 : (Ty.sl (lkT)).ok a0) (h : (decide (a0.length ≤ 10000)) = true) : g60 a0 = some (Sp07.ord a0, ()) := by
  have hl : a0.length ≤ 10000 := of_decide_eq_true h
  have key : ∀ j k, k + j = a0.length → Loop (g60_s1 a0) ((k : Int), (ordN a0 k, ())) = some (ord a0, ()) := by
    intro j
    induction j with
    | zero =>
      intro k hk
      have hk : k = a0.length := by omega
      subst hk
      rw [Loop_step]
      unfold g60_s1
      simp only [Int.ofNat_eq_natCast]
      rw [decide_eq_false (show ¬ (a0.length : Int) < (a0.length : Int) by omega)]
      rfl
    | succ j ih =>
      intro k hk
      have hlt : k < a0.length := by omega
      have e2 : IntKind.wrap .i64 ((k : Int) + 1) = ((k + 1 : Nat) : Int) := by rw [wi64 (by omega) (by omega)]; omega
      have hol := ordN_len a0 k
      have hs : g60_s1 a0 ((k : Int), (ordN a0 k, ())) = some (.inl (((k + 1 : Nat) : Int), (ordN a0 (k + 1), ()))) := by
        have hat := at_loop a0 k hlt (ordN a0 k) (by omega) (ordN a0 k, ()) (ordN a0 k).length 0 (by omega)
        have hat : Loop (g60_s0 a0 ((k : Int), (ordN a0 k, ()))) ((0 : Int), (ordN a0 k, ())) = some ((((((ordN a0 k).drop 0).takeWhile (fun y => lessL y (a0.getD k zL))).length + 0 : Nat) : Int), (ordN a0 k, ())) := by
          rw [Nat.add_comm]; exact hat
        rw [List.drop_zero, Nat.add_zero] at hat
        have hle := tw_le (fun y => lessL y (a0.getD k zL)) (ordN a0 k)
        have ht := take_tw (fun y => lessL y (a0.getD k zL)) (ordN a0 k)
        have hd := drop_tw (fun y => lessL y (a0.getD k zL)) (ordN a0 k)
        rw [ordN]
        unfold ins
        rw [← ht, ← hd]
        generalize ((ordN a0 k).takeWhile (fun y => lessL y (a0.getD k zL))).length = m at hat hle
        generalize ordN a0 k = out at hat hle hol ⊢
        unfold g60_s1
        simp only [Int.ofNat_eq_natCast, Int.toNat_natCast, e2]
        rw [decide_eq_true (show (k : Int) < (a0.length : Int) by omega), hat]
        simp only [Option.bind_some, Int.toNat_natCast, List.drop_zero, List.take_length, List.nil_append]
        rw [decide_eq_true (show (0 : Int) ≤ (m : Int) by omega), decide_eq_true (show (m : Int) ≤ (out.length : Int) by omega), decide_eq_true (show (0 : Int) ≤ (k : Int) by omega), decide_eq_true (show (out.length : Int) ≤ (out.length : Int) from Int.le_refl _),
          show Nat.ble ((0 + (out.take m).length) * 40) 140737488355328 = true from Nat.ble_eq_true_of_le (by rw [List.length_take]; omega), show Nat.ble (((out.take m).length + 1) * 40) 140737488355328 = true from Nat.ble_eq_true_of_le (by rw [List.length_take]; omega),
          show Nat.ble (((out.take m ++ [a0.getD k (0, 0, 0, 0, 0, ())]).length + (out.drop m).length) * 40) 140737488355328 = true from Nat.ble_eq_true_of_le (by rw [List.length_append, List.length_take, List.length_drop]; show (min m out.length + 1 + (out.length - m)) * 40 ≤ _; omega)]
        simp only [Bool.and_self, cond_true, List.append_assoc]
        rfl
      rw [Loop_step, hs]
      exact ih (k + 1) (by omega)
  have hk := key a0.length 0 (by omega)
  have hk : Loop (g60_s1 a0) (0, ([], ())) = _ := hk
  unfold g60
  rw [hk]
  rfl
theorem lkIn_wf {cost tree : Int} {skip : Bool} {b a : Int} {s : List Lk × Tp} (h : wf s.2 = true) : wf (linkIn cost tree skip b a s).2 = true ∧ (linkIn cost tree skip b a s).1.length ≤ s.1.length + 1 := by
  unfold linkIn
  simp only
  have hc : wf (bif decide (a = tree) && !skip then (true, s.2) else one s.2 3).2 = true := by
    cases (decide (a = tree) && !skip) with
    | true => exact h
    | false => exact one_wf (n := 3) h
  generalize (bif decide (a = tree) && !skip then (true, s.2) else one s.2 3) = c at hc ⊢
  cases c.1 with
  | true => exact ⟨next_wf (n := 4) (range_wf (a := 1) (b := cost) (range_wf (a := 1) (b := cost) hc)), by simp only [cond_true, List.length_append, List.length_cons, List.length_nil]; omega⟩
  | false => exact ⟨hc, by simp only [cond_false]; omega⟩
theorem row_wf {cost tree : Int} {skip : Bool} {b : Int} {s : List Lk × Tp} (h : wf s.2 = true) : ∀ k, wf (linksRow cost tree skip b s k).2 = true ∧ (linksRow cost tree skip b s k).1.length ≤ s.1.length + k
  | 0 => ⟨h, Nat.le_refl _⟩
  | k + 1 => by
    obtain ⟨h1, h2⟩ := row_wf (cost := cost) (tree := tree) (skip := skip) (b := b) h k
    obtain ⟨h3, h4⟩ := lkIn_wf (cost := cost) (tree := tree) (skip := skip) (b := b) (a := (k : Int) + 1) h1
    exact ⟨h3, Nat.le_trans h4 (by omega)⟩
theorem all_wf {cost : Int} {t : Tp} (h : wf t = true) : ∀ k, wf (linksAll cost t k).2 = true ∧ (linksAll cost t k).1.length ≤ k * (k + 1)
  | 0 => ⟨h, Nat.le_refl _⟩
  | k + 1 => by
    obtain ⟨h1, h2⟩ := all_wf (cost := cost) h k
    rw [linksAll]
    have h3 := one_wf (n := 9) (range_wf (a := 1) (b := (k : Int) + 1) h1)
    obtain ⟨h4, h5⟩ := row_wf (cost := cost) (tree := (range (linksAll cost t k).2 1 ((k : Int) + 1)).1) (skip := (one (range (linksAll cost t k).2 1 ((k : Int) + 1)).2 9).1) (b := (k : Int) + 2) (s := ((linksAll cost t k).1, (one (range (linksAll cost t k).2 1 ((k : Int) + 1)).2 9).2)) h3 (k + 1)
    refine ⟨h4, Nat.le_trans h5 ?_⟩
    simp only
    have : (k + 1) * (k + 1 + 1) = k * (k + 1) + 2 * (k + 1) := by rw [Nat.add_mul, Nat.mul_add k (k + 1) 1]; omega
    omega
end Go.Abs.C07

namespace Go.Abs.C07
open Go Go.Proofs Sp07
set_option maxRecDepth 100000

theorem on_w {α : Type} {t : Tp} (h : wf t = true) (x : α) : Sp07.on (wf t) x = some x := on_true h
theorem on_ws {α : Type} {t : Tp} (h : wf t = true) {n : Int} (hn : -2305843009213693952 ≤ n ∧ n ≤ 2305843009213693952) (x : α) : Sp07.on (wf t && small n) x = some x := on_true (by rw [h, small_iff.2 hn]; rfl)
theorem on_wss {α : Type} {t : Tp} (h : wf t = true) {a n : Int} (ha : -2305843009213693952 ≤ a ∧ a ≤ 2305843009213693952) (hn : -2305843009213693952 ≤ n ∧ n ≤ 2305843009213693952) (x : α) : Sp07.on (wf t && small a && small n) x = some x := on_true (by rw [h, small_iff.2 ha, small_iff.2 hn]; rfl)
theorem pick_mem (t : Tp) {l : List Int} (hl : 0 < l.length) : (Sp07.pick t l).1 ∈ l := by
  have hb := next_range (t := t) (n := (l.length : Int)) (by omega)
  show l.getD (next t l.length).1.toNat 0 ∈ l
  exact getD_mem (by omega)
theorem pick_cost (t : Tp) : 1 ≤ (Sp07.pick t [1, 2, 2, 5]).1 ∧ (Sp07.pick t [1, 2, 2, 5]).1 ≤ 5 := by
  have h := pick_mem t (l := [1, 2, 2, 5]) (by decide)
  simp only [List.mem_cons, List.not_mem_nil, or_false] at h
  omega
theorem routersN_succ (k : Nat) : routersN (k + 1) = routersN k ++ [((k : Int) + 1, true, ())] := by
  unfold routersN
  rw [List.range_succ, List.map_append]
  rfl
theorem routersN_len (k : Nat) : (routersN k).length = k := by
  unfold routersN; rw [List.length_map, List.length_range]

theorem loop30_0 (y4 : Int × Tp) (N : Nat) (hN : y4.1 = (N : Int)) (hle : N ≤ 50) (ls : List Lk × Unit) : ∀ j k, k + j = N →
    Loop (g30_s0 y4) ((routersN k, ls), (k : Int) + 1, ()) = some ((routersN N, ls), ())
  | 0, k, hk => by
    have hk : k = N := by omega
    subst hk
    rw [Loop_step]
    unfold g30_s0
    simp only [hN]
    rw [decide_eq_false (show ¬ (k : Int) + 1 ≤ (k : Int) by omega)]
    rfl
  | j + 1, k, hk => by
    have ih := loop30_0 y4 N hN hle ls j (k + 1) (by omega)
    have e2 : IntKind.wrap .i64 ((k : Int) + 1 + 1) = ((k + 1 : Nat) : Int) + 1 := by rw [wi64 (by omega) (by omega)]; omega
    rw [routersN_succ] at ih
    have hs : g30_s0 y4 ((routersN k, ls), (k : Int) + 1, ()) = some (.inl ((routersN k ++ [((k : Int) + 1, true, ())], ls), ((k + 1 : Nat) : Int) + 1, ())) := by
      unfold g30_s0
      simp only [hN, e2, routersN_len]
      rw [decide_eq_true (show (k : Int) + 1 ≤ (N : Int) by omega), show Nat.ble ((k + 1) * 16) 140737488355328 = true from Nat.ble_eq_true_of_le (by omega)]
      rfl
    rw [Loop_step, hs]
    exact ih

theorem step30_1 (c : Int × Tp) (st : Int × Tp × To × Unit) (tr : Int × Tp) (sk : Bool × Tp) (rs : List Rt) (hc : 1 ≤ c.1 ∧ c.1 ≤ 5) {a : Int} (ha : 0 ≤ a) (hab : a < st.1) (hb : st.1 ≤ 100)
    (s : List Lk × Tp) (hs : wf s.2 = true) (hl : s.1.length ≤ 20000) :
    g30_s1 c st tr sk (a, s.2, (rs, s.1, ()), ()) = some (.inl (a + 1, (linkIn c.1 tr.1 sk.1 st.1 a s).2, (rs, (linkIn c.1 tr.1 sk.1 st.1 a s).1, ()), ())) := by
  have e2 : IntKind.wrap .i64 (a + 1) = a + 1 := wi64 (by omega) (by omega)
  unfold g30_s1 linkIn
  simp only [e2]
  rw [decide_eq_true hab, on_ws hs (by decide)]
  have key : ∀ o : Bool × Tp, wf o.2 = true → (Option.bind (bif o.1 then (Option.bind (Sp07.on (wf o.2 && small 1 && small c.1) (range o.2 1 c.1)) fun y6 =>
        Option.bind (Sp07.on (wf y6.2 && small 1 && small c.1) (range y6.2 1 c.1)) fun y7 => Option.bind (Sp07.on (wf y7.2) (next y7.2 4)) fun y8 =>
        bif Nat.ble ((s.1.length + 1) * 40) 140737488355328 then some (y8.2, (rs, s.1 ++ [(a, st.1, y6.1, y7.1, y8.1, ())], ()), ()) else none) else some (o.2, (rs, s.1, ()), ()))
        fun y6 : Tp × To × Unit => some (Sum.inl (a + 1, y6)) : Option (Sum (Int × Tp × To × Unit) (Tp × To × Unit))) =
      some (.inl (a + 1, (bif o.1 then (s.1 ++ [(a, st.1, (range o.2 1 c.1).1, (range (range o.2 1 c.1).2 1 c.1).1, (next (range (range o.2 1 c.1).2 1 c.1).2 4).1, ())], (next (range (range o.2 1 c.1).2 1 c.1).2 4).2) else (s.1, o.2)).2,
        (rs, (bif o.1 then (s.1 ++ [(a, st.1, (range o.2 1 c.1).1, (range (range o.2 1 c.1).2 1 c.1).1, (next (range (range o.2 1 c.1).2 1 c.1).2 4).1, ())], (next (range (range o.2 1 c.1).2 1 c.1).2 4).2) else (s.1, o.2)).1, ()), ())) := by
    intro o ho
    have w1 := range_wf (a := 1) (b := c.1) ho
    have w2 := range_wf (a := 1) (b := c.1) w1
    cases o.1 with
    | false => rfl
    | true =>
      rw [on_wss ho (by decide) (by omega)]
      simp only [Option.bind_some, cond_true]
      rw [on_wss w1 (by decide) (by omega)]
      simp only [Option.bind_some, cond_true]
      rw [on_w w2, show Nat.ble ((s.1.length + 1) * 40) 140737488355328 = true from Nat.ble_eq_true_of_le (by omega)]
      rfl
  cases decide (a = tr.1) with
  | false => 
    have := key (one s.2 3) (one_wf (n := 3) hs)
    exact this
  | true =>
    cases sk.1 with
    | true =>
      have := key (one s.2 3) (one_wf (n := 3) hs)
      exact this
    | false =>
      have := key (true, s.2) hs
      exact this
theorem loop30_1 (c : Int × Tp) (st : Int × Tp × To × Unit) (tr : Int × Tp) (sk : Bool × Tp) (rs : List Rt) (hc : 1 ≤ c.1 ∧ c.1 ≤ 5) (m : Nat) (hm : st.1 = (m : Int) + 1) (hb : m ≤ 99)
    (s : List Lk × Tp) (hs : wf s.2 = true) (hl : s.1.length ≤ 10000) : ∀ j k, k + j = m →
    Loop (g30_s1 c st tr sk) ((k : Int) + 1, (linksRow c.1 tr.1 sk.1 st.1 s k).2, (rs, (linksRow c.1 tr.1 sk.1 st.1 s k).1, ()), ()) = some ((linksRow c.1 tr.1 sk.1 st.1 s m).2, (rs, (linksRow c.1 tr.1 sk.1 st.1 s m).1, ()), ())
  | 0, k, hk => by
    have hk : k = m := by omega
    subst hk
    rw [Loop_step]
    unfold g30_s1
    simp only
    rw [decide_eq_false (show ¬ (k : Int) + 1 < st.1 by omega)]
    rfl
  | j + 1, k, hk => by
    obtain ⟨w, l⟩ := row_wf (cost := c.1) (tree := tr.1) (skip := sk.1) (b := st.1) hs k
    rw [Loop_step, step30_1 c st tr sk rs hc (a := (k : Int) + 1) (by omega) (by omega) (by omega) _ w (by omega)]
    exact loop30_1 c st tr sk rs hc m hm hb s hs hl j (k + 1) (by omega)
theorem loop30_2 (y4 y6 : Int × Tp) (rs : List Rt) (hc : 1 ≤ y6.1 ∧ y6.1 ≤ 5) (N : Nat) (hN : y4.1 = (N : Int) + 1) (hle : N ≤ 49) (t : Tp) (ht : wf t = true) : ∀ j k, k + j = N →
    Loop (g30_s2 y4 y6) ((k : Int) + 2, (linksAll y6.1 t k).2, (rs, (linksAll y6.1 t k).1, ()), ()) = some ((linksAll y6.1 t N).2, (rs, (linksAll y6.1 t N).1, ()), ())
  | 0, k, hk => by
    have hk : k = N := by omega
    subst hk
    rw [Loop_step]
    unfold g30_s2
    simp only
    rw [decide_eq_false (show ¬ (k : Int) + 2 ≤ y4.1 by omega)]
    rfl
  | j + 1, k, hk => by
    have ih := loop30_2 y4 y6 rs hc N hN hle t ht j (k + 1) (by omega)
    obtain ⟨w, l⟩ := all_wf (cost := y6.1) ht k
    have hk2 : k * (k + 1) ≤ 49 * 50 := Nat.mul_le_mul (by omega) (by omega)
    have e1 : IntKind.wrap .i64 ((k : Int) + 2 - 1) = (k : Int) + 1 := by rw [wi64 (by omega) (by omega)]; omega
    have e2 : IntKind.wrap .i64 ((k : Int) + 2 + 1) = ((k + 1 : Nat) : Int) + 2 := by rw [wi64 (by omega) (by omega)]; omega
    have w1 := range_wf (a := 1) (b := (k : Int) + 1) w
    have w2 := one_wf (n := 9) w1
    have h1 := loop30_1 y6 ((k : Int) + 2, (linksAll y6.1 t k).2, (rs, (linksAll y6.1 t k).1, ()), ()) (range (linksAll y6.1 t k).2 1 ((k : Int) + 1)) (one (range (linksAll y6.1 t k).2 1 ((k : Int) + 1)).2 9) rs hc (k + 1) (by simp only; omega) (by omega)
      ((linksAll y6.1 t k).1, (one (range (linksAll y6.1 t k).2 1 ((k : Int) + 1)).2 9).2) w2 (by simp only; omega) (k + 1) 0 (by omega)
    rw [linksRow] at h1
    have h1' : Loop _ ((1 : Int), _) = _ := h1
    have hs : g30_s2 y4 y6 ((k : Int) + 2, (linksAll y6.1 t k).2, (rs, (linksAll y6.1 t k).1, ()), ()) = some (.inl (((k + 1 : Nat) : Int) + 2, (linksAll y6.1 t (k + 1)).2, (rs, (linksAll y6.1 t (k + 1)).1, ()), ())) := by
      unfold g30_s2
      simp only [e1, e2]
      rw [decide_eq_true (show (k : Int) + 2 ≤ y4.1 by omega), on_wss w (by decide) (by omega)]
      simp only [Option.bind_some, cond_true]
      rw [on_ws w1 (by decide)]
      simp only [Option.bind_some]
      rw [h1']
      rfl
    rw [Loop_step, hs]
    exact ih
end Go.Abs.C07

namespace Go.Abs.C07
open Go Go.Proofs Sp07
set_option maxRecDepth 100000

theorem manyR_len (l : List Rt) : ∀ k, (manyR k l).length = l.length + k
  | 0 => rfl
  | k + 1 => by rw [manyR, List.length_append, manyR_len l k]; rfl
theorem loop30_3 (l : List Rt) (hl : l.length ≤ 1000) (ls : List Lk × Unit) : ∀ j k, k + j = 25 →
    Loop g30_s3 ((manyR k l, ls), (50 : Int) + k, ()) = some ((manyR 25 l, ls), ())
  | 0, k, hk => by
    have hk : k = 25 := by omega
    subst hk
    rw [Loop_step]
    rfl
  | j + 1, k, hk => by
    have ih := loop30_3 l hl ls j (k + 1) (by omega)
    have e2 : IntKind.wrap .i64 ((50 : Int) + k + 1) = (50 : Int) + ((k + 1 : Nat) : Int) := by rw [wi64 (by omega) (by omega)]; omega
    have hs : g30_s3 ((manyR k l, ls), (50 : Int) + k, ()) = some (.inl ((manyR (k + 1) l, ls), (50 : Int) + ((k + 1 : Nat) : Int), ())) := by
      unfold g30_s3
      simp only [e2, manyR_len]
      rw [decide_eq_true (show (50 : Int) + k < 75 by omega), show Nat.ble ((l.length + k + 1) * 16) 140737488355328 = true from Nat.ble_eq_true_of_le (by omega)]
      rfl
    rw [Loop_step, hs]
    exact ih
theorem g30_ok (a0 : (List Int)) (a1 : Int) (a2 : Int) (a3 : Int) (r0 : (Ty.sl (.int .i64)).ok a0) (r1 : IntKind.i64.has a1) (r2 : IntKind.i64.has a2) (r3 : IntKind.i64.has a3) (h : (Sp07.wf (a0, a1, ()) && Sp07.inside a2 1 50 && Sp07.small a3) = true) : g30 a0 a1 a2 a3 = some (Sp07.topo (a0, a1, ()) a2 a3) := by
  simp only [Bool.and_eq_true, inside_iff, small_iff] at h
  obtain ⟨⟨hw, h1, h2⟩, hs1, hs2⟩ := h
  have w1 := range_wf (a := 1) (b := a2) hw
  have b1 := range_in (t := (a0, a1, ())) (a := 1) (b := a2) h1
  unfold g30 topo
  rw [on_wss hw (by decide) (by omega)]
  simp only [Option.bind_some]
  generalize range (a0, a1, ()) 1 a2 = k at w1 b1 ⊢
  obtain ⟨N, hN⟩ : ∃ N : Nat, k.1 = (N : Int) + 1 := ⟨(k.1 - 1).toNat, by omega⟩
  have h0 : Loop (g30_s0 k) (([], [], ()), (1 : Int), ()) = some ((routersN (N + 1), [], ()), ()) := loop30_0 k (N + 1) (by omega) (by omega) ([], ()) (N + 1) 0 (by omega)
  rw [h0]
  simp only [Option.bind_some]
  rw [on_true (show (wf k.2 && decide (0 < 4) && decide (4 ≤ 1000)) = true by rw [w1]; rfl)]
  simp only [Option.bind_some]
  have w2 := pick_wf (l := [1, 2, 2, 5]) w1
  have b2 := pick_cost k.2
  generalize Sp07.pick k.2 [1, 2, 2, 5] = c at w2 b2 ⊢
  have h2 : Loop (g30_s2 k c) ((2 : Int), c.2, (routersN (N + 1), [], ()), ()) = some ((linksAll c.1 c.2 N).2, (routersN (N + 1), (linksAll c.1 c.2 N).1, ()), ()) := loop30_2 k c (routersN (N + 1)) b2 N hN (by omega) c.2 w2 N 0 (by omega)
  rw [h2]
  simp only [Option.bind_some]
  obtain ⟨w3, l3⟩ := all_wf (cost := c.1) w2 N
  have hN2 : N * (N + 1) ≤ 49 * 50 := Nat.mul_le_mul (by omega) (by omega)
  rw [show k.1.toNat - 1 = N by omega, show k.1.toNat = N + 1 by omega]
  generalize linksAll c.1 c.2 N = s at w3 l3 ⊢
  rw [on_true (decide_eq_true (show s.1.length ≤ 10000 by omega))]
  simp only [Option.bind_some]
  have lo := ord_len s.1
  have lr := routersN_len (N + 1)
  generalize ord s.1 = ls at lo ⊢
  generalize routersN (N + 1) = rs at lr ⊢
  by_cases ha : 0 < a3
  · rw [decide_eq_true (show a3 > 0 from ha)]
    simp only [cond_true]
    rw [on_ws w3 (by omega)]
    simp only [Option.bind_some]
    have w4 := one_wf (n := a3) w3
    generalize one s.2 a3 = o at w4 ⊢
    cases o.1 with
    | false => rfl
    | true =>
      simp only [cond_true]
      rw [on_w w4]
      simp only [Option.bind_some]
      unfold spoilT
      simp only
      have w5 := next_wf (n := 7) w4
      generalize next o.2 7 = m at w5 ⊢
      have b16 : Nat.ble ((rs.length + 1) * 16) 140737488355328 = true := Nat.ble_eq_true_of_le (by omega)
      have b40 : Nat.ble ((ls.length + 1) * 40) 140737488355328 = true := Nat.ble_eq_true_of_le (by omega)
      have gt : decide ((Int.ofNat ls.length) > (0 : Int)) = decide (0 < ls.length) := by
        by_cases hz : 0 < ls.length
        · rw [decide_eq_true hz]; exact decide_eq_true (by show (0 : Int) < (ls.length : Int); omega)
        · rw [decide_eq_false hz]; exact decide_eq_false (by show ¬ (0 : Int) < (ls.length : Int); omega)
      have nb := next_range (t := m.2) (n := (ls.length : Int))
      have w6 := next_wf (n := (ls.length : Int)) w5
      by_cases m0 : m.1 = 0
      · simp only [decide_eq_true m0, cond_true]
        rw [on_true (show (wf m.2 && decide (0 < 5) && decide (5 ≤ 1000)) = true by rw [w5]; rfl)]
        simp only [Option.bind_some, b16]
        rfl
      · simp only [decide_eq_false m0, cond_false]
        by_cases m1 : m.1 = 1
        · simp only [decide_eq_true m1, cond_true]
          rw [on_w w5]
          simp only [Option.bind_some]
          rw [on_w (next_wf (n := 4) w5)]
          simp only [Option.bind_some, b40]
          rfl
        · simp only [decide_eq_false m1, cond_false]
          by_cases m6 : m.1 = 2 ∨ m.1 = 3 ∨ m.1 = 4 ∨ m.1 = 5
          · by_cases hz : 0 < ls.length
            · have nb := nb (by omega)
              rw [decide_eq_true hz] at gt
              have gt' : decide ((ls.length : Int) > 0) = true := gt
              have g1 : decide ((0 : Int) ≤ (next m.2 (ls.length : Int)).1) = true := decide_eq_true nb.1
              have g2 : decide ((next m.2 (ls.length : Int)).1 < (ls.length : Int)) = true := decide_eq_true nb.2
              have g3 : Nat.blt (next m.2 (ls.length : Int)).1.toNat ls.length = true := Nat.ble_eq_true_of_le (show _ + 1 ≤ _ by omega)
              rcases m6 with e | e | e | e
              all_goals
                simp only [e, decide_eq_true hz, gt, gt', decide_true, cond_true, cond_false, Int.ofNat_eq_natCast, Option.bind_some, on_w w5, on_w w6, g1, g2, g3, b40, Bool.and_self]
                rfl
            · rw [decide_eq_false hz] at gt
              rcases m6 with e | e | e | e
              all_goals
                simp only [e, decide_eq_false hz, gt, decide_true, cond_true, cond_false]
                rfl
          · have l3 := loop30_3 rs (by omega) (ls, ()) 25 0 (by omega)
            have l3 : Loop g30_s3 ((rs, ls, ()), (50 : Int), ()) = some ((manyR 25 rs, ls, ()), ()) := l3
            rw [decide_eq_false (show ¬ m.1 = 2 by omega), decide_eq_false (show ¬ m.1 = 3 by omega), decide_eq_false (show ¬ m.1 = 4 by omega), decide_eq_false (show ¬ m.1 = 5 by omega)]
            simp only [cond_false]
            rw [l3]
            rfl
  · rw [decide_eq_false (show ¬ a3 > 0 from ha)]
    rfl
end Go.Abs.C07

namespace Go.Abs.C07
open Go Go.Proofs Sp07
set_option maxRecDepth 100000

theorem spoilT_wf {g : To} {t : Tp} (h : wf t = true) : wf (spoilT g t).2 = true ∧ (spoilT g t).1.1.length ≤ g.1.length + 25 := by
  have w := next_wf (n := 7) h
  unfold spoilT
  simp only
  generalize next t 7 = m at w ⊢
  cases decide (m.1 = 0) with
  | true => exact ⟨pick_wf (l := [0, 1, 99, 100, -1]) w, by simp only [cond_true, List.length_append, List.length_cons, List.length_nil]; omega⟩
  | false =>
  cases decide (m.1 = 1) with
  | true => exact ⟨next_wf (n := 4) (next_wf (n := 4) w), by simp only [cond_true, cond_false]; omega⟩
  | false =>
  have w6 := next_wf (n := (g.2.1.length : Int)) w
  cases decide (m.1 = 2) with
  | true => cases decide (0 < g.2.1.length) with
    | true => exact ⟨wild_wf w6, by simp only [cond_true, cond_false]; omega⟩
    | false => exact ⟨w, by simp only [cond_true, cond_false]; omega⟩
  | false =>
  cases decide (m.1 = 3) with
  | true => cases decide (0 < g.2.1.length) with
    | true => exact ⟨wild_wf w6, by simp only [cond_true, cond_false]; omega⟩
    | false => exact ⟨w, by simp only [cond_true, cond_false]; omega⟩
  | false =>
  cases decide (m.1 = 4) with
  | true => cases decide (0 < g.2.1.length) with
    | true => exact ⟨wild_wf w6, by simp only [cond_true, cond_false]; omega⟩
    | false => exact ⟨w, by simp only [cond_true, cond_false]; omega⟩
  | false =>
  cases decide (m.1 = 5) with
  | true => cases decide (0 < g.2.1.length) with
    | true => exact ⟨w6, by simp only [cond_true, cond_false]; omega⟩
    | false => exact ⟨w, by simp only [cond_true, cond_false]; omega⟩
  | false => exact ⟨w, by simp only [cond_false, manyR_len]; omega⟩
theorem topo_wf {t : Tp} {a n : Int} (hw : wf t = true) (ha : 1 ≤ a ∧ a ≤ 50) : wf (topo t a n).2 = true ∧ (topo t a n).1.1.length ≤ 75 := by
  have w1 := range_wf (a := 1) (b := a) hw
  have b1 := range_in (t := t) (a := 1) (b := a) ha.1
  have w2 := pick_wf (l := [1, 2, 2, 5]) w1
  have w3 := (all_wf (cost := (Sp07.pick (range t 1 a).2 [1, 2, 2, 5]).1) w2 ((range t 1 a).1.toNat - 1)).1
  have lr := routersN_len (range t 1 a).1.toNat
  unfold topo
  simp only
  generalize linksAll (Sp07.pick (range t 1 a).2 [1, 2, 2, 5]).1 (Sp07.pick (range t 1 a).2 [1, 2, 2, 5]).2 ((range t 1 a).1.toNat - 1) = s at w3 ⊢
  generalize routersN (range t 1 a).1.toNat = rs at lr ⊢
  cases decide (0 < n) with
  | false => exact ⟨w3, by simp only [cond_false]; omega⟩
  | true =>
    have w4 := one_wf (n := n) w3
    simp only [cond_true]
    generalize one s.2 n = o at w4 ⊢
    cases o.1 with
    | false => exact ⟨w4, by simp only [cond_false]; omega⟩
    | true =>
      have h := spoilT_wf (g := (rs, ord s.1, ())) w4
      exact ⟨h.1, Nat.le_trans h.2 (by simp only; omega)⟩
theorem mixN_wf {l : List Rt} {t : Tp} (h : wf t = true) : ∀ k, wf (mixN l t k).2 = true ∧ (mixN l t k).1.length = l.length
  | 0 => ⟨h, rfl⟩
  | k + 1 => by
    obtain ⟨w, e⟩ := mixN_wf (l := l) h k
    rw [mixN]
    exact ⟨one_wf (n := 3) w, by rw [List.length_set]; exact e⟩
theorem mixed_wf {t : Tp} {a : Int} (hw : wf t = true) (ha : 1 ≤ a ∧ a ≤ 50) : wf (mixed t a).2 = true ∧ (mixed t a).1.1.length ≤ 75 := by
  obtain ⟨w, l⟩ := topo_wf (n := 0) hw ha
  obtain ⟨w2, l2⟩ := mixN_wf (l := (topo t a 0).1.1) w (topo t a 0).1.1.length
  exact ⟨w2, Nat.le_trans (Nat.le_of_eq l2) l⟩
theorem router_wf {t : Tp} {g : To} {n : Int} (hw : wf t = true) : wf (routerT t g n).2 = true := by
  unfold routerT
  simp only
  have h : wf (bif decide (0 < n) then one t n else (false, t)).2 = true := by
    cases decide (0 < n) with
    | true => exact one_wf (n := n) hw
    | false => exact hw
  generalize (bif decide (0 < n) then one t n else (false, t)) = o at h ⊢
  cases o.1 || decide (g.1.length = 0) with
  | true => exact pick_wf (l := [0, 1, 2, 7, 77, -1]) h
  | false => exact next_wf (n := (g.1.length : Int)) h
theorem loop31 (l : List Rt) (t : Tp) (ht : wf t = true) (hl : l.length ≤ 1000) (ls : List Lk × Unit) : ∀ j k, k + j = l.length →
    Loop g31_s0 ((k : Int), (mixN l t k).2, ((mixN l t k).1, ls), ()) = some ((mixN l t l.length).2, ((mixN l t l.length).1, ls), ())
  | 0, k, hk => by
    have hk : k = l.length := by omega
    subst hk
    have e := (mixN_wf (l := l) ht l.length).2
    rw [Loop_step]
    unfold g31_s0
    simp only [Int.ofNat_eq_natCast, e]
    rw [decide_eq_false (show ¬ (l.length : Int) < (l.length : Int) by omega)]
    rfl
  | j + 1, k, hk => by
    have ih := loop31 l t ht hl ls j (k + 1) (by omega)
    obtain ⟨w, e⟩ := mixN_wf (l := l) ht k
    have e2 : IntKind.wrap .i64 ((k : Int) + 1) = ((k + 1 : Nat) : Int) := by rw [wi64 (by omega) (by omega)]; omega
    have hs : g31_s0 ((k : Int), (mixN l t k).2, ((mixN l t k).1, ls), ()) = some (.inl (((k + 1 : Nat) : Int), (mixN l t (k + 1)).2, ((mixN l t (k + 1)).1, ls), ())) := by
      unfold g31_s0
      simp only [Int.ofNat_eq_natCast, e, e2, Int.toNat_natCast]
      rw [decide_eq_true (show (k : Int) < (l.length : Int) by omega), on_ws w (by decide), decide_eq_true (show (0 : Int) ≤ (k : Int) by omega), show Nat.blt k l.length = true from Nat.ble_eq_true_of_le (by omega)]
      rfl
    rw [Loop_step, hs]
    exact ih
theorem g31_ok (a0 : (List Int)) (a1 : Int) (a2 : Int) (r0 : (Ty.sl (.int .i64)).ok a0) (r1 : IntKind.i64.has a1) (r2 : IntKind.i64.has a2) (h : (Sp07.wf (a0, a1, ()) && Sp07.inside a2 1 50) = true) : g31 a0 a1 a2 = some (Sp07.mixed (a0, a1, ()) a2) := by
  simp only [Bool.and_eq_true, inside_iff] at h
  obtain ⟨w, l⟩ := topo_wf (n := 0) h.1 h.2
  unfold g31 mixed
  rw [on_true (show (wf (a0, a1, ()) && inside a2 1 50 && small 0) = true by rw [h.1, inside_iff.2 h.2]; rfl)]
  simp only [Option.bind_some]
  generalize topo (a0, a1, ()) a2 0 = g at w l ⊢
  have hl : Loop g31_s0 ((0 : Int), g.2, g.1, ()) = some ((mixN g.1.1 g.2 g.1.1.length).2, ((mixN g.1.1 g.2 g.1.1.length).1, g.1.2), ()) := loop31 g.1.1 g.2 w (by omega) g.1.2 g.1.1.length 0 (by omega)
  rw [hl]
  rfl
theorem g32_ok (a0 : (List Int)) (a1 : Int) (a2 : (List (Int × (Bool × Unit)))) (a3 : (List (Int × (Int × (Int × (Int × (Int × Unit))))))) (a4 : Int) (r0 : (Ty.sl (.int .i64)).ok a0) (r1 : IntKind.i64.has a1) (r2 : (Ty.sl (rtT)).ok a2) (r3 : (Ty.sl (lkT)).ok a3) (r4 : IntKind.i64.has a4) (h : (Sp07.wf (a0, a1, ()) && Sp07.small a4 && decide (a2.length ≤ 1000)) = true) : g32 a0 a1 a2 a3 a4 = some (Sp07.routerT (a0, a1, ()) (a2, a3, ()) a4) := by
  simp only [Bool.and_eq_true, small_iff, decide_eq_true_eq] at h
  obtain ⟨⟨hw, hs⟩, hl⟩ := h
  have dl : decide ((Int.ofNat a2.length) = (0 : Int)) = decide (a2.length = 0) := by
    by_cases hz : a2.length = 0
    · rw [decide_eq_true hz]; exact decide_eq_true (by rw [Int.ofNat_eq_natCast]; omega)
    · rw [decide_eq_false hz]; exact decide_eq_false (by rw [Int.ofNat_eq_natCast]; omega)
  unfold g32 routerT
  simp only
  have key : ∀ o : Bool × Tp, wf o.2 = true → (bif (o.1 || decide (a2.length = 0)) then (Option.bind (Sp07.on (wf o.2 && decide (0 < 6) && decide (6 ≤ 1000)) (Sp07.pick o.2 [0, 1, 2, 7, 77, -1])) fun y6 => some y6) else
      (Option.bind (Sp07.on (wf o.2) (next o.2 (Int.ofNat a2.length))) fun y6 => bif decide ((0 : Int) ≤ y6.1) && decide (y6.1 < Int.ofNat a2.length) then some ((List.getD a2 (Int.toNat y6.1) ((0 : Int), (false, ()))).1, y6.2) else none)) =
      some (bif o.1 || decide (a2.length = 0) then Sp07.pick o.2 [0, 1, 2, 7, 77, -1] else ((a2.getD (next o.2 a2.length).1.toNat zR).1, (next o.2 a2.length).2)) := by
    intro o ho
    cases hc : o.1 || decide (a2.length = 0) with
    | true => rw [on_true (show (wf o.2 && decide (0 < 6) && decide (6 ≤ 1000)) = true by rw [ho]; rfl)]; rfl
    | false =>
      have hz : ¬ a2.length = 0 := of_decide_eq_false (Bool.or_eq_false_iff.1 hc).2
      have nb := next_range (t := o.2) (n := (a2.length : Int)) (by omega)
      rw [on_w ho]
      simp only [Option.bind_some, cond_false, Int.ofNat_eq_natCast, decide_eq_true nb.1, decide_eq_true nb.2]
      rfl
  by_cases ha : 0 < a4
  · rw [decide_eq_true (show a4 > 0 from ha), on_ws hw hs]
    simp only [Option.bind_some, cond_true, dl]
    have hk := key (one (a0, a1, ()) a4) (one_wf (n := a4) hw)
    generalize one (a0, a1, ()) a4 = o at hk ⊢
    obtain ⟨b, t⟩ := o
    cases b with
    | true => exact hk
    | false => exact hk
  · rw [decide_eq_false (show ¬ a4 > 0 from ha)]
    simp only [Option.bind_some, cond_false, dl]
    exact key (false, (a0, a1, ())) hw
end Go.Abs.C07

namespace Go.Abs.C07
open Go Go.Proofs
theorem ok94 : FunOk Try.prog B 94 c94 := glue L0 gam_nil plan94 Try.func94 (by kernel_rfl) (by
  rintro ⟨⟨⟩, a0, ⟨⟩⟩ y r h
  obtain ⟨h1, h2⟩ := Sp07.on_some h
  subst h2
  exact (g94_eq a0).trans (g94_ok a0 r.2.1 h1))
theorem all94 : ∀ g con, lookC L94 g = some con → FunOk Try.prog B (g % 1000000) con := gam_cons rfl ok94 gam_nil

theorem ok51 : FunOk Try.prog B 51 c51 := glue L94 all94 plan51 Try.func51 (by kernel_rfl) (by
  rintro ⟨⟨⟩, a0, a1, ⟨⟩⟩ y r h
  obtain ⟨h1, h2⟩ := Sp07.on_some h
  subst h2
  exact (g51_eq a0 a1).trans (g51_ok a0 a1 r.2.1 r.2.2.1 h1))
theorem all51 : ∀ g con, lookC L51 g = some con → FunOk Try.prog B (g % 1000000) con := gam_cons rfl ok51 all94

theorem ok71 : FunOk Try.prog B 71 c71 := glue L51 all51 plan71 Try.func71 (by kernel_rfl) (by
  rintro ⟨⟨⟩, ⟨a0, a1, ⟨⟩⟩, a2, ⟨⟩⟩ y r h
  obtain ⟨h1, h2⟩ := Sp07.on_some h
  subst h2
  exact (g71_eq a0 a1 a2).trans (g71_ok a0 a1 a2 r.2.1.1 r.2.1.2.1 r.2.2.1 h1))
theorem all71 : ∀ g con, lookC L71 g = some con → FunOk Try.prog B (g % 1000000) con := gam_cons rfl ok71 all51

theorem ok70 : FunOk Try.prog B 70 c70 := glue L71 all71 plan70 Try.func70 (by kernel_rfl) (by
  rintro ⟨⟨⟩, ⟨a0, a1, ⟨⟩⟩, ⟨⟩⟩ y r h
  exact (g70_eq a0 a1).trans ((g70_ok a0 a1 r.2.1.1 r.2.1.2.1).trans h))
theorem all70 : ∀ g con, lookC L70 g = some con → FunOk Try.prog B (g % 1000000) con := gam_cons rfl ok70 all71

theorem ok50 : FunOk Try.prog B 50 c50 := glue L70 all70 plan50 Try.func50 (by kernel_rfl) (by
  rintro ⟨⟨⟩, ⟨a0, a1, ⟨⟩⟩, ⟨⟩⟩ y r h
  exact (g50_eq a0 a1).trans ((g50_ok a0 a1 r.2.1.1 r.2.1.2.1).trans h))
theorem all50 : ∀ g con, lookC L50 g = some con → FunOk Try.prog B (g % 1000000) con := gam_cons rfl ok50 all70

theorem ok45 : FunOk Try.prog B 45 c45 := glue L50 all50 plan45 Try.func45 (by kernel_rfl) (by
  rintro ⟨⟨a0, a1, ⟨⟩⟩, ⟨⟩⟩ y r h
  obtain ⟨h1, h2⟩ := Sp07.on_some h
  subst h2
  exact (g45_eq a0 a1).trans (g45_ok a0 a1 r.1.1 r.1.2.1 h1))
theorem all45 : ∀ g con, lookC L45 g = some con → FunOk Try.prog B (g % 1000000) con := gam_cons rfl ok45 all50

theorem ok44 : FunOk Try.prog B 44 c44 := glue L45 all45 plan44 Try.func44 (by kernel_rfl) (by
  rintro ⟨⟨⟩, a0, a1, ⟨⟩⟩ y r h
  exact (g44_eq a0 a1).trans ((g44_ok a0 a1 r.2.1 r.2.2.1).trans h))
theorem all44 : ∀ g con, lookC L44 g = some con → FunOk Try.prog B (g % 1000000) con := gam_cons rfl ok44 all45

theorem ok19 : FunOk Try.prog B 19 c19 := glue L44 all44 plan19 Try.func19 (by kernel_rfl) (by
  rintro ⟨⟨a0, a1, ⟨⟩⟩, a2, ⟨⟩⟩ y r h
  obtain ⟨h1, h2⟩ := Sp07.on_some h
  subst h2
  exact (g19_eq a0 a1 a2).trans (g19_ok a0 a1 a2 r.1.1 r.1.2.1 r.2.1 h1))
theorem all19 : ∀ g con, lookC L19 g = some con → FunOk Try.prog B (g % 1000000) con := gam_cons rfl ok19 all44

theorem ok12 : FunOk Try.prog B 12 c12 := glue L19 all19 plan12 Try.func12 (by kernel_rfl) (by
  rintro ⟨⟨a0, a1, ⟨⟩⟩, a2, a3, ⟨⟩⟩ y r h
  obtain ⟨h1, h2⟩ := Sp07.on_some h
  subst h2
  exact (g12_eq a0 a1 a2 a3).trans (g12_ok a0 a1 a2 a3 r.1.1 r.1.2.1 r.2.1 r.2.2.1 h1))
theorem all12 : ∀ g con, lookC L12 g = some con → FunOk Try.prog B (g % 1000000) con := gam_cons rfl ok12 all19

theorem ok36 : FunOk Try.prog B 36 c36 := glue L12 all12 plan36 Try.func36 (by kernel_rfl) (by
  rintro ⟨⟨a0, a1, ⟨⟩⟩, a2, ⟨⟩⟩ y r h
  obtain ⟨h1, h2⟩ := Sp07.on_some h
  subst h2
  exact (g36_eq a0 a1 a2).trans (g36_ok a0 a1 a2 r.1.1 r.1.2.1 r.2.1 h1))
theorem all36 : ∀ g con, lookC L36 g = some con → FunOk Try.prog B (g % 1000000) con := gam_cons rfl ok36 all12

theorem ok22 : FunOk Try.prog B 22 c22 := glue L36 all36 plan22 Try.func22 (by kernel_rfl) (by
  rintro ⟨⟨a0, a1, ⟨⟩⟩, a2, ⟨⟩⟩ y r h
  obtain ⟨h1, h2⟩ := Sp07.on_some h
  subst h2
  exact (g22_eq a0 a1 a2).trans (g22_ok a0 a1 a2 r.1.1 r.1.2.1 r.2.1 h1))
theorem all22 : ∀ g con, lookC L22 g = some con → FunOk Try.prog B (g % 1000000) con := gam_cons rfl ok22 all36

theorem ok37 : FunOk Try.prog B 37 c37 := glue L22 all22 plan37 Try.func37 (by kernel_rfl) (by
  rintro ⟨⟨a0, a1, ⟨⟩⟩, ⟨⟩⟩ y r h
  obtain ⟨h1, h2⟩ := Sp07.on_some h
  subst h2
  exact (g37_eq a0 a1).trans (g37_ok a0 a1 r.1.1 r.1.2.1 h1))
theorem all37 : ∀ g con, lookC L37 g = some con → FunOk Try.prog B (g % 1000000) con := gam_cons rfl ok37 all22

theorem ok52 : FunOk Try.prog B 52 c52 := glue L37 all37 plan52 Try.func52 (by kernel_rfl) (by
  rintro ⟨⟨⟩, ⟨a0, a1, ⟨⟩⟩, a2, ⟨⟩⟩ y r h
  obtain ⟨h1, h2⟩ := Sp07.on_some h
  subst h2
  exact (g52_eq a0 a1 a2).trans (g52_ok a0 a1 a2 r.2.1.1 r.2.1.2.1 r.2.2.1 h1))
theorem all52 : ∀ g con, lookC L52 g = some con → FunOk Try.prog B (g % 1000000) con := gam_cons rfl ok52 all37

theorem ok48 : FunOk Try.prog B 48 c48 := glue L52 all52 plan48 Try.func48 (by kernel_rfl) (by
  rintro ⟨⟨⟩, ⟨a0, a1, ⟨⟩⟩, a2, a3, ⟨⟩⟩ y r h
  exact (g48_eq a0 a1 a2 a3).trans ((g48_ok a0 a1 a2 a3 r.2.1.1 r.2.1.2.1 r.2.2.1 r.2.2.2.1).trans h))
theorem all48 : ∀ g con, lookC L48 g = some con → FunOk Try.prog B (g % 1000000) con := gam_cons rfl ok48 all52

theorem ok92 : FunOk Try.prog B 92 c92 := glue L48 all48 plan92 Try.func92 (by kernel_rfl) (by
  rintro ⟨⟨⟩, ⟨a0, a1, ⟨⟩⟩, ⟨⟩⟩ y r h
  exact (g92_eq a0 a1).trans ((g92_ok a0 a1 r.2.1.1 r.2.1.2.1).trans h))
theorem all92 : ∀ g con, lookC L92 g = some con → FunOk Try.prog B (g % 1000000) con := gam_cons rfl ok92 all48

theorem ok93 : FunOk Try.prog B 93 c93 := glue L92 all92 plan93 Try.func93 (by kernel_rfl) (by
  rintro ⟨⟨a0, a1, ⟨⟩⟩, a2, a3, ⟨⟩⟩ y r h
  obtain ⟨h1, h2⟩ := Sp07.on_some h
  subst h2
  exact (g93_eq a0 a1 a2 a3).trans (g93_ok a0 a1 a2 a3 r.1.1 r.1.2.1 r.2.1 r.2.2.1 h1))
theorem all93 : ∀ g con, lookC L93 g = some con → FunOk Try.prog B (g % 1000000) con := gam_cons rfl ok93 all92

theorem ok95 : FunOk Try.prog B 95 c95 := glue L93 all93 plan95 Try.func95 (by kernel_rfl) (by
  rintro ⟨⟨⟩, ⟨a0, a1, ⟨⟩⟩, a2, a3, ⟨⟩⟩ y r h
  obtain ⟨h1, h2⟩ := Sp07.on_some h
  subst h2
  exact (g95_eq a0 a1 a2 a3).trans (g95_ok a0 a1 a2 a3 r.2.1.1 r.2.1.2.1 r.2.2.1 r.2.2.2.1 h1))
theorem all95 : ∀ g con, lookC L95 g = some con → FunOk Try.prog B (g % 1000000) con := gam_cons rfl ok95 all93

theorem ok73 : FunOk Try.prog B 73 c73 := glue L95 all95 plan73 Try.func73 (by kernel_rfl) (by
  rintro ⟨⟨a0, a1, ⟨⟩⟩, ⟨a2, a3, ⟨⟩⟩, a4, a5, ⟨⟩⟩ y r h
  obtain ⟨h1, h2⟩ := Sp07.on_some h
  subst h2
  exact (g73_eq a0 a1 a2 a3 a4 a5).trans (g73_ok a0 a1 a2 a3 a4 a5 r.1.1 r.1.2.1 r.2.1.1 r.2.1.2.1 r.2.2.1 r.2.2.2.1 h1))
theorem all73 : ∀ g con, lookC L73 g = some con → FunOk Try.prog B (g % 1000000) con := gam_cons rfl ok73 all95

theorem ok69 : FunOk Try.prog B 69 c69 := glue L73 all73 plan69 Try.func69 (by kernel_rfl) (by
  rintro ⟨⟨⟩, ⟨a0, a1, ⟨⟩⟩, a2, a3, ⟨⟩⟩ y r h
  exact (g69_eq a0 a1 a2 a3).trans ((g69_ok a0 a1 a2 a3 r.2.1.1 r.2.1.2.1 r.2.2.1 r.2.2.2.1).trans h))
theorem all69 : ∀ g con, lookC L69 g = some con → FunOk Try.prog B (g % 1000000) con := gam_cons rfl ok69 all73

theorem ok49 : FunOk Try.prog B 49 c49 := glue L69 all69 plan49 Try.func49 (by kernel_rfl) (by
  rintro ⟨⟨⟩, ⟨a0, a1, ⟨⟩⟩, a2, a3, ⟨⟩⟩ y r h
  exact (g49_eq a0 a1 a2 a3).trans ((g49_ok a0 a1 a2 a3 r.2.1.1 r.2.1.2.1 r.2.2.1 r.2.2.2.1).trans h))
theorem all49 : ∀ g con, lookC L49 g = some con → FunOk Try.prog B (g % 1000000) con := gam_cons rfl ok49 all69

theorem ok72 : FunOk Try.prog B 72 c72 := glue L49 all49 plan72 Try.func72 (by kernel_rfl) (by
  rintro ⟨⟨⟩, ⟨a0, a1, ⟨⟩⟩, a2, a3, ⟨⟩⟩ y r h
  exact (g72_eq a0 a1 a2 a3).trans ((g72_ok a0 a1 a2 a3 r.2.1.1 r.2.1.2.1 r.2.2.1 r.2.2.2.1).trans h))
theorem all72 : ∀ g con, lookC L72 g = some con → FunOk Try.prog B (g % 1000000) con := gam_cons rfl ok72 all49

theorem ok74 : FunOk Try.prog B 74 c74 := glue L72 all72 plan74 Try.func74 (by kernel_rfl) (by
  rintro ⟨⟨⟩, ⟨a0, a1, ⟨⟩⟩, a2, a3, ⟨⟩⟩ y r h
  exact (g74_eq a0 a1 a2 a3).trans ((g74_ok a0 a1 a2 a3 r.2.1.1 r.2.1.2.1 r.2.2.1 r.2.2.2.1).trans h))
theorem all74 : ∀ g con, lookC L74 g = some con → FunOk Try.prog B (g % 1000000) con := gam_cons rfl ok74 all72

theorem ok39 : FunOk Try.prog B 39 c39 := glue L74 all74 plan39 Try.func39 (by kernel_rfl) (by
  rintro ⟨⟨⟩, ⟨a0, a1, ⟨⟩⟩, ⟨⟩⟩ y r h
  exact (g39_eq a0 a1).trans ((g39_ok a0 a1 r.2.1.1 r.2.1.2.1).trans h))
theorem all39 : ∀ g con, lookC L39 g = some con → FunOk Try.prog B (g % 1000000) con := gam_cons rfl ok39 all74

theorem ok23 : FunOk Try.prog B 23 c23 := glue L39 all39 plan23 Try.func23 (by kernel_rfl) (by
  rintro ⟨⟨⟩, ⟨a0, a1, ⟨⟩⟩, ⟨⟩⟩ y r h
  exact (g23_eq a0 a1).trans ((g23_ok a0 a1 r.2.1.1 r.2.1.2.1).trans h))
theorem all23 : ∀ g con, lookC L23 g = some con → FunOk Try.prog B (g % 1000000) con := gam_cons rfl ok23 all39

theorem ok10 : FunOk Try.prog B 10 c10 := glue L23 all23 plan10 Try.func10 (by kernel_rfl) (by
  rintro ⟨⟨⟩, a0, ⟨⟩⟩ y r h
  exact (g10_eq a0).trans ((g10_ok a0 r.2.1).trans h))
theorem all10 : ∀ g con, lookC L10 g = some con → FunOk Try.prog B (g % 1000000) con := gam_cons rfl ok10 all23

theorem ok24 : FunOk Try.prog B 24 c24 := glue L10 all10 plan24 Try.func24 (by kernel_rfl) (by
  rintro ⟨⟨⟩, ⟨a0, a1, ⟨⟩⟩, ⟨⟩⟩ y r h
  exact (g24_eq a0 a1).trans ((g24_ok a0 a1 r.2.1.1 r.2.1.2.1).trans h))
theorem all24 : ∀ g con, lookC L24 g = some con → FunOk Try.prog B (g % 1000000) con := gam_cons rfl ok24 all10

theorem ok43 : FunOk Try.prog B 43 c43 := glue L24 all24 plan43 Try.func43 (by kernel_rfl) (by
  rintro ⟨⟨⟩, ⟨a0, a1, ⟨⟩⟩, a2, a3, ⟨⟩⟩ y r h
  exact (g43_eq a0 a1 a2 a3).trans ((g43_ok a0 a1 a2 a3 r.2.1.1 r.2.1.2.1 r.2.2.1 r.2.2.2.1).trans h))
theorem all43 : ∀ g con, lookC L43 g = some con → FunOk Try.prog B (g % 1000000) con := gam_cons rfl ok43 all24

theorem ok54 : FunOk Try.prog B 54 c54 := glue L43 all43 plan54 Try.func54 (by kernel_rfl) (by
  rintro ⟨⟨⟩, a0, a1, a2, ⟨⟩⟩ y r h
  exact (g54_eq a0 a1 a2).trans ((g54_ok a0 a1 a2 r.2.1 r.2.2.1 r.2.2.2.1).trans h))
theorem all54 : ∀ g con, lookC L54 g = some con → FunOk Try.prog B (g % 1000000) con := gam_cons rfl ok54 all43

theorem ok56 : FunOk Try.prog B 56 c56 := glue L54 all54 plan56 Try.func56 (by kernel_rfl) (by
  rintro ⟨⟨⟩, a0, a1, a2, ⟨⟩⟩ y r h
  exact (g56_eq a0 a1 a2).trans ((g56_ok a0 a1 a2 r.2.1 r.2.2.1 r.2.2.2.1).trans h))
theorem all56 : ∀ g con, lookC L56 g = some con → FunOk Try.prog B (g % 1000000) con := gam_cons rfl ok56 all54

theorem ok55 : FunOk Try.prog B 55 c55 := glue L56 all56 plan55 Try.func55 (by kernel_rfl) (by
  rintro ⟨⟨⟩, a0, ⟨⟩⟩ y r h
  exact (g55_eq a0).trans ((g55_ok a0 r.2.1).trans h))
theorem all55 : ∀ g con, lookC L55 g = some con → FunOk Try.prog B (g % 1000000) con := gam_cons rfl ok55 all56

theorem ok76 : FunOk Try.prog B 76 c76 := glue L55 all55 plan76 Try.func76 (by kernel_rfl) (by
  rintro ⟨⟨⟩, a0, ⟨⟩⟩ y r h
  exact (g76_eq a0).trans ((g76_ok a0 r.2.1).trans h))
theorem all76 : ∀ g con, lookC L76 g = some con → FunOk Try.prog B (g % 1000000) con := gam_cons rfl ok76 all55

theorem ok57 : FunOk Try.prog B 57 c57 := glue L76 all76 plan57 Try.func57 (by kernel_rfl) (by
  rintro ⟨⟨⟩, a0, ⟨⟩⟩ y r h
  exact (g57_eq a0).trans ((g57_ok a0 r.2.1).trans h))
theorem all57 : ∀ g con, lookC L57 g = some con → FunOk Try.prog B (g % 1000000) con := gam_cons rfl ok57 all76

theorem ok27 : FunOk Try.prog B 27 c27 := glue L57 all57 plan27 Try.func27 (by kernel_rfl) (by
  rintro ⟨⟨⟩, ⟨a0, a1, a2, a3, a4, ⟨⟩⟩, ⟨⟩⟩ y r h
  exact (g27_eq a0 a1 a2 a3 a4).trans ((g27_ok a0 a1 a2 a3 a4 r.2.1.1 r.2.1.2.1 r.2.1.2.2.2.1 r.2.1.2.2.2.2.1).trans h))
theorem all27 : ∀ g con, lookC L27 g = some con → FunOk Try.prog B (g % 1000000) con := gam_cons rfl ok27 all57

theorem ok28 : FunOk Try.prog B 28 c28 := glue L27 all27 plan28 Try.func28 (by kernel_rfl) (by
  rintro ⟨⟨⟩, ⟨a0, a1, a2, a3, a4, ⟨⟩⟩, ⟨⟩⟩ y r h
  exact (g28_eq a0 a1 a2 a3 a4).trans ((g28_ok a0 a1 a2 a3 a4 r.2.1.1 r.2.1.2.1 r.2.1.2.2.2.1 r.2.1.2.2.2.2.1).trans h))
theorem all28 : ∀ g con, lookC L28 g = some con → FunOk Try.prog B (g % 1000000) con := gam_cons rfl ok28 all27

theorem ok58 : FunOk Try.prog B 58 c58 := glue L28 all28 plan58 Try.func58 (by kernel_rfl) (by
  rintro ⟨⟨⟩, a0, a1, ⟨⟩⟩ y r h
  exact (g58_eq a0 a1).trans ((g58_ok a0 a1 r.2.1 r.2.2.1).trans h))
theorem all58 : ∀ g con, lookC L58 g = some con → FunOk Try.prog B (g % 1000000) con := gam_cons rfl ok58 all28

theorem ok59 : FunOk Try.prog B 59 c59 := glue L58 all58 plan59 Try.func59 (by kernel_rfl) (by
  rintro ⟨⟨⟩, a0, a1, ⟨⟩⟩ y r h
  exact (g59_eq a0 a1).trans ((g59_ok a0 a1 r.2.1 r.2.2.1).trans h))
theorem all59 : ∀ g con, lookC L59 g = some con → FunOk Try.prog B (g % 1000000) con := gam_cons rfl ok59 all58

theorem ok29 : FunOk Try.prog B 29 c29 := glue L59 all59 plan29 Try.func29 (by kernel_rfl) (by
  rintro ⟨⟨⟩, ⟨a0, a1, a2, a3, a4, ⟨⟩⟩, ⟨a5, a6, a7, a8, a9, ⟨⟩⟩, ⟨⟩⟩ y r h
  exact (g29_eq a0 a1 a2 a3 a4 a5 a6 a7 a8 a9).trans ((g29_ok a0 a1 a2 a3 a4 a5 a6 a7 a8 a9 r.2.1.1 r.2.1.2.1 r.2.1.2.2.2.1 r.2.1.2.2.2.2.1 r.2.2.1.1 r.2.2.1.2.1 r.2.2.1.2.2.2.1 r.2.2.1.2.2.2.2.1).trans h))
theorem all29 : ∀ g con, lookC L29 g = some con → FunOk Try.prog B (g % 1000000) con := gam_cons rfl ok29 all59

theorem ok17 : FunOk Try.prog B 17 c17 := glue L29 all29 plan17 Try.func17 (by kernel_rfl) (by
  rintro ⟨⟨⟩, ⟨a0, a1, a2, a3, a4, ⟨⟩⟩, ⟨a5, a6, a7, a8, a9, ⟨⟩⟩, ⟨⟩⟩ y r h
  exact (g17_eq a0 a1 a2 a3 a4 a5 a6 a7 a8 a9).trans ((g17_ok a0 a1 a2 a3 a4 a5 a6 a7 a8 a9 r.2.1.1 r.2.1.2.1 r.2.1.2.2.2.1 r.2.1.2.2.2.2.1 r.2.2.1.1 r.2.2.1.2.1 r.2.2.1.2.2.2.1 r.2.2.1.2.2.2.2.1).trans h))
theorem all17 : ∀ g con, lookC L17 g = some con → FunOk Try.prog B (g % 1000000) con := gam_cons rfl ok17 all29

theorem ok13 : FunOk Try.prog B 13 c13 := glue L17 all17 plan13 Try.func13 (by kernel_rfl) (by
  rintro ⟨⟨⟩, ⟨a0, a1, a2, a3, a4, ⟨⟩⟩, ⟨⟩⟩ y r h
  exact (g13_eq a0 a1 a2 a3 a4).trans ((g13_ok a0 a1 a2 a3 a4 r.2.1.1 r.2.1.2.1 r.2.1.2.2.2.1 r.2.1.2.2.2.2.1).trans h))
theorem all13 : ∀ g con, lookC L13 g = some con → FunOk Try.prog B (g % 1000000) con := gam_cons rfl ok13 all17

theorem ok38 : FunOk Try.prog B 38 c38 := glue L13 all13 plan38 Try.func38 (by kernel_rfl) (by
  rintro ⟨⟨a0, a1, ⟨⟩⟩, a2, a3, ⟨⟩⟩ y r h
  exact (g38_eq a0 a1 a2 a3).trans ((g38_ok a0 a1 a2 a3 r.1.1 r.1.2.1 r.2.1 r.2.2.1).trans h))
theorem all38 : ∀ g con, lookC L38 g = some con → FunOk Try.prog B (g % 1000000) con := gam_cons rfl ok38 all13

theorem ok40 : FunOk Try.prog B 40 c40 := glue L38 all38 plan40 Try.func40 (by kernel_rfl) (by
  rintro ⟨⟨⟩, ⟨a0, a1, ⟨⟩⟩, a2, a3, ⟨⟩⟩ y r h
  exact (g40_eq a0 a1 a2 a3).trans ((g40_ok a0 a1 a2 a3 r.2.1.1 r.2.1.2.1 r.2.2.1 r.2.2.2.1).trans h))
theorem all40 : ∀ g con, lookC L40 g = some con → FunOk Try.prog B (g % 1000000) con := gam_cons rfl ok40 all38

theorem ok21 : FunOk Try.prog B 21 c21 := glue L40 all40 plan21 Try.func21 (by kernel_rfl) (by
  rintro ⟨⟨⟩, ⟨a0, a1, ⟨⟩⟩, a2, a3, ⟨⟩⟩ y r h
  exact (g21_eq a0 a1 a2 a3).trans ((g21_ok a0 a1 a2 a3 r.2.1.1 r.2.1.2.1 r.2.2.1 r.2.2.2.1).trans h))
theorem all21 : ∀ g con, lookC L21 g = some con → FunOk Try.prog B (g % 1000000) con := gam_cons rfl ok21 all40

theorem ok41 : FunOk Try.prog B 41 c41 := glue L21 all21 plan41 Try.func41 (by kernel_rfl) (by
  rintro ⟨⟨⟩, a0, ⟨⟩⟩ y r h
  obtain ⟨h1, h2⟩ := Sp07.on_some h
  subst h2
  exact (g41_eq a0).trans (g41_ok a0 r.2.1 h1))
theorem all41 : ∀ g con, lookC L41 g = some con → FunOk Try.prog B (g % 1000000) con := gam_cons rfl ok41 all21

theorem ok47 : FunOk Try.prog B 47 c47 := glue L41 all41 plan47 Try.func47 (by kernel_rfl) (by
  rintro ⟨⟨⟩, a0, ⟨⟩⟩ y r h
  obtain ⟨h1, h2⟩ := Sp07.on_some h
  subst h2
  exact (g47_eq a0).trans (g47_ok a0 r.2.1 h1))
theorem all47 : ∀ g con, lookC L47 g = some con → FunOk Try.prog B (g % 1000000) con := gam_cons rfl ok47 all41

theorem ok14 : FunOk Try.prog B 14 c14 := glue L47 all47 plan14 Try.func14 (by kernel_rfl) (by
  rintro ⟨⟨⟩, ⟨a0, a1, a2, a3, a4, ⟨⟩⟩, ⟨⟩⟩ y r h
  exact (g14_eq a0 a1 a2 a3 a4).trans ((g14_ok a0 a1 a2 a3 a4 r.2.1.1 r.2.1.2.1 r.2.1.2.2.2.1 r.2.1.2.2.2.2.1).trans h))
theorem all14 : ∀ g con, lookC L14 g = some con → FunOk Try.prog B (g % 1000000) con := gam_cons rfl ok14 all47

theorem ok15 : FunOk Try.prog B 15 c15 := glue L14 all14 plan15 Try.func15 (by kernel_rfl) (by
  rintro ⟨⟨⟩, ⟨a0, a1, a2, a3, a4, ⟨⟩⟩, ⟨⟩⟩ y r h
  exact (g15_eq a0 a1 a2 a3 a4).trans ((g15_ok a0 a1 a2 a3 a4 r.2.1.1 r.2.1.2.1 r.2.1.2.2.2.1 r.2.1.2.2.2.2.1).trans h))
theorem all15 : ∀ g con, lookC L15 g = some con → FunOk Try.prog B (g % 1000000) con := gam_cons rfl ok15 all14

theorem ok42 : FunOk Try.prog B 42 c42 := glue L15 all15 plan42 Try.func42 (by kernel_rfl) (by
  rintro ⟨⟨a0, a1, a2, a3, ⟨⟩⟩, a4, ⟨⟩⟩ y r h
  obtain ⟨h1, h2⟩ := Sp07.on_some h
  subst h2
  exact (g42_eq a0 a1 a2 a3 a4).trans (g42_ok a0 a1 a2 a3 a4 r.1.1 r.1.2.1 r.1.2.2.1 r.2.1 h1))
theorem all42 : ∀ g con, lookC L42 g = some con → FunOk Try.prog B (g % 1000000) con := gam_cons rfl ok42 all15

theorem ok46 : FunOk Try.prog B 46 c46 := glue L42 all42 plan46 Try.func46 (by kernel_rfl) (by
  rintro ⟨⟨⟩, ⟨a0, a1, ⟨⟩⟩, a2, a3, ⟨⟩⟩ y r h
  obtain ⟨h1, h2⟩ := Sp07.on_some h
  subst h2
  exact (g46_eq a0 a1 a2 a3).trans (g46_ok a0 a1 a2 a3 r.2.1.1 r.2.1.2.1 r.2.2.1 r.2.2.2.1 h1))
theorem all46 : ∀ g con, lookC L46 g = some con → FunOk Try.prog B (g % 1000000) con := gam_cons rfl ok46 all42

theorem ok16 : FunOk Try.prog B 16 c16 := glue L46 all46 plan16 Try.func16 (by kernel_rfl) (by
  rintro ⟨⟨⟩, a0, ⟨⟩⟩ y r h
  exact (g16_eq a0).trans ((g16_ok a0 r.2.1).trans h))
theorem all16 : ∀ g con, lookC L16 g = some con → FunOk Try.prog B (g % 1000000) con := gam_cons rfl ok16 all46

theorem ok20 : FunOk Try.prog B 20 c20 := glue L16 all16 plan20 Try.func20 (by kernel_rfl) (by
  rintro ⟨⟨⟩, a0, ⟨⟩⟩ y r h
  exact (g20_eq a0).trans ((g20_ok a0 r.2.1).trans h))
theorem all20 : ∀ g con, lookC L20 g = some con → FunOk Try.prog B (g % 1000000) con := gam_cons rfl ok20 all16

theorem all53 : ∀ g con, lookC L53 g = some con → FunOk Try.prog B (g % 1000000) con := gam_cons rfl ok53 all20

theorem ok25 : FunOk Try.prog B 25 c25 := glue L53 all53 plan25 Try.func25 (by kernel_rfl) (by
  rintro ⟨⟨⟩, ⟨a0, a1, a2, a3, a4, ⟨⟩⟩, ⟨a5, a6, a7, a8, a9, ⟨⟩⟩, ⟨⟩⟩ y r h
  exact (g25_eq a0 a1 a2 a3 a4 a5 a6 a7 a8 a9).trans ((g25_ok a0 a1 a2 a3 a4 a5 a6 a7 a8 a9 r.2.1.1 r.2.1.2.1 r.2.1.2.2.2.1 r.2.1.2.2.2.2.1 r.2.2.1.1 r.2.2.1.2.1 r.2.2.1.2.2.2.1 r.2.2.1.2.2.2.2.1).trans h))
theorem all25 : ∀ g con, lookC L25 g = some con → FunOk Try.prog B (g % 1000000) con := gam_cons rfl ok25 all53

theorem ok26 : FunOk Try.prog B 26 c26 := glue L25 all25 plan26 Try.func26 (by kernel_rfl) (by
  rintro ⟨⟨⟩, ⟨a0, a1, a2, a3, a4, ⟨⟩⟩, ⟨a5, a6, a7, a8, a9, ⟨⟩⟩, ⟨⟩⟩ y r h
  exact (g26_eq a0 a1 a2 a3 a4 a5 a6 a7 a8 a9).trans ((g26_ok a0 a1 a2 a3 a4 a5 a6 a7 a8 a9 r.2.1.1 r.2.1.2.1 r.2.1.2.2.2.1 r.2.1.2.2.2.2.1 r.2.2.1.1 r.2.2.1.2.1 r.2.2.1.2.2.2.1 r.2.2.1.2.2.2.2.1).trans h))
theorem all26 : ∀ g con, lookC L26 g = some con → FunOk Try.prog B (g % 1000000) con := gam_cons rfl ok26 all25

theorem ok18 : FunOk Try.prog B 18 c18 := glue L26 all26 plan18 Try.func18 (by kernel_rfl) (by
  rintro ⟨⟨⟩, ⟨⟩⟩ y r h
  exact (g18_eq ).trans ((g18_ok  ).trans h))
theorem all18 : ∀ g con, lookC L18 g = some con → FunOk Try.prog B (g % 1000000) con := gam_cons rfl ok18 all26

theorem ok35 : FunOk Try.prog B 35 c35 := glue L18 all18 plan35 Try.func35 (by kernel_rfl) (by
  rintro ⟨⟨a0, a1, ⟨⟩⟩, ⟨⟩⟩ y r h
  obtain ⟨h1, h2⟩ := Sp07.on_some h
  subst h2
  exact (g35_eq a0 a1).trans (g35_ok a0 a1 r.1.1 r.1.2.1 h1))
theorem all35 : ∀ g con, lookC L35 g = some con → FunOk Try.prog B (g % 1000000) con := gam_cons rfl ok35 all18

theorem ok11 : FunOk Try.prog B 11 c11 := glue L35 all35 plan11 Try.func11 (by kernel_rfl) (by
  rintro ⟨⟨a0, a1, ⟨⟩⟩, a2, a3, ⟨⟩⟩ y r h
  obtain ⟨h1, h2⟩ := Sp07.on_some h
  subst h2
  exact (g11_eq a0 a1 a2 a3).trans (g11_ok a0 a1 a2 a3 r.1.1 r.1.2.1 r.2.1 r.2.2.1 h1))
theorem all11 : ∀ g con, lookC L11 g = some con → FunOk Try.prog B (g % 1000000) con := gam_cons rfl ok11 all35

theorem ok100 : FunOk Try.prog B 100 c100 := glue L11 all11 plan100 Try.func100 (by kernel_rfl) (by
  rintro ⟨⟨⟩, a0, ⟨⟩⟩ y r h
  exact (g100_eq a0).trans ((g100_ok a0 r.2.1).trans h))
theorem all100 : ∀ g con, lookC L100 g = some con → FunOk Try.prog B (g % 1000000) con := gam_cons rfl ok100 all11

theorem ok97 : FunOk Try.prog B 97 c97 := glue L100 all100 plan97 Try.func97 (by kernel_rfl) (by
  rintro ⟨⟨⟩, a0, a1, ⟨⟩⟩ y r h
  exact (g97_eq a0 a1).trans ((g97_ok a0 a1 r.2.1 r.2.2.1).trans h))
theorem all97 : ∀ g con, lookC L97 g = some con → FunOk Try.prog B (g % 1000000) con := gam_cons rfl ok97 all100

theorem ok99 : FunOk Try.prog B 99 c99 := glue L97 all97 plan99 Try.func99 (by kernel_rfl) (by
  rintro ⟨⟨⟩, a0, ⟨⟩⟩ y r h
  exact (g99_eq a0).trans ((g99_ok a0 r.2.1).trans h))
theorem all99 : ∀ g con, lookC L99 g = some con → FunOk Try.prog B (g % 1000000) con := gam_cons rfl ok99 all97

theorem ok79 : FunOk Try.prog B 79 c79 := glue L99 all99 plan79 Try.func79 (by kernel_rfl) (by
  rintro ⟨⟨⟩, a0, a1, a2, ⟨⟩⟩ y r h
  exact (g79_eq a0 a1 a2).trans ((g79_ok a0 a1 a2 r.2.1 r.2.2.1 r.2.2.2.1).trans h))
theorem all79 : ∀ g con, lookC L79 g = some con → FunOk Try.prog B (g % 1000000) con := gam_cons rfl ok79 all99

theorem ok82 : FunOk Try.prog B 82 c82 := glue L79 all79 plan82 Try.func82 (by kernel_rfl) (by
  rintro ⟨⟨⟩, ⟨a0, a1, ⟨⟩⟩, a2, ⟨⟩⟩ y r h
  exact (g82_eq a0 a1 a2).trans ((g82_ok a0 a1 a2 r.2.1.1 r.2.2.1).trans h))
theorem all82 : ∀ g con, lookC L82 g = some con → FunOk Try.prog B (g % 1000000) con := gam_cons rfl ok82 all79

theorem ok87 : FunOk Try.prog B 87 c87 := glue L82 all82 plan87 Try.func87 (by kernel_rfl) (by
  rintro ⟨⟨⟩, ⟨a0, a1, a2, a3, a4, ⟨⟩⟩, ⟨a5, a6, a7, a8, a9, ⟨⟩⟩, ⟨⟩⟩ y r h
  exact (g87_eq a0 a1 a2 a3 a4 a5 a6 a7 a8 a9).trans ((g87_ok a0 a1 a2 a3 a4 a5 a6 a7 a8 a9 r.2.1.1 r.2.1.2.1 r.2.1.2.2.1 r.2.1.2.2.2.1 r.2.1.2.2.2.2.1 r.2.2.1.1 r.2.2.1.2.1 r.2.2.1.2.2.1 r.2.2.1.2.2.2.1 r.2.2.1.2.2.2.2.1).trans h))
theorem all87 : ∀ g con, lookC L87 g = some con → FunOk Try.prog B (g % 1000000) con := gam_cons rfl ok87 all82

theorem ok78 : FunOk Try.prog B 78 c78 := glue L87 all87 plan78 Try.func78 (by kernel_rfl) (by
  rintro ⟨⟨⟩, ⟨a0, a1, ⟨⟩⟩, ⟨⟩⟩ y r h
  exact (g78_eq a0 a1).trans ((g78_ok a0 a1 r.2.1.1).trans h))
theorem all78 : ∀ g con, lookC L78 g = some con → FunOk Try.prog B (g % 1000000) con := gam_cons rfl ok78 all87

theorem ok96 : FunOk Try.prog B 96 c96 := glue L78 all78 plan96 Try.func96 (by kernel_rfl) (by
  rintro ⟨⟨⟩, a0, ⟨⟩, ⟨⟩⟩ y r h
  exact (g96_eq a0).trans ((g96_ok a0 r.2.1).trans h))
theorem all96 : ∀ g con, lookC L96 g = some con → FunOk Try.prog B (g % 1000000) con := gam_cons rfl ok96 all78

theorem ok77 : FunOk Try.prog B 77 c77 := glue L96 all96 plan77 Try.func77 (by kernel_rfl) (by
  rintro ⟨⟨⟩, a0, ⟨⟩, ⟨⟩⟩ y r h
  exact (g77_eq a0).trans ((g77_ok a0 r.2.1).trans h))
theorem all77 : ∀ g con, lookC L77 g = some con → FunOk Try.prog B (g % 1000000) con := gam_cons rfl ok77 all96

theorem ok84 : FunOk Try.prog B 84 c84 := glue L77 all77 plan84 Try.func84 (by kernel_rfl) (by
  rintro ⟨⟨⟩, ⟨a0, a1, a2, a3, a4, ⟨⟩⟩, ⟨⟩⟩ y r h
  exact (g84_eq a0 a1 a2 a3 a4).trans ((g84_ok a0 a1 a2 a3 a4 r.2.1.1 r.2.1.2.1 r.2.1.2.2.1 r.2.1.2.2.2.1 r.2.1.2.2.2.2.1).trans h))
theorem all84 : ∀ g con, lookC L84 g = some con → FunOk Try.prog B (g % 1000000) con := gam_cons rfl ok84 all77

theorem ok98 : FunOk Try.prog B 98 c98 := glue L84 all84 plan98 Try.func98 (by kernel_rfl) (by
  rintro ⟨⟨⟩, a0, ⟨⟩, ⟨⟩⟩ y r h
  exact (g98_eq a0).trans ((g98_ok a0 r.2.1).trans h))
theorem all98 : ∀ g con, lookC L98 g = some con → FunOk Try.prog B (g % 1000000) con := gam_cons rfl ok98 all84

theorem ok83 : FunOk Try.prog B 83 c83 := glue L98 all98 plan83 Try.func83 (by kernel_rfl) (by
  rintro ⟨⟨⟩, a0, ⟨⟩, ⟨⟩⟩ y r h
  exact (g83_eq a0).trans ((g83_ok a0 r.2.1).trans h))
theorem all83 : ∀ g con, lookC L83 g = some con → FunOk Try.prog B (g % 1000000) con := gam_cons rfl ok83 all98

theorem ok81 : FunOk Try.prog B 81 c81 := glue L83 all83 plan81 Try.func81 (by kernel_rfl) (by
  rintro ⟨⟨⟩, a0, a1, ⟨⟩, ⟨⟩⟩ y r h
  exact (g81_eq a0 a1).trans ((g81_ok a0 a1 r.2.1 r.2.2.1).trans h))
theorem all81 : ∀ g con, lookC L81 g = some con → FunOk Try.prog B (g % 1000000) con := gam_cons rfl ok81 all83

theorem ok80 : FunOk Try.prog B 80 c80 := glue L81 all81 plan80 Try.func80 (by kernel_rfl) (by
  rintro ⟨⟨⟩, a0, ⟨a1, a2, ⟨⟩⟩, ⟨⟩⟩ y r h
  exact (g80_eq a0 a1 a2).trans ((g80_ok a0 a1 a2 r.2.1 r.2.2.1.1 r.2.2.1.2.1).trans h))
theorem all80 : ∀ g con, lookC L80 g = some con → FunOk Try.prog B (g % 1000000) con := gam_cons rfl ok80 all81

theorem ok85 : FunOk Try.prog B 85 c85 := glue L80 all80 plan85 Try.func85 (by kernel_rfl) (by
  rintro ⟨⟨⟩, ⟨a0, a1, a2, a3, a4, ⟨⟩⟩, ⟨⟨a5, a6, ⟨⟩⟩, ⟨⟩⟩, ⟨⟩⟩ y r h
  exact (g85_eq a0 a1 a2 a3 a4 a5 a6).trans ((g85_ok a0 a1 a2 a3 a4 a5 a6 r.2.1.1 r.2.1.2.1 r.2.1.2.2.1 r.2.1.2.2.2.1 r.2.1.2.2.2.2.1 r.2.2.1.1.1 r.2.2.1.1.2.1).trans h))
theorem all85 : ∀ g con, lookC L85 g = some con → FunOk Try.prog B (g % 1000000) con := gam_cons rfl ok85 all80

theorem ok98v : FunOk Try.prog B 98 c98v := glue L85 all85 plan98v Try.func98 (by kernel_rfl) (by
  rintro ⟨⟨⟩, a0, ⟨⟨a1, a2, ⟨⟩⟩, ⟨⟩⟩, ⟨⟩⟩ y r h
  exact (g98v_eq a0 a1 a2).trans ((g98v_ok a0 a1 a2 r.2.1 r.2.2.1.1.1 r.2.2.1.1.2.1).trans h))
theorem all98v : ∀ g con, lookC L98v g = some con → FunOk Try.prog B (g % 1000000) con := gam_cons rfl ok98v all85

theorem ok83w1 : FunOk Try.prog B 83 c83w1 := glue L98v all98v plan83w1 Try.func83 (by kernel_rfl) (by
  rintro ⟨⟨⟩, a0, ⟨⟨a1, a2, ⟨⟩⟩, ⟨⟩⟩, ⟨⟩⟩ y r h
  exact (g83w1_eq a0 a1 a2).trans ((g83w1_ok a0 a1 a2 r.2.1 r.2.2.1.1.1 r.2.2.1.1.2.1).trans h))
theorem all83w1 : ∀ g con, lookC L83w1 g = some con → FunOk Try.prog B (g % 1000000) con := gam_cons rfl ok83w1 all98v

theorem ok86 : FunOk Try.prog B 86 c86 := glue L83w1 all83w1 plan86 Try.func86 (by kernel_rfl) (by
  rintro ⟨⟨⟩, ⟨a0, a1, a2, a3, a4, ⟨⟩⟩, ⟨⟩⟩ y r h
  exact (g86_eq a0 a1 a2 a3 a4).trans ((g86_ok a0 a1 a2 a3 a4 r.2.1.1 r.2.1.2.1 r.2.1.2.2.1 r.2.1.2.2.2.1 r.2.1.2.2.2.2.1).trans h))
theorem all86 : ∀ g con, lookC L86 g = some con → FunOk Try.prog B (g % 1000000) con := gam_cons rfl ok86 all83w1

theorem ok98x : FunOk Try.prog B 98 c98x := glue L86 all86 plan98x Try.func98 (by kernel_rfl) (by
  rintro ⟨⟨⟩, a0, ⟨⟩, ⟨⟩⟩ y r h
  exact (g98x_eq a0).trans ((g98x_ok a0 r.2.1).trans h))
theorem all98x : ∀ g con, lookC L98x g = some con → FunOk Try.prog B (g % 1000000) con := gam_cons rfl ok98x all86

theorem ok83w2 : FunOk Try.prog B 83 c83w2 := glue L98x all98x plan83w2 Try.func83 (by kernel_rfl) (by
  rintro ⟨⟨⟩, a0, ⟨⟩, ⟨⟩⟩ y r h
  exact (g83w2_eq a0).trans ((g83w2_ok a0 r.2.1).trans h))
theorem all83w2 : ∀ g con, lookC L83w2 g = some con → FunOk Try.prog B (g % 1000000) con := gam_cons rfl ok83w2 all98x

theorem ok61 : FunOk Try.prog B 61 c61 := glue L83w2 all83w2 plan61 Try.func61 (by kernel_rfl) (by
  rintro ⟨⟨⟩, ⟨a0, a1, ⟨⟩⟩, ⟨⟩⟩ y r h
  exact (g61_eq a0 a1).trans ((g61_ok a0 a1 r.2.1.1 r.2.1.2.1).trans h))
theorem all61 : ∀ g con, lookC L61 g = some con → FunOk Try.prog B (g % 1000000) con := gam_cons rfl ok61 all83w2

theorem ok88 : FunOk Try.prog B 88 c88 := glue L61 all61 plan88 Try.func88 (by kernel_rfl) (by
  rintro ⟨⟨⟩, ⟨a0, a1, ⟨⟩⟩, a2, ⟨⟩⟩ y r h
  exact (g88_eq a0 a1 a2).trans ((g88_ok a0 a1 a2 r.2.1.1 r.2.1.2.1 r.2.2.1).trans h))
theorem all88 : ∀ g con, lookC L88 g = some con → FunOk Try.prog B (g % 1000000) con := gam_cons rfl ok88 all61

theorem ok89 : FunOk Try.prog B 89 c89 := glue L88 all88 plan89 Try.func89 (by kernel_rfl) (by
  rintro ⟨⟨⟩, ⟨a0, a1, ⟨⟩⟩, ⟨⟩⟩ y r h
  exact (g89_eq a0 a1).trans ((g89_ok a0 a1 r.2.1.1 r.2.1.2.1).trans h))
theorem all89 : ∀ g con, lookC L89 g = some con → FunOk Try.prog B (g % 1000000) con := gam_cons rfl ok89 all88

theorem ok62 : FunOk Try.prog B 62 c62 := glue L89 all89 plan62 Try.func62 (by kernel_rfl) (by
  rintro ⟨⟨⟩, ⟨a0, a1, ⟨⟩⟩, a2, ⟨⟩⟩ y r h
  exact (g62_eq a0 a1 a2).trans ((g62_ok a0 a1 a2 r.2.1.1 r.2.1.2.1 r.2.2.1).trans h))
theorem all62 : ∀ g con, lookC L62 g = some con → FunOk Try.prog B (g % 1000000) con := gam_cons rfl ok62 all89

theorem ok63 : FunOk Try.prog B 63 c63 := glue L62 all62 plan63 Try.func63 (by kernel_rfl) (by
  rintro ⟨⟨⟩, ⟨a0, a1, ⟨⟩⟩, a2, ⟨⟩⟩ y r h
  exact (g63_eq a0 a1 a2).trans ((g63_ok a0 a1 a2 r.2.1.1 r.2.1.2.1 r.2.2.1).trans h))
theorem all63 : ∀ g con, lookC L63 g = some con → FunOk Try.prog B (g % 1000000) con := gam_cons rfl ok63 all62

theorem ok90 : FunOk Try.prog B 90 c90 := glue L63 all63 plan90 Try.func90 (by kernel_rfl) (by
  rintro ⟨⟨⟩, a0, ⟨⟩⟩ y r h
  exact (g90_eq a0).trans ((g90_ok a0 r.2.1).trans h))
theorem all90 : ∀ g con, lookC L90 g = some con → FunOk Try.prog B (g % 1000000) con := gam_cons rfl ok90 all63

theorem ok91 : FunOk Try.prog B 91 c91 := glue L90 all90 plan91 Try.func91 (by kernel_rfl) (by
  rintro ⟨⟨⟩, ⟨a0, a1, ⟨⟩⟩, a2, ⟨⟩⟩ y r h
  exact (g91_eq a0 a1 a2).trans ((g91_ok a0 a1 a2 r.2.1.1 r.2.1.2.1 r.2.2.1).trans h))
theorem all91 : ∀ g con, lookC L91 g = some con → FunOk Try.prog B (g % 1000000) con := gam_cons rfl ok91 all90

theorem ok64 : FunOk Try.prog B 64 c64 := glue L91 all91 plan64 Try.func64 (by kernel_rfl) (by
  rintro ⟨⟨⟩, ⟨a0, a1, ⟨⟩⟩, ⟨⟩⟩ y r h
  exact (g64_eq a0 a1).trans ((g64_ok a0 a1 r.2.1.1 r.2.1.2.1).trans h))
theorem all64 : ∀ g con, lookC L64 g = some con → FunOk Try.prog B (g % 1000000) con := gam_cons rfl ok64 all91

theorem ok65 : FunOk Try.prog B 65 c65 := glue L64 all64 plan65 Try.func65 (by kernel_rfl) (by
  rintro ⟨⟨⟩, ⟨a0, a1, ⟨⟩⟩, a2, ⟨⟩⟩ y r h
  exact (g65_eq a0 a1 a2).trans ((g65_ok a0 a1 a2 r.2.1.1 r.2.1.2.1 r.2.2.1).trans h))
theorem all65 : ∀ g con, lookC L65 g = some con → FunOk Try.prog B (g % 1000000) con := gam_cons rfl ok65 all64

theorem ok66 : FunOk Try.prog B 66 c66 := glue L65 all65 plan66 Try.func66 (by kernel_rfl) (by
  rintro ⟨⟨⟩, ⟨a0, a1, ⟨⟩⟩, a2, ⟨⟩⟩ y r h
  exact (g66_eq a0 a1 a2).trans ((g66_ok a0 a1 a2 r.2.1.1 r.2.1.2.1 r.2.2.1).trans h))
theorem all66 : ∀ g con, lookC L66 g = some con → FunOk Try.prog B (g % 1000000) con := gam_cons rfl ok66 all65

theorem ok68 : FunOk Try.prog B 68 c68 := glue L66 all66 plan68 Try.func68 (by kernel_rfl) (by
  rintro ⟨⟨⟩, ⟨a0, a1, ⟨⟩⟩, a2, a3, ⟨⟩⟩ y r h
  exact (g68_eq a0 a1 a2 a3).trans ((g68_ok a0 a1 a2 a3 r.2.1.1 r.2.1.2.1 r.2.2.1 r.2.2.2.1).trans h))
theorem all68 : ∀ g con, lookC L68 g = some con → FunOk Try.prog B (g % 1000000) con := gam_cons rfl ok68 all66

theorem ok67 : FunOk Try.prog B 67 c67 := glue L68 all68 plan67 Try.func67 (by kernel_rfl) (by
  rintro ⟨⟨⟩, ⟨a0, a1, ⟨⟩⟩, a2, ⟨⟩⟩ y r h
  exact (g67_eq a0 a1 a2).trans ((g67_ok a0 a1 a2 r.2.1.1 r.2.1.2.1 r.2.2.1).trans h))
theorem all67 : ∀ g con, lookC L67 g = some con → FunOk Try.prog B (g % 1000000) con := gam_cons rfl ok67 all68

theorem ok33 : FunOk Try.prog B 33 c33 := glue L67 all67 plan33 Try.func33 (by kernel_rfl) (by
  rintro ⟨⟨⟩, ⟨a0, a1, ⟨⟩⟩, a2, a3, a4, ⟨⟩⟩ y r h
  exact (g33_eq a0 a1 a2 a3 a4).trans ((g33_ok a0 a1 a2 a3 a4 r.2.1.1 r.2.1.2.1 r.2.2.1 r.2.2.2.1 r.2.2.2.2.1).trans h))
theorem all33 : ∀ g con, lookC L33 g = some con → FunOk Try.prog B (g % 1000000) con := gam_cons rfl ok33 all67

theorem ok34 : FunOk Try.prog B 34 c34 := glue L33 all33 plan34 Try.func34 (by kernel_rfl) (by
  rintro ⟨⟨⟩, ⟨a0, a1, ⟨⟩⟩, a2, a3, a4, ⟨⟩⟩ y r h
  exact (g34_eq a0 a1 a2 a3 a4).trans ((g34_ok a0 a1 a2 a3 a4 r.2.1.1 r.2.1.2.1 r.2.2.1 r.2.2.2.1 r.2.2.2.2.1).trans h))
theorem all34 : ∀ g con, lookC L34 g = some con → FunOk Try.prog B (g % 1000000) con := gam_cons rfl ok34 all33

theorem ok60 : FunOk Try.prog B 60 c60 := glue L34 all34 plan60 Try.func60 (by kernel_rfl) (by
  rintro ⟨⟨⟩, a0, ⟨⟩⟩ y r h
  obtain ⟨h1, h2⟩ := Sp07.on_some h
  subst h2
  exact (g60_eq a0).trans (g60_ok a0 r.2.1 h1))
theorem all60 : ∀ g con, lookC L60 g = some con → FunOk Try.prog B (g % 1000000) con := gam_cons rfl ok60 all34

theorem ok30 : FunOk Try.prog B 30 c30 := glue L60 all60 plan30 Try.func30 (by kernel_rfl) (by
  rintro ⟨⟨a0, a1, ⟨⟩⟩, a2, a3, ⟨⟩⟩ y r h
  obtain ⟨h1, h2⟩ := Sp07.on_some h
  subst h2
  exact (g30_eq a0 a1 a2 a3).trans (g30_ok a0 a1 a2 a3 r.1.1 r.1.2.1 r.2.1 r.2.2.1 h1))
theorem all30 : ∀ g con, lookC L30 g = some con → FunOk Try.prog B (g % 1000000) con := gam_cons rfl ok30 all60

theorem ok31 : FunOk Try.prog B 31 c31 := glue L30 all30 plan31 Try.func31 (by kernel_rfl) (by
  rintro ⟨⟨a0, a1, ⟨⟩⟩, a2, ⟨⟩⟩ y r h
  obtain ⟨h1, h2⟩ := Sp07.on_some h
  subst h2
  exact (g31_eq a0 a1 a2).trans (g31_ok a0 a1 a2 r.1.1 r.1.2.1 r.2.1 h1))
theorem all31 : ∀ g con, lookC L31 g = some con → FunOk Try.prog B (g % 1000000) con := gam_cons rfl ok31 all30

theorem ok32 : FunOk Try.prog B 32 c32 := glue L31 all31 plan32 Try.func32 (by kernel_rfl) (by
  rintro ⟨⟨a0, a1, ⟨⟩⟩, ⟨a2, a3, ⟨⟩⟩, a4, ⟨⟩⟩ y r h
  obtain ⟨h1, h2⟩ := Sp07.on_some h
  subst h2
  exact (g32_eq a0 a1 a2 a3 a4).trans (g32_ok a0 a1 a2 a3 a4 r.1.1 r.1.2.1 r.2.1.1 r.2.1.2.1 r.2.2.1 h1))
theorem all32 : ∀ g con, lookC L32 g = some con → FunOk Try.prog B (g % 1000000) con := gam_cons rfl ok32 all31
end Go.Abs.C07

namespace Go.Abs.C07
open Go Go.Proofs Sp07
set_option maxRecDepth 100000

theorem sameR_iff : ∀ {a b : List Rc}, sameR a b = true ↔ a = b
  | [], [] => by simp [sameR]
  | [], _ :: _ => by simp [sameR]
  | _ :: _, [] => by simp [sameR]
  | x :: a, y :: b => by
    obtain ⟨x1, x2, x3, ⟨⟩⟩ := x
    obtain ⟨y1, y2, y3, ⟨⟩⟩ := y
    simp only [sameR, Bool.and_eq_true, decide_eq_true_eq, sameR_iff (a := a) (b := b), List.cons.injEq, Prod.mk.injEq, and_true]
    simp only [and_assoc]
theorem sameA_iff {a b : Ad} : sameA a b = true ↔ a = b := by
  obtain ⟨a1, a2, a3, a4, a5, ⟨⟩⟩ := a
  obtain ⟨b1, b2, b3, b4, b5, ⟨⟩⟩ := b
  simp only [sameA, Bool.and_eq_true, decide_eq_true_eq, sameR_iff, beq_iff_eq, Prod.mk.injEq, and_true]
  simp only [and_assoc]
theorem sameA_self (a : Ad) : sameA a a = true := sameA_iff.2 rfl

section
variable {a : Ad}
end

end Go.Abs.C07

namespace Go.Abs.C07
open Go Go.Proofs Sp07
set_option maxRecDepth 100000

end Go.Abs.C07
