/- Proved is the statement of the law StackPushes: for every input the law returns true, and each argument reads as it did. -/
import Derived.Test.YtahapkbjmfmaaaaRunQ
set_option linter.unusedVariables false
set_option linter.unusedSimpArgs false
namespace Go.Abs.C04
open Go Go.Proofs Sp04
set_option maxRecDepth 100000

theorem on_tt {α : Type} (x : α) : Sp04.on true x = some x := rfl
theorem mut7 {k : Int} {t : Tp} {b : List Int} (h : 0 ≤ k ∧ k ≤ 3 ∧ wf t = true ∧ (b.length : Int) + k ≤ 300) : ∃ e, Loop g7_s0 (k, t, b, ()) = some e := by
  have := Loop_post (step := g7_s0) (fun v : Int × Tp × List Int × Unit => 0 ≤ v.1 ∧ v.1 ≤ 3 ∧ wf v.2.1 = true ∧ (v.2.2.1.length : Int) + v.1 ≤ 300) (fun v : Int × Tp × List Int × Unit => v.1.toNat) (fun e : List Int × Unit => True) ?_ (v := (k, t, b, ())) h
  · obtain ⟨e, he, -⟩ := this
    exact ⟨e, he⟩
  rintro ⟨k, t, b, ⟨⟩⟩ ⟨p1, p2, p3, p5⟩
  simp only at p1 p2 p3 p5
  unfold g7_s0
  by_cases hk : 0 < k
  rotate_left
  · left
    refine ⟨(b, ()), ?_, trivial⟩
    simp only [gt_iff_lt, hk, decide_false, cond_false, Option.bind_some]
  by_cases hb : (0 : Int) < Int.ofNat b.length
  rotate_left
  · left
    refine ⟨(b, ()), ?_, trivial⟩
    simp only [gt_iff_lt, hk, hb, decide_true, decide_false, cond_true, cond_false, Option.bind_some]
  right
  simp only [gt_iff_lt, hk, hb, decide_true, cond_true, Option.bind_some]
  rw [on_true p3]
  simp only [Option.bind_some]
  have hb2 : 0 < b.length := by simp only [Int.ofNat_eq_natCast] at hb; omega
  have hbe : Int.ofNat b.length = (b.length : Int) := rfl
  have hm : 0 < (bif decide (24 < Int.ofNat b.length) then (24 : Int) else Int.ofNat b.length) ∧ (bif decide (24 < Int.ofNat b.length) then (24 : Int) else Int.ofNat b.length) ≤ (b.length : Int) := by
    by_cases h : 24 < Int.ofNat b.length
    · rw [decide_eq_true h]; show (0 : Int) < 24 ∧ (24 : Int) ≤ (b.length : Int); omega
    · rw [decide_eq_false h]; show (0 : Int) < Int.ofNat b.length ∧ Int.ofNat b.length ≤ (b.length : Int); omega
  generalize (bif decide (24 < Int.ofNat b.length) then (24 : Int) else Int.ofNat b.length) = m at hm ⊢
  have r2 := next_range (t := t) (n := m) hm.1
  have w1 := next_wf (n := m) p3
  generalize next t m = y2 at r2 w1 ⊢
  rw [on_true w1]
  simp only [Option.bind_some]
  have w2 := next_wf (n := 4) w1
  generalize next y2.2 4 = y3 at w2 ⊢
  have ek : IntKind.wrap .i64 (k - 1) = k - 1 := wi64 (by omega) (by omega)
  have hlt : y2.1 < Int.ofNat b.length := by omega
  have hle : y2.1 ≤ Int.ofNat b.length := by omega
  have c1 : Nat.blt y2.1.toNat b.length = true := Nat.ble_eq_true_of_le (by omega)
  have c3 : Nat.ble ((b.length + 1) * 1) 140737488355328 = true := Nat.ble_eq_true_of_le (by omega)
  have z10 : ((1 : Int) = 0) = False := eq_false (by decide)
  have z20 : ((2 : Int) = 0) = False := eq_false (by decide)
  have z21 : ((2 : Int) = 1) = False := eq_false (by decide)
  rw [on_true w2]
  simp only [ek, r2.1, hlt, hle, c1, c3, decide_true, Bool.and_self, cond_true]
  by_cases c0 : y3.1 = 0
  · have w3 := next_wf (n := 256) w2
    simp only [c0, decide_true, cond_true, Option.bind_some]
    exact ⟨_, rfl, ⟨by simp only; omega, by simp only; omega, w3, by simp only [List.length_set]; omega⟩, by simp only; omega⟩
  by_cases c1 : y3.1 = 1
  · simp only [c1, z10, decide_true, decide_false, cond_true, cond_false, Option.bind_some]
    exact ⟨_, rfl, ⟨by simp only; omega, by simp only; omega, w2, by simp only [List.length_set]; omega⟩, by simp only; omega⟩
  by_cases c2 : y3.1 = 2
  · simp only [c2, z20, z21, decide_true, decide_false, cond_true, cond_false, Option.bind_some]
    exact ⟨_, rfl, ⟨by simp only; omega, by simp only; omega, w2, by simp only [List.length_take]; omega⟩, by simp only; omega⟩
  · simp only [c0, c1, c2, decide_false, cond_false, Option.bind_some]
    exact ⟨_, rfl, ⟨by simp only; omega, by simp only; omega, w2, by simp only [List.length_append, List.length_cons, List.length_nil]; omega⟩, by simp only; omega⟩
theorem tail7 (raw b : List Int) : Loop (g7_s1 raw) ((0 : Int), [b, raw], ()) = some (false, (false, ()), ()) := by
  by_cases hr : Int.ofNat raw.length ≤ 400
  · refine loop_up (g7_s1 raw) [b, raw] _ ?_ ?_
    · intro i hi
      have hi2 : i < 2 := hi
      unfold g7_s1
      simp only [hr, Int.toNat_natCast, sameF_self, eq_self, decide_true, Bool.not_true, Bool.not_false, cond_true, cond_false, Option.bind_some]
      rw [decide_eq_true (show (i : Int) < 2 by omega), decide_eq_true (show (0 : Int) ≤ (i : Int) by omega), decide_eq_true (show (i : Int) < Int.ofNat [b, raw].length by show (i : Int) < 2; omega), show Nat.blt i [b, raw].length = true from Nat.ble_eq_true_of_le hi, wi64 (n := (i : Int) + 1) (by omega) (by omega)]
      rfl
    · rfl
  · rw [Loop_step]
    unfold g7_s1
    simp only [hr, decide_false]
    rfl

theorem g7_ok (a0 a1) (r0 : (Ty.sl (.int .i64)).ok a0) (r1 : (Ty.sl (.int .u8)).ok a1) : g7 a0 a1 = some (true, ()) := by
  have w0 := tape_wf a0
  unfold g7
  rw [on_true (show (wf (Sp04.tape a0) && small 0) = true by rw [w0]; rfl)]
  simp only [Option.bind_some]
  have w1 := (frm_good (n := 0) w0).1
  generalize frm (Sp04.tape a0) 0 = y2 at w1 ⊢
  rw [on_true w1]
  simp only [Option.bind_some]
  have r3 := next_range (t := y2.2) (n := 4) (by decide)
  have w2 := next_wf (n := 4) w1
  generalize next y2.2 4 = y3 at r3 w2 ⊢
  have hl := encF_len y2.1
  obtain ⟨e, q⟩ := mut7 (k := y3.1) (t := y3.2) (b := (encF y2.1).1) ⟨r3.1, by omega, w2, by omega⟩
  rw [q]
  simp only [Option.bind_some]
  rw [tail7]
  rfl

theorem pop_push (f : Fr) (n : Int) (hn : router n = true) (h : (push f [n]).2.1 = 0) : pop (push f [n]).1 = (n, f, true, ()) := by
  unfold push at h ⊢
  cases hv : validF f with
  | false => rw [hv] at h; cases h
  | true =>
    rw [hv] at h
    have hs : ([n] : List Int).any stray = false := by
      show (stray n || false) = false
      unfold stray
      rw [hn]
      rfl
    rw [hs] at h ⊢
    by_cases h1 : 24 < ([n] ++ f.1).length
    · rw [decide_eq_true h1] at h; cases h
    rw [decide_eq_false h1] at h ⊢
    cases h2 : twice ([n] ++ f.1) with
    | true => rw [h2] at h; cases h
    | false =>
      obtain ⟨v1, v2, v3, v4⟩ := validF_iff hv
      have hok : validF ([n] ++ f.1, f.2) = true := by
        unfold validF
        simp only [h2, v4, Bool.not_false, Bool.and_true, Bool.and_eq_true, decide_eq_true_eq]
        refine ⟨by omega, ?_⟩
        rw [List.all_append, v2]
        show ((router n && true) && true) = true
        rw [hn]
        rfl
      simp only [Bool.not_true, cond_false]
      unfold pop
      rw [hok]
      rfl

theorem g8_ok (a0 a1 a2 a3 a4 a5 a6 a7 a8 a9 a10 a11 a12) (r0 : (Ty.sl (.int .i64)).ok a0) (r1 : (Ty.sl (.int .i64)).ok a1) (r2 : IntKind.i64.has a2) (r3 : IntKind.i64.has a3) (r4 : IntKind.i64.has a4) (r5 : IntKind.i64.has a5) (r6 : IntKind.i64.has a6) (r7 : IntKind.i64.has a7) (r8 : IntKind.i64.has a8) (r9 : IntKind.i64.has a9) (r10 : IntKind.u64.has a10) (r11 : Ty.str.ok a11) (r12 : (Ty.sl (.int .i64)).ok a12) : g8 a0 a1 a2 a3 a4 a5 a6 a7 a8 a9 a10 a11 a12 = some (true, ()) := by
  have w0 := tape_wf a0
  unfold g8
  rw [on_true (show (wf (Sp04.tape a0) && small 5) = true by rw [w0]; rfl)]
  simp only [Option.bind_some]
  obtain ⟨w1, hl, -, -⟩ := frm_good (n := 5) w0
  generalize frm (Sp04.tape a0) 5 = y13 at w1 hl ⊢
  rw [on_true (show (wf y13.2 && inside 3 0 1000 && small 1 && small 8) = true by rw [w1]; rfl)]
  simp only [Option.bind_some]
  have w2 : wf (ints y13.2 3 1 8).2 = true := (intsN_wf (range_wf (a := 0) (b := 3) w1) _).1
  have hi : (ints y13.2 3 1 8).1.length ≤ 3 := by
    have h1 := (intsN_wf (lo := 1) (hi := 8) (range_wf (a := 0) (b := 3) w1) (range y13.2 0 3).1.toNat).2
    have h2 := range_in (t := y13.2) (a := 0) (b := 3) (by decide)
    show (intsN 1 8 (range y13.2 0 3).1.toNat (range y13.2 0 3).2).1.length ≤ 3
    omega
  generalize ints y13.2 3 1 8 = y14 at w2 hi ⊢
  rw [on_true (show (wf y14.2 && small 5) = true by rw [w2]; rfl)]
  simp only [Option.bind_some]
  have w3 := one_wf (n := 5) w2
  generalize one y14.2 5 = y15 at w3 ⊢
  rw [on_true w3, show Nat.ble ((y14.1.length + 1) * 8) 140737488355328 = true from Nat.ble_eq_true_of_le (by omega)]
  simp only [Option.bind_some, cond_true]
  obtain ⟨r, hr, hrl⟩ : ∃ r : List Int, (bif y15.1 then some (y14.1 ++ [(wild y15.2).1], ()) else some (y14.1, ())) = some (r, ()) ∧ r.length ≤ 4 := by
    cases y15.1 with
    | true => exact ⟨_, rfl, by rw [List.length_append]; show y14.1.length + 1 ≤ 4; omega⟩
    | false => exact ⟨_, rfl, by omega⟩
  rw [hr]
  simp only [Option.bind_some]
  have hfl : y13.1.1.length ≤ 100000 := by omega
  have hrl2 : r.length ≤ 100000 := by omega
  simp only [hfl, hrl2, decide_true, Bool.and_self, on_tt, Option.bind_some, sameF_self, Bool.not_true, Bool.not_false, eq_self, cond_true, cond_false]
  obtain ⟨e, he⟩ : ∃ e : Bool × Unit, e = (false, ()) := ⟨_, rfl⟩
  have hmid : (bif (decide ((Int.ofNat a1.length) ≤ 100)) then (some ((decide ((Int.ofNat a12.length) ≤ 100)), ())) else (some (false, ()))) = some (decide ((Int.ofNat a1.length) ≤ 100) && decide ((Int.ofNat a12.length) ≤ 100), ()) := by
    cases decide ((Int.ofNat a1.length) ≤ 100) <;> rfl
  rw [hmid]
  simp only [Option.bind_some]
  have hpop : ∀ (q : Bool), (push y13.1 [77]).2.1 = 0 → (pop (push y13.1 [77]).1).1 = 77 ∧ (pop (push y13.1 [77]).1).2.1 = y13.1 ∧ (pop (push y13.1 [77]).1).2.2.1 = true := by
    intro _ h
    rw [pop_push _ _ (by decide) h]
    exact ⟨rfl, rfl, rfl⟩
  have hfin : (bif (!(!(decide ((push y13.1 [77]).2.1 = 0)))) then (bif (decide ((pop (push y13.1 [77]).1).1 = 77)) then (bif (sameF (pop (push y13.1 [77]).1).2.1 y13.1) then (bif (pop (push y13.1 [77]).1).2.2.1 then (some (true, ())) else (some (false, ()))) else (some (false, ()))) else (some (false, ()))) else (some (true, ()))) = some (true, ()) := by
    by_cases h : (push y13.1 [77]).2.1 = 0
    · obtain ⟨p1, p2, p3⟩ := hpop true h
      simp only [h, p1, p2, p3, sameF_self, decide_true, Bool.not_true, Bool.not_false, cond_true]
    · simp only [h, decide_false, Bool.not_true, Bool.not_false, cond_false]
  by_cases h1 : Int.ofNat a1.length ≤ 100
  · by_cases h2 : Int.ofNat a12.length ≤ 100
    · have g1 : a1.length ≤ 100000 := by simp only [Int.ofNat_eq_natCast] at h1; omega
      have g2 : a12.length ≤ 100000 := by simp only [Int.ofNat_eq_natCast] at h2; omega
      simp only [h1, h2, g1, g2, show 1 ≤ 100000 by decide, decide_true, Bool.and_self, cond_true, cond_false, on_tt, Option.bind_some, sameF_self, Bool.not_true, Bool.not_false, eq_self]
      exact congrArg (fun o => Option.bind o fun y => some y) hfin
    · simp only [h1, h2, show 1 ≤ 100000 by decide, decide_true, decide_false, Bool.and_self, Bool.and_false, cond_true, cond_false, on_tt, Option.bind_some, sameF_self, Bool.not_true, Bool.not_false, eq_self]
      exact congrArg (fun o => Option.bind o fun y => some y) hfin
  · simp only [h1, show 1 ≤ 100000 by decide, decide_true, decide_false, Bool.and_self, Bool.false_and, cond_true, cond_false, on_tt, Option.bind_some, sameF_self, Bool.not_true, Bool.not_false, eq_self]
    exact congrArg (fun o => Option.bind o fun y => some y) hfin
end Go.Abs.C04

namespace Go.Abs.C04
open Go Go.Proofs
set_option maxRecDepth 100000
theorem ok8 : FunOk Try.prog B 8 c8 := glue L16 all16 plan8 Try.func8 (by kernel_rfl) (by
  rintro ⟨⟨⟩, a0, ⟨a1, a2, a3, a4, a5, a6, a7, a8, a9, a10, a11, ⟨⟩⟩, a12, ⟨⟩⟩ y r h
  exact (g8_eq a0 a1 a2 a3 a4 a5 a6 a7 a8 a9 a10 a11 a12).trans ((g8_ok a0 a1 a2 a3 a4 a5 a6 a7 a8 a9 a10 a11 a12 r.2.1 r.2.2.1.1 r.2.2.1.2.1 r.2.2.1.2.2.1 r.2.2.1.2.2.2.1 r.2.2.1.2.2.2.2.1 r.2.2.1.2.2.2.2.2.1 r.2.2.1.2.2.2.2.2.2.1 r.2.2.1.2.2.2.2.2.2.2.1 r.2.2.1.2.2.2.2.2.2.2.2.1 r.2.2.1.2.2.2.2.2.2.2.2.2.1 r.2.2.1.2.2.2.2.2.2.2.2.2.2.1 r.2.2.2.1).trans h))
end Go.Abs.C04

namespace Go.Proofs.Ytahapkbjmfmaaaa
open Go.ChangeShapes Go.WideShapes Go.ChangeAt Go.RowKit Go.Abs Go.Abs.C04

set_option maxRecDepth 100000 in
theorem StackPushes_lifted (os : Os) (started : os.Started) (H : Type) (enc : TypeId × Value → H) :
    ReturnsInHanded {} Try.checked os 8 .any (fun w args => (Rows.stackPushesSpec.pre enc Try.prog Try.f8 Rows.stackPushesRow.domain false w args ∧ True) ∧ sizedMet enc Try.prog Try.f8 (OpenSpec.ofChange Rows.stackPushesSpec) false w args)
      (Rows.stackPushesSpec.post enc Try.prog Try.f8 false true false false) := by
  refine returnsInHanded_of_change_and (C := Try.checked) (X := fun _ _ => True) (fun _ _ _ _ _ => trivial) Try.own started (by kernel_rfl) Try.func8
    (ChangeSpec.witness_at (enc := enc) (C := Try.checked) (os := os) (X := fun _ _ => True) false (laidWorld os) #[.slice none 0 0, .agg #[.slice none 0 0, .int .i64 0, .int .i64 0, .int .i64 0, .int .i64 0, .int .i64 0, .int .i64 0, .int .i64 0, .int .i64 0, .int .u64 0, .string ⟨#[]⟩], .slice none 0 0] 8 rfl (by kernel_rfl) (by kernel_rfl) (by kernel_rfl) (by kernel_rfl) (by kernel_rfl) trivial) ?_
  intro W base args ds gs before hval hW _ hwt hL _
  exact law_row 8 [.sl (.int .i64), .st 112 (.cons (.sl (.int .i64)) (.cons (.st 88 (.cons (.int .i64) (.cons (.int .i64) (.cons (.int .i64) (.cons (.int .i64) (.cons (.int .i64) (.cons (.int .i64) (.cons (.int .i64) (.cons (.int .i64) (.cons (.int .u64) (.cons .str .unit))))))))))) .unit)), .sl (.int .i64)] ok8 rfl Try.laidOut (by kernel_rfl) (by kernel_rfl) rfl (by kernel_rfl) (tb := 4) (by kernel_rfl)
    (fun ds hd => by
      match ds, hd with
      | [d1, d2, d3], _ => rfl) glob_ok hval hW hwt

theorem StackPushes_holds : Rows.StackPushesSaid :=
  OpenClaim.holds_of_wide 8 Try.f8 rfl rfl rfl rfl rfl rfl rfl ⟨rfl, rfl, rfl, rfl, rfl⟩ rfl rfl rfl rfl rfl (by kernel_rfl) Try.func8 (by kernel_rfl)
    (of_decide_eq_true (by kernel_rfl)) (by unfold Func.isWrapper; first | (rw [if_pos (by decide +kernel)]; kernel_rfl) | (rw [if_neg (by decide +kernel)]; exact ⟨rfl, rfl⟩))
    (fun os started H enc _ => by
      show ReturnsInHanded {} Try.checked os 8 .any (fun w args => Rows.stackPushesSpec.pre enc Try.prog Try.f8 Rows.stackPushesRow.domain false w args ∧ sizedMet enc Try.prog Try.f8 (OpenSpec.ofChange Rows.stackPushesSpec) false w args) (Rows.stackPushesSpec.post enc Try.prog Try.f8 false true false false)
      have h := StackPushes_lifted os started H enc
      simp only [and_true] at h
      exact h)
end Go.Proofs.Ytahapkbjmfmaaaa
