/- Chapter 19: proved is that the laws DetectStays and DetectNotices keep the contract true for every input; no conditions. -/
import Derived.Test.YtjhfiaheknhodaaDoorRunC
set_option linter.unusedVariables false
set_option linter.unusedSimpArgs false
/- Chapter 19: the law DetectStays. -/
namespace Go.Abs.C19
open Go Go.Proofs

theorem both_up {la lb ma mb : Int} (x : Int) (a1 : 1 ≤ la) (a2 : la ≤ 20) (b1 : 1 ≤ lb) (b2 : lb ≤ 20) (m1 : 0 ≤ ma) (m2 : ma < la) (n1 : 0 ≤ mb) (n2 : mb < lb) :
    Sp19.both (2, la, ma, ()) (2, lb, mb, ()) [x] = ((bif Sp19.noBit x 2 then (2, la, 0, ()) else (2, la, ma + 1, ())), (bif Sp19.noBit x 1 then (2, lb, 0, ()) else (2, lb, mb + 1, ())), 0, ()) := by
  have va := valid_mk (a := 2) (by omega) (by omega) a1 a2 m1 (by omega) (.inl (by omega))
  have vb := valid_mk (a := 2) (by omega) (by omega) b1 b2 n1 (by omega) (.inl (by omega))
  have ta : Sp19.tick (2, la, ma, ()) = (2, la, ma + 1, ()) := by
    unfold Sp19.tick
    have : ¬ ma = la := by omega
    simp [va, this]
  have tb : Sp19.tick (2, lb, mb, ()) = (2, lb, mb + 1, ()) := by
    unfold Sp19.tick
    have : ¬ mb = lb := by omega
    simp [vb, this]
  have va' := tick_valid va
  have vb' := tick_valid vb
  rw [ta] at va'
  rw [tb] at vb'
  have ha : Sp19.hear (2, la, ma + 1, ()) 2 = (2, la, 0, ()) := by
    unfold Sp19.hear
    rw [va']
    rfl
  have hb : Sp19.hear (2, lb, mb + 1, ()) 2 = (2, lb, 0, ()) := by
    unfold Sp19.hear
    rw [vb']
    rfl
  unfold Sp19.both
  rw [va, vb]
  have hl : decide ([x].length ≤ 300) = true := rfl
  have hr : Sp19.rounds ((2, la, ma, ()), (2, lb, mb, ())) [x] = Sp19.round ((2, la, ma, ()), (2, lb, mb, ())) x := rfl
  rw [hl, hr]
  unfold Sp19.round
  simp only [ta, tb, ha, hb, Bool.and_self, cond_true]

theorem or2 : IntKind.wrap .i64 (Int.ofNat (BitVec.toNat (BitVec.or (BitVec.ofInt 64 0) (BitVec.ofInt 64 2)))) = 2 ∧ IntKind.wrap .i64 (Int.ofNat (BitVec.toNat (BitVec.or (BitVec.ofInt 64 1) (BitVec.ofInt 64 2)))) = 3 := ⟨by decide, by decide⟩
theorem bits4 : Sp19.noBit 0 1 = true ∧ Sp19.noBit 0 2 = true ∧ Sp19.noBit 1 1 = false ∧ Sp19.noBit 1 2 = true ∧ Sp19.noBit 2 1 = true ∧ Sp19.noBit 2 2 = false ∧ Sp19.noBit 3 1 = false ∧ Sp19.noBit 3 2 = false := by
  refine ⟨?_, ?_, ?_, ?_, ?_, ?_, ?_, ?_⟩ <;> decide

/-- What stays true: both ends are up, and what each has missed is what was lost. -/
def Stays (v : Int × Sp19.S × Sp19.S × Int × Int × Bool × Sp19.Tp × Unit) : Prop :=
  ∃ (i la lb ma mb : Int) (t : Sp19.Tp), v = (i, (2, lb, mb, ()), (2, la, ma, ()), ma, mb, false, t, ()) ∧ 0 ≤ i ∧ i ≤ 40 ∧ 1 ≤ la ∧ la ≤ 20 ∧ 1 ≤ lb ∧ lb ≤ 20 ∧ 0 ≤ ma ∧ ma < la ∧ 0 ≤ mb ∧ mb < lb ∧ Sp19.wf t = true

theorem loop5 {v : Int × Sp19.S × Sp19.S × Int × Int × Bool × Sp19.Tp × Unit} (hv : Stays v) : Loop g5_s0 v = some (false, (false, ()), (false, ())) := by
  refine Loop_inv Stays (fun v => (40 - v.1).toNat) (fun _ => (false, (false, ()), (false, ()))) ?_ hv
  rintro _ ⟨i, la, lb, ma, mb, t, rfl, i1, i2, a1, a2, b1, b2, m1, m2, n1, n2, w⟩
  have stop : (i < 40 ∧ Sp19.more t = true) ∨ g5_s0 (i, (2, lb, mb, ()), (2, la, ma, ()), ma, mb, false, t, ()) = some (.inr (false, (false, ()), (false, ()))) := by
    by_cases h : i < 40
    · cases hm : Sp19.more t with
      | true => exact .inl ⟨h, rfl⟩
      | false => right; unfold g5_s0; simp only [h, hm, decide_true, cond_true, cond_false, Option.bind_some]
    · right; unfold g5_s0; simp only [h, decide_false, cond_false, Option.bind_some]
  rcases stop with ⟨hi, hm⟩ | h
  · right
    have w1 := next_wf (n := 3) w
    have w2 := next_wf (n := 3) w1
    have e1 : IntKind.wrap .i64 (i + 1) = i + 1 := wrap_id (by omega) (by omega)
    have e2 : IntKind.wrap .i64 (mb + 1) = mb + 1 := wrap_id (by omega) (by omega)
    have e3 : IntKind.wrap .i64 (ma + 1) = ma + 1 := wrap_id (by omega) (by omega)
    have key : ∀ x, ∃ v', (x = 0 ∨ x = 1 ∨ x = 2 ∨ x = 3) → True := fun x => ⟨0, fun _ => trivial⟩
    -- the new losses
    by_cases c1 : (Sp19.next t 3).1 > 0 ∧ mb + 1 < lb
    · by_cases c2 : (Sp19.next (Sp19.next t 3).2 3).1 > 0 ∧ ma + 1 < la
      · refine ⟨(i + 1, (2, lb, mb + 1, ()), (2, la, ma + 1, ()), ma + 1, mb + 1, false, (Sp19.next (Sp19.next t 3).2 3).2, ()), ?_, ⟨i + 1, la, lb, ma + 1, mb + 1, _, rfl, by omega, by omega, a1, a2, b1, b2, by omega, by omega, by omega, by omega, w2⟩, by simp only; omega, rfl⟩
        have hb := both_up 3 a1 a2 b1 b2 m1 m2 n1 n2
        simp only [bits4.2.2.2.2.2.2.1, bits4.2.2.2.2.2.2.2, cond_false] at hb
        unfold g5_s0
        simp only [hi, hm, w, w1, e1, e2, e3, c1.1, c1.2, c2.1, c2.2, or2.2, hb, decide_true, cond_true, cond_false, on_true, Option.bind_some, Bool.not_true, Bool.not_false]
      · refine ⟨(i + 1, (2, lb, mb + 1, ()), (2, la, 0, ()), 0, mb + 1, false, (Sp19.next (Sp19.next t 3).2 3).2, ()), ?_, ⟨i + 1, la, lb, 0, mb + 1, _, rfl, by omega, by omega, a1, a2, b1, b2, by omega, by omega, by omega, by omega, w2⟩, by simp only; omega, rfl⟩
        have hb := both_up 1 a1 a2 b1 b2 m1 m2 n1 n2
        simp only [bits4.2.2.1, bits4.2.2.2.1, cond_true, cond_false] at hb
        unfold g5_s0
        by_cases d1 : (Sp19.next (Sp19.next t 3).2 3).1 > 0
        · have d2 : ¬ ma + 1 < la := fun h => c2 ⟨d1, h⟩
          simp only [hi, hm, w, w1, e1, e2, e3, c1.1, c1.2, d1, d2, hb, decide_true, decide_false, cond_true, cond_false, on_true, Option.bind_some, Bool.not_true, Bool.not_false]
        · simp only [hi, hm, w, w1, e1, e2, e3, c1.1, c1.2, d1, hb, decide_true, decide_false, cond_true, cond_false, on_true, Option.bind_some, Bool.not_true, Bool.not_false]
    · by_cases c2 : (Sp19.next (Sp19.next t 3).2 3).1 > 0 ∧ ma + 1 < la
      · refine ⟨(i + 1, (2, lb, 0, ()), (2, la, ma + 1, ()), ma + 1, 0, false, (Sp19.next (Sp19.next t 3).2 3).2, ()), ?_, ⟨i + 1, la, lb, ma + 1, 0, _, rfl, by omega, by omega, a1, a2, b1, b2, by omega, by omega, by omega, by omega, w2⟩, by simp only; omega, rfl⟩
        have hb := both_up 2 a1 a2 b1 b2 m1 m2 n1 n2
        simp only [bits4.2.2.2.2.1, bits4.2.2.2.2.2.1, cond_true, cond_false] at hb
        unfold g5_s0
        by_cases d1 : (Sp19.next t 3).1 > 0
        · have d2 : ¬ mb + 1 < lb := fun h => c1 ⟨d1, h⟩
          simp only [hi, hm, w, w1, e1, e2, e3, c2.1, c2.2, d1, d2, or2.1, hb, decide_true, decide_false, cond_true, cond_false, on_true, Option.bind_some, Bool.not_true, Bool.not_false]
        · simp only [hi, hm, w, w1, e1, e2, e3, c2.1, c2.2, d1, or2.1, hb, decide_true, decide_false, cond_true, cond_false, on_true, Option.bind_some, Bool.not_true, Bool.not_false]
      · refine ⟨(i + 1, (2, lb, 0, ()), (2, la, 0, ()), 0, 0, false, (Sp19.next (Sp19.next t 3).2 3).2, ()), ?_, ⟨i + 1, la, lb, 0, 0, _, rfl, by omega, by omega, a1, a2, b1, b2, by omega, by omega, by omega, by omega, w2⟩, by simp only; omega, rfl⟩
        have hb := both_up 0 a1 a2 b1 b2 m1 m2 n1 n2
        simp only [bits4.1, bits4.2.1, cond_true] at hb
        unfold g5_s0
        by_cases d1 : (Sp19.next t 3).1 > 0
        · have d2 : ¬ mb + 1 < lb := fun h => c1 ⟨d1, h⟩
          by_cases d3 : (Sp19.next (Sp19.next t 3).2 3).1 > 0
          · have d4 : ¬ ma + 1 < la := fun h => c2 ⟨d3, h⟩
            simp only [hi, hm, w, w1, e1, e2, e3, d1, d2, d3, d4, hb, decide_true, decide_false, cond_true, cond_false, on_true, Option.bind_some, Bool.not_true, Bool.not_false]
          · simp only [hi, hm, w, w1, e1, e2, e3, d1, d2, d3, hb, decide_true, decide_false, cond_true, cond_false, on_true, Option.bind_some, Bool.not_true, Bool.not_false]
        · by_cases d3 : (Sp19.next (Sp19.next t 3).2 3).1 > 0
          · have d4 : ¬ ma + 1 < la := fun h => c2 ⟨d3, h⟩
            simp only [hi, hm, w, w1, e1, e2, e3, d1, d3, d4, hb, decide_true, decide_false, cond_true, cond_false, on_true, Option.bind_some, Bool.not_true, Bool.not_false]
          · simp only [hi, hm, w, w1, e1, e2, e3, d1, d3, hb, decide_true, decide_false, cond_true, cond_false, on_true, Option.bind_some, Bool.not_true, Bool.not_false]
  · exact .inl h

theorem g5_ok (l : List Int) : g5 l = some (true, ()) := by
  have w0 := tape_wf l
  have w1 := session_wf (n := 0) w0
  have w2 := session_wf (n := 0) w1
  have s0 : Sp19.small 0 = true := rfl
  obtain ⟨_, _, a1, a2, _⟩ := valid_iff (session_valid (Sp19.tape l))
  obtain ⟨_, _, b1, b2, _⟩ := valid_iff (session_valid (Sp19.session (Sp19.tape l) 0).2)
  have hl := loop5 (v := (0, (2, (Sp19.session (Sp19.session (Sp19.tape l) 0).2 0).1.2.1, 0, ()), (2, (Sp19.session (Sp19.tape l) 0).1.2.1, 0, ()), 0, 0, false, (Sp19.session (Sp19.session (Sp19.tape l) 0).2 0).2, ()))
    ⟨0, _, _, 0, 0, _, rfl, by omega, by omega, a1, a2, b1, b2, by omega, by omega, by omega, by omega, w2⟩
  unfold g5
  simp only [w0, w1, s0, hl, Bool.and_self, on_true, Option.bind_some, cond_false]
theorem ok5 : FunOk Tryd.prog B 5 c5 := glue L31 all31 plan5 Tryd.func5 (by kernel_rfl) (by
  rintro ⟨⟨⟩, l, ⟨⟩⟩ y r h
  exact (g5_eq l).trans ((g5_ok l).trans h))
end Go.Abs.C19

/- Chapter 19: the law DetectNotices. -/
namespace Go.Abs.C19
open Go Go.Proofs

theorem both_one {a b : Sp19.S} (va : Sp19.valid a = true) (vb : Sp19.valid b = true) : Sp19.both a b [1] = (Sp19.hear (Sp19.tick a) (Sp19.tick b).1, Sp19.tick b, 0, ()) := by
  unfold Sp19.both
  rw [va, vb]
  have hl : decide ([(1 : Int)].length ≤ 300) = true := rfl
  have hr : Sp19.rounds (a, b) [1] = Sp19.round (a, b) 1 := rfl
  have h1 : Sp19.noBit 1 1 = false := by decide
  have h2 : Sp19.noBit 1 2 = true := by decide
  rw [hl, hr]
  unfold Sp19.round
  simp only [h1, h2, Bool.and_self, cond_true, cond_false]

/-- Rounds in which one end hears nothing. -/
def Deaf (v : Int × Sp19.S × Sp19.S × Bool × Bool × Unit) : Prop :=
  ∃ (i : Int) (sb lb mb : Int) (a : Sp19.S) (d : Bool), v = (i, (sb, lb, mb, ()), a, d, false, ()) ∧ Sp19.valid a = true ∧ Sp19.valid (sb, lb, mb, ()) = true ∧ 0 ≤ i ∧ i ≤ lb + 5 ∧
    (d = true → sb = 0) ∧ (d = false → (i = 0 ∨ sb ≠ 0) ∧ (sb ≠ 0 → i ≤ mb))

theorem loop8 {v : Int × Sp19.S × Sp19.S × Bool × Bool × Unit} (hv : Deaf v) : Loop g8_s0 v = some (false, (false, ()), (false, ())) := by
  refine Loop_inv Deaf (fun v => (v.2.1.2.1 + 5 - v.1).toNat) (fun _ => (false, (false, ()), (false, ()))) ?_ hv
  rintro _ ⟨i, sb, lb, mb, a, d, rfl, va, vb, i1, i2, hd1, hd2⟩
  obtain ⟨s1, s2, l1, l2, m1, m2, sm⟩ := valid_iff vb
  simp only at s1 s2 l1 l2 m1 m2 sm
  have hw : Sp19.within lb = lb + 2 := by
    unfold Sp19.within Sp19.validLimit
    simp [l1, l2]
  have e0 : IntKind.wrap .i64 (lb + 2 + 3) = lb + 2 + 3 := wrap_id (by omega) (by omega)
  have e1 : IntKind.wrap .i64 (i + 1) = i + 1 := wrap_id (by omega) (by omega)
  by_cases hi : i < lb + 2 + 3
  · right
    have hb := both_one va vb
    have vx : Sp19.valid (Sp19.hear (Sp19.tick a) (Sp19.tick (sb, lb, mb, ())).1) = true := hear_valid (tick_valid va)
    have vy := tick_valid vb
    -- the deaf end's next state
    by_cases h0 : sb = 0
    · have ht : Sp19.tick (sb, lb, mb, ()) = (0, lb, mb, ()) := by
        unfold Sp19.tick
        rw [vb]
        simp [h0]
      rw [ht] at vy
      have hx : ¬ (Sp19.hear (Sp19.tick a) 0).1 = 2 := hear_down
      rw [ht] at hb vx
      refine ⟨(i + 1, (0, lb, mb, ()), Sp19.hear (Sp19.tick a) 0, true, false, ()), ?_, ⟨i + 1, 0, lb, mb, _, true, rfl, vx, vy, by omega, by omega, fun _ => rfl, fun h => by cases h⟩, by simp only; omega, rfl⟩
      unfold g8_s0
      cases d with
      | true => simp only [hw, e0, e1, hi, hb, hx, decide_true, decide_false, Bool.not_true, Bool.not_false, cond_true, cond_false, Option.bind_some]; simp
      | false => simp only [hw, e0, e1, hi, hb, hx, decide_true, decide_false, Bool.not_true, Bool.not_false, cond_true, cond_false, Option.bind_some]; simp
    · have hdf : d = false := by
        cases d with
        | false => rfl
        | true => exact absurd (hd1 rfl) h0
      subst hdf
      have hm := (hd2 rfl).2 h0
      by_cases h9 : mb = lb
      · have ht : Sp19.tick (sb, lb, mb, ()) = (0, lb, 0, ()) := by
          unfold Sp19.tick
          rw [vb]
          simp [h0, h9]
        rw [ht] at vy
        have hx : ¬ (Sp19.hear (Sp19.tick a) 0).1 = 2 := hear_down
        rw [ht] at hb vx
        refine ⟨(i + 1, (0, lb, 0, ()), Sp19.hear (Sp19.tick a) 0, true, false, ()), ?_, ⟨i + 1, 0, lb, 0, _, true, rfl, vx, vy, by omega, by omega, fun _ => rfl, fun h => by cases h⟩, by simp only; omega, rfl⟩
        unfold g8_s0
        simp only [hw, e0, e1, hi, hb, hx, decide_true, decide_false, Bool.not_true, Bool.not_false, cond_true, cond_false, Option.bind_some]; simp
      · have ht : Sp19.tick (sb, lb, mb, ()) = (sb, lb, mb + 1, ()) := by
          unfold Sp19.tick
          rw [vb]
          simp [h0, h9]
        rw [ht] at vy
        rw [ht] at hb vx
        refine ⟨(i + 1, (sb, lb, mb + 1, ()), Sp19.hear (Sp19.tick a) sb, false, false, ()), ?_, ⟨i + 1, sb, lb, mb + 1, _, false, rfl, vx, vy, by omega, by omega, (fun h => by cases h), fun _ => ⟨.inr h0, fun _ => by omega⟩⟩, by simp only; omega, rfl⟩
        have hq : ¬ i + 1 ≥ lb + 2 := by omega
        unfold g8_s0
        simp only [hw, e0, e1, hi, hb, h0, hq, decide_true, decide_false, Bool.not_true, Bool.not_false, cond_true, cond_false, Option.bind_some]
  · left
    unfold g8_s0
    simp only [hw, e0, hi, decide_false, cond_false]

theorem g8_ok (l : List Int) : g8 l = some (true, ()) := by
  have w0 := tape_wf l
  have w1 := session_wf (n := 0) w0
  have s0 : Sp19.small 0 = true := rfl
  have va := session_valid (Sp19.tape l)
  have vb := session_valid (Sp19.session (Sp19.tape l) 0).2
  have hl : Loop g8_s0 (0, (Sp19.session (Sp19.session (Sp19.tape l) 0).2 0).1, (Sp19.session (Sp19.tape l) 0).1, false, false, ()) = some (false, (false, ()), (false, ())) := by
    generalize (Sp19.session (Sp19.session (Sp19.tape l) 0).2 0).1 = b at vb
    obtain ⟨sb, lb, mb, ⟨⟩⟩ := b
    obtain ⟨s1, s2, l1, l2, m1, m2, sm⟩ := valid_iff vb
    simp only at s1 s2 l1 l2 m1 m2 sm
    exact loop8 ⟨0, sb, lb, mb, _, false, rfl, va, vb, by omega, by omega, (fun h => by cases h), fun _ => ⟨.inl rfl, fun _ => m1⟩⟩
  unfold g8
  simp only [w0, w1, s0, hl, Bool.and_self, on_true, Option.bind_some, cond_false]
theorem ok8 : FunOk Tryd.prog B 8 c8 := glue L31 all31 plan8 Tryd.func8 (by kernel_rfl) (by
  rintro ⟨⟨⟩, l, ⟨⟩⟩ y r h
  exact (g8_eq l).trans ((g8_ok l).trans h))
end Go.Abs.C19
