/- Chapter 19: proved is that the laws DetectPlays, DetectHears and DetectComes keep the contract true for every input; no conditions. -/
import Derived.Test.YtjhfiaheknhodaaDoorRunB
import Derived.Test.YtjhfiaheknhodaaDoorRows
import Derived.LaidLaws
import Derived.SevenTiedAt
set_option linter.unusedVariables false
set_option linter.unusedSimpArgs false
/- Chapter 19: plain facts of sessions. -/
namespace Go.Abs.C19
open Go Go.Proofs

theorem valid_mk {a l m : Int} (h1 : 0 ≤ a) (h2 : a < 3) (h3 : 1 ≤ l) (h4 : l ≤ 20) (h5 : 0 ≤ m) (h6 : m ≤ l) (h7 : a ≠ 0 ∨ m = 0) : Sp19.valid (a, l, m, ()) = true := by
  simp only [Sp19.valid, Sp19.validLimit, Bool.and_eq_true, Bool.or_eq_true, Bool.not_eq_true', decide_eq_true_eq, decide_eq_false_iff_not]
  exact ⟨⟨⟨⟨⟨h1, h2⟩, h3, h4⟩, h5⟩, h6⟩, h7⟩
theorem after_in {a b : Int} (h1 : 0 ≤ a) (h2 : a < 3) (h3 : 0 ≤ b) (h4 : b < 3) : 0 ≤ Sp19.after a b ∧ Sp19.after a b < 3 := by
  have ha : a = 0 ∨ a = 1 ∨ a = 2 := by omega
  have hb : b = 0 ∨ b = 1 ∨ b = 2 := by omega
  rcases ha with rfl | rfl | rfl <;> rcases hb with rfl | rfl | rfl <;> decide
theorem hear_valid {s : Sp19.S} {r : Int} (h : Sp19.valid s = true) : Sp19.valid (Sp19.hear s r) = true := by
  obtain ⟨a, l, m, ⟨⟩⟩ := s
  unfold Sp19.hear
  rw [h]
  obtain ⟨h1, h2, h3, h4, h5, h6, h7⟩ := valid_iff h
  simp only at h1 h2 h3 h4 h5 h6 h7
  by_cases h8 : 0 ≤ r <;> by_cases h9 : r < 3
  · simp only [h8, h9, decide_true, Bool.and_self, cond_true]
    have := after_in h1 h2 h8 h9
    exact valid_mk this.1 this.2 h3 h4 (Int.le_refl 0) (by omega) (.inr rfl)
  · simp only [h8, h9, decide_true, decide_false, Bool.and_false, cond_true, cond_false]; exact h
  · simp only [h8, h9, decide_true, decide_false, Bool.false_and, cond_true, cond_false]; exact h
  · simp only [h8, h9, decide_false, Bool.false_and, cond_true, cond_false]; exact h
theorem tick_valid {s : Sp19.S} (h : Sp19.valid s = true) : Sp19.valid (Sp19.tick s) = true := by
  obtain ⟨a, l, m, ⟨⟩⟩ := s
  unfold Sp19.tick
  rw [h]
  obtain ⟨h1, h2, h3, h4, h5, h6, h7⟩ := valid_iff h
  simp only at h1 h2 h3 h4 h5 h6 h7
  by_cases h8 : a = 0
  · simp only [h8, decide_true, cond_true]
    rw [← h8]; exact h
  · by_cases h9 : m = l
    · simp only [h8, h9, decide_true, decide_false, cond_true, cond_false]
      exact valid_mk (Int.le_refl 0) (by omega) h3 h4 (Int.le_refl 0) (by omega) (.inr rfl)
    · simp only [h8, h9, decide_false, cond_true, cond_false]
      exact valid_mk h1 h2 h3 h4 (by omega) (by omega) (.inl h8)
theorem hear_down {s : Sp19.S} : (Sp19.hear s 0).1 ≠ 2 := by
  obtain ⟨a, l, m, ⟨⟩⟩ := s
  unfold Sp19.hear
  cases h : Sp19.valid (a, l, m, ()) with
  | false => simp [Sp19.zs]
  | true =>
    obtain ⟨h1, h2, _⟩ := valid_iff h
    simp only at h1 h2
    have ha : a = 0 ∨ a = 1 ∨ a = 2 := by omega
    rcases ha with rfl | rfl | rfl
    · exact (by decide : Sp19.after 0 0 ≠ 2)
    · exact (by decide : Sp19.after 1 0 ≠ 2)
    · exact (by decide : Sp19.after 2 0 ≠ 2)
theorem tick_up {s : Sp19.S} (h : (Sp19.tick s).1 = 2) : s.1 = 2 := by
  obtain ⟨a, l, m, ⟨⟩⟩ := s
  unfold Sp19.tick at h
  cases hv : Sp19.valid (a, l, m, ()) with
  | false => rw [hv] at h; simp [Sp19.zs] at h
  | true =>
    rw [hv] at h
    by_cases h8 : a = 0 <;> by_cases h9 : m = l <;> simp [h8, h9] at h <;> exact h

/-- A fresh session is valid. -/
theorem session0_valid (t : Sp19.Tp) : Sp19.valid (Sp19.session0 t).1 = true := by
  have h1 := next_range (t := t) (n := 3) (by omega)
  have h2 := range_in (t := (Sp19.next t 3).2) (a := 1) (b := 5) (by omega)
  unfold Sp19.session0
  simp only
  by_cases h : (Sp19.next t 3).1 = 0
  · simp only [h, decide_true, cond_true]
    exact valid_mk (Int.le_refl 0) (by omega) h2.1 (by omega) (Int.le_refl 0) (by omega) (.inr rfl)
  · simp only [h, decide_false, cond_false]
    have h3 := next_range (t := (Sp19.range (Sp19.next t 3).2 1 5).2) (n := (Sp19.range (Sp19.next t 3).2 1 5).1 + 1) (by omega)
    exact valid_mk h1.1 h1.2 h2.1 (by omega) h3.1 (by omega) (.inl h)
theorem session_zero (t : Sp19.Tp) : Sp19.session t 0 = Sp19.session0 t := by
  unfold Sp19.session
  simp
theorem session_valid (t : Sp19.Tp) : Sp19.valid (Sp19.session t 0).1 = true := by rw [session_zero]; exact session0_valid t

/-! Rounds without losses. -/
theorem noBit0 : Sp19.noBit 0 1 = true ∧ Sp19.noBit 0 2 = true := ⟨by decide, by decide⟩
/-- A state from which all goes well: nothing missed. -/
def clean (p : Sp19.S × Sp19.S) (s t la lb : Int) : Prop := p = ((s, la, 0, ()), (t, lb, 0, ()))
theorem tick_state {s : Sp19.S} (h : Sp19.valid s = true) : ∃ a m, Sp19.tick s = (a, s.2.1, m, ()) ∧ 0 ≤ a ∧ a < 3 := by
  obtain ⟨a, l, m, ⟨⟩⟩ := s
  obtain ⟨h1, h2, h3, h4, h5, h6, h7⟩ := valid_iff h
  simp only at h1 h2 h3 h4 h5 h6 h7
  unfold Sp19.tick
  rw [h]
  by_cases h8 : a = 0
  · exact ⟨a, m, by simp [h8], h1, h2⟩
  · by_cases h9 : m = l
    · exact ⟨0, 0, by simp [h8, h9], by omega, by omega⟩
    · exact ⟨a, m + 1, by simp [h8, h9], h1, h2⟩
theorem round0 {a b : Sp19.S} (ha : Sp19.valid a = true) (hb : Sp19.valid b = true) : ∃ x y, 0 ≤ x ∧ x < 3 ∧ 0 ≤ y ∧ y < 3 ∧ Sp19.round (a, b) 0 = ((Sp19.after x y, a.2.1, 0, ()), (Sp19.after y x, b.2.1, 0, ())) := by
  obtain ⟨x, mx, hx, x1, x2⟩ := tick_state ha
  obtain ⟨y, my, hy, y1, y2⟩ := tick_state hb
  have vx := tick_valid ha
  have vy := tick_valid hb
  rw [hx] at vx
  rw [hy] at vy
  refine ⟨x, y, x1, x2, y1, y2, ?_⟩
  unfold Sp19.round
  simp only [hx, hy, noBit0.1, noBit0.2, cond_true]
  unfold Sp19.hear
  simp only [vx, vy, x1, x2, y1, y2, decide_true, Bool.and_self, cond_true]
theorem tick_clean {s l : Int} (h1 : 0 ≤ s) (h2 : s < 3) (h3 : 1 ≤ l) (h4 : l ≤ 20) : ∃ m, Sp19.tick (s, l, 0, ()) = (s, l, m, ()) := by
  have hv : Sp19.valid (s, l, 0, ()) = true := valid_mk h1 h2 h3 h4 (Int.le_refl 0) (by omega) (.inr rfl)
  unfold Sp19.tick
  rw [hv]
  by_cases h : s = 0
  · exact ⟨0, by simp [h]⟩
  · have : ¬ (0 : Int) = l := by omega
    exact ⟨1, by simp [h, this]⟩
theorem round_clean {s t la lb : Int} (s1 : 0 ≤ s) (s2 : s < 3) (t1 : 0 ≤ t) (t2 : t < 3) (a1 : 1 ≤ la) (a2 : la ≤ 20) (b1 : 1 ≤ lb) (b2 : lb ≤ 20) :
    Sp19.round ((s, la, 0, ()), (t, lb, 0, ())) 0 = ((Sp19.after s t, la, 0, ()), (Sp19.after t s, lb, 0, ())) := by
  obtain ⟨m, hm⟩ := tick_clean s1 s2 a1 a2
  obtain ⟨n, hn⟩ := tick_clean t1 t2 b1 b2
  have vs := tick_valid (valid_mk s1 s2 a1 a2 (Int.le_refl 0) (by omega) (.inr rfl))
  have vt := tick_valid (valid_mk t1 t2 b1 b2 (Int.le_refl 0) (by omega) (.inr rfl))
  rw [hm] at vs
  rw [hn] at vt
  unfold Sp19.round
  simp only [hm, hn, noBit0.1, noBit0.2, cond_true]
  unfold Sp19.hear
  simp only [vs, vt, s1, s2, t1, t2, decide_true, Bool.and_self, cond_true]
theorem rounds_cons (p : Sp19.S × Sp19.S) (x : Int) (l : List Int) : Sp19.rounds p (x :: l) = Sp19.rounds (Sp19.round p x) l := rfl
theorem stays_up {la lb : Int} (a1 : 1 ≤ la) (a2 : la ≤ 20) (b1 : 1 ≤ lb) (b2 : lb ≤ 20) : ∀ k, Sp19.rounds ((2, la, 0, ()), (2, lb, 0, ())) (List.replicate k 0) = ((2, la, 0, ()), (2, lb, 0, ()))
  | 0 => rfl
  | k + 1 => by
    rw [List.replicate_succ, rounds_cons, round_clean (by omega) (by omega) (by omega) (by omega) a1 a2 b1 b2]
    exact stays_up a1 a2 b1 b2 k
theorem comes_up {a b : Sp19.S} (ha : Sp19.valid a = true) (hb : Sp19.valid b = true) (k : Nat) : Sp19.rounds (a, b) (List.replicate (k + 3) 0) = ((2, a.2.1, 0, ()), (2, b.2.1, 0, ())) := by
  obtain ⟨_, _, a1, a2, _⟩ := valid_iff ha
  obtain ⟨_, _, b1, b2, _⟩ := valid_iff hb
  obtain ⟨x, y, x1, x2, y1, y2, hr⟩ := round0 ha hb
  rw [List.replicate_succ, rounds_cons, hr, List.replicate_succ, rounds_cons, List.replicate_succ, rounds_cons]
  have f1 := after_in x1 x2 y1 y2
  have f2 := after_in y1 y2 x1 x2
  rw [round_clean f1.1 f1.2 f2.1 f2.2 a1 a2 b1 b2]
  have f3 := after_in f1.1 f1.2 f2.1 f2.2
  have f4 := after_in f2.1 f2.2 f1.1 f1.2
  rw [round_clean f3.1 f3.2 f4.1 f4.2 a1 a2 b1 b2]
  have hx : x = 0 ∨ x = 1 ∨ x = 2 := by omega
  have hy : y = 0 ∨ y = 1 ∨ y = 2 := by omega
  have key : Sp19.after (Sp19.after (Sp19.after x y) (Sp19.after y x)) (Sp19.after (Sp19.after y x) (Sp19.after x y)) = 2 ∧ Sp19.after (Sp19.after (Sp19.after y x) (Sp19.after x y)) (Sp19.after (Sp19.after x y) (Sp19.after y x)) = 2 := by
    rcases hx with rfl | rfl | rfl <;> rcases hy with rfl | rfl | rfl <;> decide
  rw [key.1, key.2]
  exact stays_up a1 a2 b1 b2 k
end Go.Abs.C19

/- Chapter 19: the law DetectPlays. -/
namespace Go.Abs.C19
open Go Go.Proofs

theorem plays_len : ∀ (l : List Int) (s : Sp19.S), (Sp19.plays s l).length = l.length
  | [], _ => rfl
  | x :: r, s => by simp [Sp19.plays, plays_len r]
theorem play_len (n : Int) (l : List Int) : (Sp19.play n l).1.length ≤ 1000 := by
  unfold Sp19.play
  cases Sp19.validLimit n
  · simp
  · by_cases h : l.length ≤ 300
    · simp only [h, decide_true, cond_true, plays_len]; omega
    · simp [h]

theorem g9_ok (l raw : List Int) (n : Int) : g9 l raw n = some (true, ()) := by
  have w0 := tape_wf l
  have w1 := ints_wf (m := 30) (lo := 0) (hi := 5) w0
  have s0 : Sp19.small 0 = true := rfl
  have s5 : Sp19.small 5 = true := rfl
  have s6 : Sp19.small 6 = true := rfl
  have d1 : decide ((0 : Int) ≤ 30) = true := rfl
  have d2 : decide ((30 : Int) ≤ 1000) = true := rfl
  unfold g9
  simp only [w0, s5, s6, w1, s0, d1, d2, play_len, Bool.and_self, on_true, Option.bind_some, decide_true, Bool.not_true, Bool.not_false, cond_true, cond_false]
  cases decide (Int.ofNat raw.length > 1000) <;> rfl
theorem ok9 : FunOk Tryd.prog B 9 c9 := glue L31 all31 plan9 Tryd.func9 (by kernel_rfl) (by
  rintro ⟨⟨⟩, l, raw, n, ⟨⟩⟩ y r h
  exact (g9_eq l raw n).trans ((g9_ok l raw n).trans h))
end Go.Abs.C19

/- Chapter 19: the law DetectHears. -/
namespace Go.Abs.C19
open Go Go.Proofs

theorem loop6 (a1 a2 a3 : Int) (y4 y5 : Sp19.S × Sp19.Tp) : Loop (g6_s0 a1 a2 a3 y4 y5) (0, false, ()) = some (false, (false, ()), (false, ())) := by
  refine Loop_inv (fun (v : Int × Bool × Unit) => 0 ≤ v.1 ∧ v.1 ≤ 3 ∧ v.2 = (false, ())) (fun (v : Int × Bool × Unit) => (3 - v.1).toNat) (fun _ => (false, (false, ()), (false, ()))) ?_ ⟨Int.le_refl 0, by decide, rfl⟩
  rintro ⟨i, v2⟩ ⟨h1, h2, h3⟩
  simp only at h1 h2 h3
  subst h3
  by_cases h5 : i < 3
  · right
    refine ⟨(i + 1, false, ()), ?_, ⟨by simp only; omega, by simp only; omega, rfl⟩, by simp only; omega, rfl⟩
    have e1 : IntKind.wrap .i64 (i + 1) = i + 1 := wrap_id (by omega) (by omega)
    have hl : i < Int.ofNat (y4.1 :: y5.1 :: (a1, a2, a3, ()) :: []).length := h5
    unfold g6_s0
    simp only [h5, h1, hl, decide_true, Bool.and_self, cond_true, e1]
    generalize List.getD (y4.1 :: y5.1 :: (a1, a2, a3, ()) :: []) i.toNat (0, 0, 0, ()) = s
    have hd : decide ((Sp19.hear s 0).1 = 2) = false := by simpa using hear_down
    by_cases ht : (Sp19.tick s).1 = 2
    · have hs := tick_up ht
      cases hv : Sp19.valid s with
      | false => simp only [hd, ht, hs, hv, decide_true, Bool.not_true, Bool.not_false, cond_true, cond_false, Option.bind_some]
      | true => simp only [hd, ht, hs, hv, hear_valid hv, tick_valid hv, decide_true, Bool.not_true, Bool.not_false, cond_true, cond_false, Option.bind_some]
    · cases hv : Sp19.valid s with
      | false => simp only [hd, ht, hv, decide_false, Bool.not_true, Bool.not_false, cond_true, cond_false, Option.bind_some]
      | true => simp only [hd, ht, hv, hear_valid hv, tick_valid hv, decide_false, Bool.not_true, Bool.not_false, cond_true, cond_false, Option.bind_some]
  · left
    unfold g6_s0
    simp only [h5, decide_false, cond_false]

theorem g6_ok (l : List Int) (a1 a2 a3 : Int) : g6 l a1 a2 a3 = some (true, ()) := by
  have w0 := tape_wf l
  have w1 := session_wf (n := 0) w0
  have s0 : Sp19.small 0 = true := rfl
  have s4 : Sp19.small 4 = true := rfl
  unfold g6
  simp only [w0, w1, s0, s4, Bool.and_self, on_true, Option.bind_some, loop6, cond_false]
theorem ok6 : FunOk Tryd.prog B 6 c6 := glue L31 all31 plan6 Tryd.func6 (by kernel_rfl) (by
  rintro ⟨⟨⟩, l, ⟨a1, a2, a3, ⟨⟩⟩, ⟨⟩⟩ y r h
  exact (g6_eq l a1 a2 a3).trans ((g6_ok l a1 a2 a3).trans h))
end Go.Abs.C19

/- Chapter 19: the law DetectComes. -/
namespace Go.Abs.C19
open Go Go.Proofs

theorem g4_ok (l : List Int) (n : Int) (hn : IntKind.u8.has n) : g4 l n = some (true, ()) := by
  have n1 : 0 ≤ n := hn.1
  have w0 := tape_wf l
  have w1 := session_wf (n := 0) w0
  have s0 : Sp19.small 0 = true := rfl
  have v1 := session_valid (Sp19.tape l)
  have v2 := session_valid (Sp19.session (Sp19.tape l) 0).2
  have et : Int.tmod n 40 = n % 40 := Int.tmod_eq_emod_of_nonneg n1
  have e1 : 0 ≤ n % 40 := Int.emod_nonneg n (by omega)
  have e2 : n % 40 < 40 := Int.emod_lt_of_pos n (by omega)
  have k1 : IntKind.wrap .i64 (n % 40) = n % 40 := wrap_id (by omega) (by omega)
  have k2 : IntKind.wrap .i64 (3 + n % 40) = 3 + n % 40 := wrap_id (by omega) (by omega)
  have k3 : (3 + n % 40).toNat = (n % 40).toNat + 3 := by omega
  obtain ⟨_, _, a1, a2, _⟩ := valid_iff v1
  obtain ⟨_, _, b1, b2, _⟩ := valid_iff v2
  have hb : Sp19.both (Sp19.session (Sp19.tape l) 0).1 (Sp19.session (Sp19.session (Sp19.tape l) 0).2 0).1 (List.replicate ((n % 40).toNat + 3) 0) =
      ((2, (Sp19.session (Sp19.tape l) 0).1.2.1, 0, ()), (2, (Sp19.session (Sp19.session (Sp19.tape l) 0).2 0).1.2.1, 0, ()), 0, ()) := by
    unfold Sp19.both
    have hl : (List.replicate ((n % 40).toNat + 3) (0 : Int)).length ≤ 300 := by rw [List.length_replicate]; omega
    simp only [v1, v2, hl, decide_true, Bool.and_self, cond_true, comes_up v1 v2]
  have vx := valid_mk (a := 2) (m := 0) (by omega) (by omega) a1 a2 (Int.le_refl 0) (by omega) (.inr rfl)
  have vy := valid_mk (a := 2) (m := 0) (by omega) (by omega) b1 b2 (Int.le_refl 0) (by omega) (.inr rfl)
  have g1 : (0 : Int) ≤ 3 + n % 40 := by omega
  have g2 : (3 + n % 40) * 8 ≤ 140737488355328 := by omega
  unfold g4
  simp only [w0, w1, s0, et, k1, k2, k3, hb, vx, vy, g1, g2, Bool.and_self, on_true, Option.bind_some, decide_true, cond_true, Int.le_refl]
theorem ok4 : FunOk Tryd.prog B 4 c4 := glue L31 all31 plan4 Tryd.func4 (by kernel_rfl) (by
  rintro ⟨⟨⟩, l, n, ⟨⟩⟩ y r h
  exact (g4_eq l n).trans ((g4_ok l n r.2.2.1).trans h))
end Go.Abs.C19

/- Chapter 19: what the rows share. -/
namespace Go.Proofs.YtjhfiaheknhodaaDoor
open Go.ChangeShapes Go.WideShapes Go.ChangeAt Go.RowKit Go.Abs Go.Abs.C19

theorem Tryd.own : ownKnob Tryd.prog.godebug = none := by kernel_rfl
theorem Tryd.laidOut : laidOutB Tryd.prog = true := by kernel_rfl
theorem Tryd.after : Tryd.prog.globalNamed "bitcast/detect.after" = some 0 := by kernel_rfl
theorem Tryd.afterType : (Tryd.prog.globals[0]?).map (·.type) = some 55 := by kernel_rfl

/-- The settled world, but the table is laid. -/
noncomputable def laidWorld (os : Os) : World :=
  let w0 := World.holding Tryd.prog os ⟨#[], #[], []⟩
  { w0 with heap := w0.heap.modify 0 fun
      | .cells _ t frozen => .cells #[.int .i64 1, .int .i64 2, .int .i64 0, .int .i64 1, .int .i64 2, .int .i64 2, .int .i64 0, .int .i64 2, .int .i64 2] t frozen
      | o => o }
theorem laid_met (os : Os) (args : Array Value) : laidMet Tryd.prog Rows.detectBothRow.laid ((laidWorld os).forCall (fun _ _ => 0) ⟨#[], args, []⟩).memory :=
  laidMet_of_run (ps := [.cell 0 0, .cell 0 1, .cell 0 2, .cell 0 3, .cell 0 4, .cell 0 5, .cell 0 6, .cell 0 7, .cell 0 8]) 8 (by kernel_rfl) (by kernel_rfl) (by kernel_rfl)

theorem glob_ok {W : World} (h : laidMet Tryd.prog Rows.detectBothRow.laid W) : ∀ g k l, (B.glob g) = some (k, l) → l.length ≤ cellN W g ∧ ∀ j (h : j < l.length), W.cell? ⟨g, j, none⟩ = some (.int k l[j]) ∧ k.has l[j] := by
  obtain ⟨ps, hps, _⟩ := h
  have key := laid_glob (k := .i64) (n := 5) (t := 55) hps Tryd.after Tryd.afterType (by kernel_rfl)
  intro g k l hg
  have hg' : lookG gl g = some (k, l) := hg
  simp only [gl, lookG] at hg'
  cases hb : Nat.beq g 0 with
  | false => rw [hb] at hg'; cases hg'
  | true =>
    rw [hb] at hg'
    simp only [cond_true, Option.some.injEq, Prod.mk.injEq] at hg'
    obtain ⟨rfl, rfl⟩ := hg'
    have := Nat.eq_of_beq_eq_true hb
    subst this
    exact key

def tySes : Ty := .st 24 (.cons (.int .i64) (.cons (.int .i64) (.cons (.int .i64) .unit)))
end Go.Proofs.YtjhfiaheknhodaaDoor
