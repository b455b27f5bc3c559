/- Chapter 25: proved is that the functions on tapes, filters, numbers and sums keep their contracts; no conditions but those that each theorem states. -/
import Derived.Test.YtjimcfblobcimaaDoorRunE
set_option linter.unusedVariables false
set_option linter.unusedSimpArgs false
/- Chapter 25: plain facts of tapes, bytes and signals. -/
namespace Sp25
open Go Go.Abs
theorem on_some {α : Type} {b : Bool} {x y : α} (h : on b x = some y) : b = true ∧ x = y := by
  unfold on at h
  cases b with
  | false => cases h
  | true => exact ⟨rfl, Option.some.inj h⟩
theorem on_true {α : Type} {b : Bool} {x : α} (h : b = true) : on b x = some x := by rw [h]; rfl
theorem wf_iff {t : Tp} : wf t = true ↔ 0 ≤ t.2.1 ∧ t.2.1 ≤ t.1.length ∧ t.1.length ≤ 2000 := by
  simp [wf, and_assoc]
theorem small_iff {n : Int} : small n = true ↔ -2305843009213693952 ≤ n ∧ n ≤ 2305843009213693952 := by
  simp [small]
theorem raw_wf {t : Tp} (h : wf t = true) : wf (raw t).2 = true := by
  obtain ⟨l, a, ⟨⟩⟩ := t
  obtain ⟨h1, h2, h3⟩ := wf_iff.1 h
  simp only at h1 h2 h3
  unfold raw
  by_cases h4 : a < l.length
  · simp only [h4, decide_true, cond_true]
    exact wf_iff.2 ⟨by simp only; omega, by simp only; omega, h3⟩
  · simp only [h4, decide_false, cond_false]
    exact h
theorem next_wf {t : Tp} {n : Int} (h : wf t = true) : wf (next t n).2 = true := raw_wf h
theorem pick_wf {t : Tp} {l : List Int} (h : wf t = true) : wf (pick t l).2 = true := raw_wf h
theorem cut_nonneg {x n : Int} : 0 ≤ cut x n := by
  unfold cut
  by_cases h : n < 1
  · simp [h]
  · simp only [h, decide_false, cond_false]
    exact Int.emod_nonneg x (by omega)
theorem cut_lt {x n : Int} (h : 1 ≤ n) : cut x n < n := by
  unfold cut
  have h' : ¬ n < 1 := by omega
  simp only [h', decide_false, cond_false]
  exact Int.emod_lt_of_pos x (by omega)
theorem next_range {t : Tp} {n : Int} (h : 1 ≤ n) : 0 ≤ (next t n).1 ∧ (next t n).1 < n := ⟨cut_nonneg, cut_lt h⟩
theorem range_wf {t : Tp} {a b : Int} (h : wf t = true) : wf (range t a b).2 = true := next_wf (n := b - a + 1) h
theorem range_in {t : Tp} {a b : Int} (h : a ≤ b) : a ≤ (range t a b).1 ∧ (range t a b).1 ≤ b := by
  have := next_range (t := t) (n := b - a + 1) (by omega)
  unfold range
  simp only
  omega
theorem next_bound {t : Tp} {n : Int} : 0 ≤ (next t n).1 ∧ ((next t n).1 < n ∨ (next t n).1 = 0) := by
  by_cases h : 1 ≤ n
  · have := next_range (t := t) h
    exact ⟨this.1, .inl this.2⟩
  · refine ⟨cut_nonneg, .inr ?_⟩
    show cut (raw t).1 n = 0
    unfold cut
    have : n < 1 := by omega
    simp [this]
theorem tape_wf (l : List Int) : wf (Sp25.tape l) = true := wf_iff.2 ⟨by simp [Sp25.tape], by simp [Sp25.tape], by simp [Sp25.tape]; omega⟩
theorem pick_mem {t : Tp} {l : List Int} (h : l ≠ []) : (pick t l).1 ∈ l := by
  have h0 : 0 < l.length := List.length_pos_iff.2 h
  have := next_range (t := t) (n := (l.length : Int)) (by omega)
  unfold pick
  exact getD_mem (by omega)
theorem inside_iff {n a b : Int} : inside n a b = true ↔ a ≤ n ∧ n ≤ b := by simp [inside]
theorem inside_f {n a b : Int} (h : ¬ (a ≤ n ∧ n ≤ b)) : inside n a b = false := by
  cases hb : inside n a b with
  | false => rfl
  | true => exact absurd (inside_iff.1 hb) h

/-! Bytes. -/
def byte (x : Int) : Prop := 0 ≤ x ∧ x < 256
def bytes (l : List Int) : Prop := ∀ x ∈ l, byte x
theorem mod_byte (x : Int) : byte (x % 256) := ⟨Int.emod_nonneg _ (by decide), Int.emod_lt_of_pos _ (by decide)⟩
theorem numB_len (n : Int) (w : Nat) : (numB n w).length = w := by
  induction w with
  | zero => rfl
  | succ w ih => simp [numB, ih]
theorem numB_bytes (n : Int) (w : Nat) : bytes (numB n w) := by
  induction w with
  | zero => intro x hx; cases hx
  | succ w ih =>
    intro x hx
    rcases List.mem_cons.1 hx with rfl | hx
    · exact mod_byte _
    · exact ih x hx
theorem bytes_app {a b : List Int} (ha : bytes a) (hb : bytes b) : bytes (a ++ b) := fun x hx => (List.mem_append.1 hx).elim (ha x) (hb x)
theorem put_cons (w : Nat) (x : Int) (l : List Int) : put w (x :: l) = numB x w ++ put w l := by simp [put]
theorem put_nil (w : Nat) : put w [] = [] := rfl
theorem put_bytes (w : Nat) (l : List Int) : bytes (put w l) := by
  induction l with
  | nil => intro x hx; cases hx
  | cons y r ih => rw [put_cons]; exact bytes_app (numB_bytes _ _) ih
theorem num1 (n : Int) : numB n 1 = [n % 256] := by simp [numB]
theorem num2 (n : Int) : numB n 2 = [n / 256 % 256, n % 256] := by simp [numB]
theorem num3 (n : Int) : numB n 3 = [n / 65536 % 256, n / 256 % 256, n % 256] := by simp [numB]
theorem put_one (l : List Int) : put 1 l = l.map (· % 256) := by
  induction l with
  | nil => rfl
  | cons x r ih => rw [put_cons, ih, num1]; rfl
theorem put_len (w : Nat) (l : List Int) : (put w l).length = l.length * w := by
  induction l with
  | nil => simp [put_nil]
  | cons x r ih => rw [put_cons, List.length_append, numB_len, ih, List.length_cons, Nat.add_mul, Nat.one_mul, Nat.add_comm]
theorem map_mod {l : List Int} (h : bytes l) : l.map (· % 256) = l := by
  induction l with
  | nil => rfl
  | cons x r ih =>
    have hx := h x (List.mem_cons_self ..)
    rw [List.map_cons, ih fun y hy => h y (List.mem_cons_of_mem _ hy)]
    congr 1
    have := hx.1; have := hx.2
    omega
theorem val2 (a b : Int) : val [a, b] = a * 256 + b := by simp [val]
theorem val3 (a b c : Int) : val [a, b, c] = (a * 256 + b) * 256 + c := by simp [val]
theorem val_num3 {n : Int} (h0 : 0 ≤ n) (h1 : n < 16777216) : val [n / 65536 % 256, n / 256 % 256, n % 256] = n := by
  rw [val3]; omega
theorem val_num2 {n : Int} (h0 : 0 ≤ n) (h1 : n < 65536) : val [n / 256 % 256, n % 256] = n := by
  rw [val2]; omega

/-! The check sum. -/
theorem sumL_app (a b : List Int) : ∀ i, sumL i (a ++ b) = sumL i a + sumL (i + a.length) b := by
  induction a with
  | nil => intro i; simp [sumL]
  | cons x r ih =>
    intro i
    rw [List.cons_append, sumL, sumL, ih, List.length_cons, show i + 1 + (r.length : Int) = i + ((r.length + 1 : Nat) : Int) by omega]
    omega
theorem sum_lt (l : List Int) : 0 ≤ sum l ∧ sum l < 65521 := ⟨Int.emod_nonneg _ (by decide), Int.emod_lt_of_pos _ (by decide)⟩
theorem sumL_set (l : List Int) (y : Int) : ∀ (k : Nat) (i : Int), k < l.length → sumL i (l.set k y) = sumL i l + (i + k) * (y - l.getD k 0) := by
  induction l with
  | nil => intro k i h; cases h
  | cons x r ih =>
    intro k i h
    cases k with
    | zero =>
      simp only [List.set_cons_zero, sumL, List.getD_cons_zero, Int.natCast_zero, Int.add_zero, Int.mul_sub]
      omega
    | succ k =>
      simp only [List.set_cons_succ, sumL, List.getD_cons_succ]
      rw [ih k (i + 1) (by simpa using h), show i + 1 + (k : Int) = i + ((k + 1 : Nat) : Int) by omega]
      omega
/-- A product of two small numbers is no multiple of the modulus. -/
theorem no_multiple {a d : Int} (ha : 0 < a) (ha2 : a ≤ 400) (hd : d ≠ 0) (hd1 : -256 < d) (hd2 : d < 256) : a * d % 65521 ≠ 0 := by
  have key : ∀ m : Nat, m < 256 → 0 < m → (65521 % m = 0 → m = 1) := by decide +kernel
  intro h
  obtain ⟨q, hq⟩ := Int.dvd_of_emod_eq_zero h
  have hn : ∃ m : Nat, 0 < m ∧ m < 256 ∧ (a.toNat * m) % 65521 = 0 ∧ a.toNat * m ≠ 0 := by
    refine ⟨d.natAbs, by omega, by omega, ?_, ?_⟩
    · have : (a * d).natAbs = a.toNat * d.natAbs := by rw [Int.natAbs_mul]; congr 1; omega
      rw [← this, hq, Int.natAbs_mul]
      exact Nat.mul_mod_right _ _
    · have h1 : 0 < a.toNat := by omega
      have h2 : 0 < d.natAbs := by omega
      exact Nat.ne_of_gt (Nat.mul_pos h1 h2)
  obtain ⟨m, hm0, hm, h1, h2⟩ := hn
  have hle : a.toNat * m ≤ 400 * 255 := Nat.mul_le_mul (by omega) (by omega)
  have he : a.toNat * m = 65521 := by omega
  have hdv : 65521 % m = 0 := by rw [← he]; exact Nat.mul_mod_left _ _
  have := key m hm hm0 hdv
  subst this
  omega
theorem mod_diff {x y : Int} (h : x % 65521 = y % 65521) : (x - y) % 65521 = 0 := by omega

/-! Signals. -/
theorem asc_iff {x : Int} {r : List Int} : asc (x :: r) = true ↔ (∀ y ∈ r, x < y) ∧ asc r = true := by
  induction r generalizing x with
  | nil => simp [asc]
  | cons y r ih =>
    rw [asc, Bool.and_eq_true, decide_eq_true_eq]
    constructor
    · rintro ⟨h1, h2⟩
      refine ⟨fun z hz => ?_, h2⟩
      rcases List.mem_cons.1 hz with rfl | hz
      · exact h1
      · have := (ih.1 h2).1 z hz
        omega
    · rintro ⟨h1, h2⟩
      exact ⟨h1 y (List.mem_cons_self ..), h2⟩
theorem asc_len {l : List Int} {hi : Int} : ∀ {lo : Int}, lo ≤ hi + 1 → asc l = true → (∀ x ∈ l, lo ≤ x ∧ x ≤ hi) → (l.length : Int) ≤ hi - lo + 1 := by
  induction l with
  | nil => intro lo h _ _; simp; omega
  | cons x r ih =>
    intro lo h ha hb
    obtain ⟨h1, h2⟩ := asc_iff.1 ha
    have hx := hb x (List.mem_cons_self ..)
    have := ih (lo := x + 1) (by omega) h2 fun y hy => ⟨by have := h1 y hy; omega, (hb y (List.mem_cons_of_mem _ hy)).2⟩
    simp only [List.length_cons]
    omega
theorem putI_mem {l : List Int} {x z : Int} (h : z ∈ putI l x) : z = x ∨ z ∈ l := by
  induction l with
  | nil => exact .inl (by simpa [putI] using h)
  | cons y r ih =>
    rw [putI] at h
    by_cases h1 : y < x
    · rw [decide_eq_true h1, cond_true] at h
      rcases List.mem_cons.1 h with rfl | h
      · exact .inr (List.mem_cons_self ..)
      · exact (ih h).imp id (List.mem_cons_of_mem _)
    · rw [decide_eq_false h1, cond_false] at h
      by_cases h2 : y = x
      · rw [decide_eq_true h2, cond_true] at h
        exact .inr h
      · rw [decide_eq_false h2, cond_false] at h
        exact List.mem_cons.1 h
theorem putI_asc {l : List Int} {x : Int} (h : asc l = true) : asc (putI l x) = true := by
  induction l with
  | nil => rfl
  | cons y r ih =>
    obtain ⟨h3, h4⟩ := asc_iff.1 h
    rw [putI]
    by_cases h1 : y < x
    · rw [decide_eq_true h1, cond_true]
      exact asc_iff.2 ⟨fun z hz => (putI_mem hz).elim (fun e => by omega) (h3 z), ih h4⟩
    · rw [decide_eq_false h1, cond_false]
      by_cases h2 : y = x
      · rw [decide_eq_true h2, cond_true]
        exact h
      · rw [decide_eq_false h2, cond_false]
        refine asc_iff.2 ⟨fun z hz => ?_, h⟩
        rcases List.mem_cons.1 hz with rfl | hz
        · omega
        · have := h3 z hz
          omega
theorem putI_len (l : List Int) (x : Int) : l.length ≤ (putI l x).length ∧ (putI l x).length ≤ l.length + 1 := by
  induction l with
  | nil => simp [putI]
  | cons y r ih =>
    rw [putI]
    by_cases h1 : y < x
    · rw [decide_eq_true h1, cond_true]
      simp only [List.length_cons]
      omega
    · rw [decide_eq_false h1, cond_false]
      by_cases h2 : y = x
      · rw [decide_eq_true h2, cond_true]
        simp
      · rw [decide_eq_false h2, cond_false]
        simp
def good (l : List Int) : Prop := asc l = true ∧ ∀ x ∈ l, 1 ≤ x ∧ x ≤ 99
theorem good_nil : good [] := ⟨rfl, fun x hx => by cases hx⟩
theorem good_len {l : List Int} (h : good l) : l.length ≤ 99 := by
  have := asc_len (lo := 1) (hi := 99) (by decide) h.1 h.2
  omega
theorem srcs_ok (n : Nat) : ∀ (t : Tp) (l : List Int), wf t = true → good l → good (srcs n t l).1 ∧ wf (srcs n t l).2 = true := by
  induction n with
  | zero => intro t l h1 h2; exact ⟨h2, h1⟩
  | succ n ih =>
    intro t l h1 h2
    rw [srcs]
    have a := range_in (t := t) (a := 1) (b := 6) (by decide)
    have aw := range_wf (a := 1) (b := 6) h1
    have b := range_in (t := (range t 1 6).2) (a := 1) (b := 20) (by decide)
    have bw := range_wf (a := 1) (b := 20) aw
    have c := range_in (t := (range (range t 1 6).2 1 20).2) (a := 1) (b := 99) (by decide)
    have cw := range_wf (a := 1) (b := 99) bw
    have p := pick_mem (t := (range (range (range t 1 6).2 1 20).2 1 99).2) (l := [(range t 1 6).1, (range (range t 1 6).2 1 20).1, (range (range (range t 1 6).2 1 20).2 1 99).1]) (by simp)
    refine ih _ _ (pick_wf cw) ⟨putI_asc h2.1, fun x hx => ?_⟩
    rcases putI_mem hx with rfl | hx
    · simp only [List.mem_cons, List.not_mem_nil, or_false] at p
      omega
    · exact h2.2 x hx
theorem sources_ok {t : Tp} (n : Int) (h : wf t = true) : good (sources t n).1 ∧ wf (sources t n).2 = true := srcs_ok _ _ _ (next_wf h) good_nil
theorem filter_ok {t : Tp} (h : wf t = true) : (1 ≤ (filter t).1.1 ∧ (filter t).1.1 ≤ 2) ∧ good (filter t).1.2.1 ∧ wf (filter t).2 = true := by
  have m := range_in (t := (pick t [0, 2, 4, 4, 16, 99]).2) (a := 1) (b := 2) (by decide)
  have s := sources_ok (t := (range (pick t [0, 2, 4, 4, 16, 99]).2 1 2).2) (pick t [0, 2, 4, 4, 16, 99]).1 (range_wf (pick_wf h))
  exact ⟨m, s.1, s.2⟩
theorem validF_good {m : Int} {l : List Int} (hm : 1 ≤ m ∧ m ≤ 2) (h : good l) : validF (m, l, ()) = 0 := by
  have h1 : (decide (m = 1) || decide (m = 2)) = true := by
    rcases (by omega : m = 1 ∨ m = 2) with rfl | rfl <;> rfl
  have h2 : l.all (fun s => inside s 1 99) = true := List.all_eq_true.2 fun x hx => inside_iff.2 (h.2 x hx)
  unfold validF
  simp only [h1, h2, h.1, Bool.not_true, cond_false]
theorem good_validF {m : Int} {l : List Int} (h : validF (m, l, ()) = 0) : (1 ≤ m ∧ m ≤ 2) ∧ good l := by
  unfold validF at h
  simp only at h
  cases h1 : (decide (m = 1) || decide (m = 2)) with
  | false => rw [h1] at h; cases h
  | true =>
    cases h2 : l.all (fun s => inside s 1 99) with
    | false => rw [h1, h2] at h; cases h
    | true =>
      cases h3 : asc l with
      | false => rw [h1, h2, h3] at h; cases h
      | true =>
        simp only [Bool.or_eq_true, decide_eq_true_eq] at h1
        exact ⟨by omega, h3, fun x hx => inside_iff.1 (List.all_eq_true.1 h2 x hx)⟩
theorem fits1 {s : Sg} (h : kd s = 1) : fits s = true ↔ (1 ≤ ep s ∧ ep s ≤ 1000000) ∧ (0 ≤ ve s ∧ ve s ≤ 1000000) ∧ pv s = 0 ∧ pe s = 0 ∧ gr s = 0 := by
  unfold fits
  rw [decide_eq_true h, cond_true]
  simp [inside_iff, and_assoc]
theorem fits2 {s : Sg} (h : kd s = 2) : fits s = true ↔ (1 ≤ ep s ∧ ep s ≤ 1000000) ∧ (1 ≤ ve s ∧ ve s ≤ 1000000) ∧ (0 ≤ pv s ∧ pv s ≤ ve s - 1) ∧ pe s = 0 ∧ (1 ≤ gr s ∧ gr s ≤ 99) := by
  unfold fits
  rw [decide_eq_false (show ¬ kd s = 1 by omega), cond_false, decide_eq_true h, cond_true]
  simp [inside_iff, and_assoc]
theorem fits3 {s : Sg} (h : kd s = 3) : fits s = true ↔ (0 ≤ ep s ∧ ep s ≤ 1000000) ∧ (0 ≤ ve s ∧ ve s ≤ 1000000) ∧ pv s = 0 ∧ (1 ≤ pe s ∧ pe s ≤ 1000000) ∧ gr s = 0 := by
  unfold fits
  rw [decide_eq_false (show ¬ kd s = 1 by omega), cond_false, decide_eq_false (show ¬ kd s = 2 by omega), cond_false]
  simp [inside_iff, and_assoc]
theorem validate_iff (s : Sg) : validate s = 0 ↔ (1 ≤ kd s ∧ kd s ≤ 3) ∧ (1 ≤ fr s ∧ fr s ≤ 99) ∧ (1 ≤ to s ∧ to s ≤ 99) ∧ fr s ≠ to s ∧ fits s = true ∧ ((kd s = 2 ∧ validF (fm s, so s, ()) = 0) ∨ (kd s ≠ 2 ∧ fm s = 0 ∧ so s = [])) := by
  unfold validate
  cases h1 : inside (kd s) 1 3 with
  | false =>
    simp only [Bool.not_false, cond_true]
    refine ⟨fun h => absurd h (by decide), fun h => ?_⟩
    rw [inside_iff.2 h.1] at h1
    cases h1
  | true =>
    rw [Bool.not_true, cond_false]
    have k := inside_iff.1 h1
    cases h2 : (inside (fr s) 1 99 && inside (to s) 1 99 && !decide (fr s = to s) && fits s) with
    | false =>
      simp only [Bool.not_false, cond_true]
      refine ⟨fun h => absurd h (by decide), fun h => ?_⟩
      rw [inside_iff.2 h.2.1, inside_iff.2 h.2.2.1, decide_eq_false h.2.2.2.1, h.2.2.2.2.1] at h2
      cases h2
    | true =>
      rw [Bool.not_true, cond_false]
      simp only [Bool.and_eq_true, Bool.not_eq_true', decide_eq_false_iff_not] at h2
      obtain ⟨⟨⟨h3, h4⟩, h5⟩, h6⟩ := h2
      by_cases h7 : kd s = 2
      · rw [decide_eq_true h7, cond_true]
        exact ⟨fun h => ⟨k, inside_iff.1 h3, inside_iff.1 h4, h5, h6, .inl ⟨h7, h⟩⟩, fun h => h.2.2.2.2.2.elim (·.2) (fun q => absurd h7 q.1)⟩
      · rw [decide_eq_false h7, cond_false]
        cases h8 : (!decide (fm s = 0) || decide (0 < (so s).length)) with
        | true =>
          simp only [cond_true]
          refine ⟨fun h => absurd h (by decide), fun h => ?_⟩
          rcases h.2.2.2.2.2 with q | ⟨_, q, r⟩
          · exact absurd q.1 h7
          · rw [q, r] at h8
            cases h8
        | false =>
          simp only [cond_false, true_iff]
          simp only [Bool.or_eq_false_iff, Bool.not_eq_false', decide_eq_true_eq, decide_eq_false_iff_not] at h8
          exact ⟨k, inside_iff.1 h3, inside_iff.1 h4, h5, h6, .inr ⟨h7, h8.1, List.eq_nil_of_length_eq_zero (by omega)⟩⟩

/-- What fits into the bytes. -/
structure Fit (s : Sg) : Prop where
  hk : byte (kd s)
  hf : byte (fr s)
  ht : byte (to s)
  he : 0 ≤ ep s ∧ ep s < 16777216
  hv : 0 ≤ ve s ∧ ve s < 16777216
  hpv : 0 ≤ pv s ∧ pv s < 16777216
  hpe : 0 ≤ pe s ∧ pe s < 16777216
  hg : byte (gr s)
  hm : byte (fm s)
  hs : bytes (so s)
  hl : (so s).length ≤ 99
theorem good_bytes {l : List Int} (h : good l) : bytes l := fun x hx => by
  have := h.2 x hx
  exact ⟨by omega, by omega⟩
theorem fit_of_valid {s : Sg} (h : validate s = 0) : Fit s := by
  obtain ⟨h1, h2, h3, h4, h5, h6⟩ := (validate_iff s).1 h
  have hf : byte (fm s) ∧ bytes (so s) ∧ (so s).length ≤ 99 := by
    rcases h6 with ⟨_, q⟩ | ⟨_, q, r⟩
    · obtain ⟨q1, q2⟩ := good_validF q
      exact ⟨⟨by omega, by omega⟩, good_bytes q2, good_len q2⟩
    · rw [q, r]
      exact ⟨⟨by decide, by decide⟩, good_bytes good_nil, by simp⟩
  have hn : (0 ≤ ep s ∧ ep s < 16777216) ∧ (0 ≤ ve s ∧ ve s < 16777216) ∧ (0 ≤ pv s ∧ pv s < 16777216) ∧ (0 ≤ pe s ∧ pe s < 16777216) ∧ byte (gr s) := by
    unfold byte
    rcases (by omega : kd s = 1 ∨ kd s = 2 ∨ kd s = 3) with k | k | k
    · have := (fits1 k).1 h5
      omega
    · have := (fits2 k).1 h5
      omega
    · have := (fits3 k).1 h5
      omega
  exact ⟨⟨by omega, by omega⟩, ⟨by omega, by omega⟩, ⟨by omega, by omega⟩, hn.1, hn.2.1, hn.2.2.1, hn.2.2.2.1, hn.2.2.2.2, hf.1, hf.2.1, hf.2.2⟩
theorem signal_ok {t : Tp} (h : wf t = true) : validate (signal t).1 = 0 ∧ wf (signal t).2 = true := by
  unfold signal
  have k := range_in (t := t) (a := 1) (b := 3) (by decide)
  have kw := range_wf (a := 1) (b := 3) h
  generalize range t 1 3 = K at k kw
  have f := range_in (t := K.2) (a := 1) (b := 6) (by decide)
  have fw := range_wf (a := 1) (b := 6) kw
  generalize hF : range K.2 1 6 = F at f fw
  have r := range_in (t := F.2) (a := 1) (b := 1000000) (by decide)
  have rw' := range_wf (a := 1) (b := 1000000) fw
  generalize hR : range F.2 1 1000000 = R at r rw'
  have e := pick_mem (t := R.2) (l := [1, 2, 3, R.1]) (by simp)
  have ew := pick_wf (l := [1, 2, 3, R.1]) rw'
  generalize hE : pick R.2 [1, 2, 3, R.1] = E at e ew
  have n := next_range (t := E.2) (n := 5) (by decide)
  have nw := next_wf (n := 5) ew
  generalize hN : next E.2 5 = N at n nw
  have q := range_in (t := N.2) (a := 0) (b := 1000000) (by decide)
  have qw := range_wf (a := 0) (b := 1000000) nw
  generalize hQ : range N.2 0 1000000 = Q at q qw
  have v := pick_mem (t := Q.2) (l := [0, 1, 2, 5, Q.1, 1000000]) (by simp)
  have vw := pick_wf (l := [0, 1, 2, 5, Q.1, 1000000]) qw
  generalize hV : pick Q.2 [0, 1, 2, 5, Q.1, 1000000] = V at v vw
  simp only [List.mem_cons, List.not_mem_nil, or_false] at e v
  have z : (1 ≤ (bif decide (1 + (F.1 + N.1) % 6 = F.1) then 99 else 1 + (F.1 + N.1) % 6) ∧ (bif decide (1 + (F.1 + N.1) % 6 = F.1) then 99 else 1 + (F.1 + N.1) % 6) ≤ 99) ∧ F.1 ≠ (bif decide (1 + (F.1 + N.1) % 6 = F.1) then 99 else 1 + (F.1 + N.1) % 6) := by
    by_cases hz : 1 + (F.1 + N.1) % 6 = F.1
    · rw [decide_eq_true hz, cond_true]
      omega
    · rw [decide_eq_false hz, cond_false]
      omega
  simp only [hF, hR, hE, hN, hQ, hV]
  generalize (bif decide (1 + (F.1 + N.1) % 6 = F.1) then 99 else 1 + (F.1 + N.1) % 6) = Z at z
  by_cases k2 : K.1 = 2
  · rw [decide_eq_true k2, cond_true]
    have w : 1 ≤ (bif decide (1 < V.1) then V.1 else 1) ∧ (bif decide (1 < V.1) then V.1 else 1) ≤ 1000000 := by
      by_cases hw : 1 < V.1
      · rw [decide_eq_true hw, cond_true]
        omega
      · rw [decide_eq_false hw, cond_false]
        omega
    generalize (bif decide (1 < V.1) then V.1 else 1) = W at w
    have m := next_range (t := V.2) (n := W) (by omega)
    have mw := next_wf (n := W) vw
    generalize hM : next V.2 W = M at m mw
    have p := pick_mem (t := M.2) (l := [0, W - 1, M.1]) (by simp)
    have pw := pick_wf (l := [0, W - 1, M.1]) mw
    generalize hP : pick M.2 [0, W - 1, M.1] = P at p pw
    have g := range_in (t := P.2) (a := 1) (b := 6) (by decide)
    have gw := range_wf (a := 1) (b := 6) pw
    generalize hG : range P.2 1 6 = G at g gw
    simp only [List.mem_cons, List.not_mem_nil, or_false] at p
    have x := filter_ok gw
    simp only [hM, hP, hG]
    generalize filter G.2 = X at x
    refine ⟨(validate_iff _).2 ⟨k, ⟨f.1, by show F.1 ≤ 99; omega⟩, z.1, z.2, (fits2 ?k2).2 ⟨?_, w, ?_, rfl, ?_⟩, .inl ⟨k2, validF_good x.1 x.2.1⟩⟩, x.2.2⟩
    · exact k2
    · show 1 ≤ E.1 ∧ E.1 ≤ 1000000
      omega
    · show 0 ≤ P.1 ∧ P.1 ≤ W - 1
      omega
    · show 1 ≤ G.1 ∧ G.1 ≤ 99
      omega
  · rw [decide_eq_false k2, cond_false]
    by_cases k3 : K.1 = 3
    · rw [decide_eq_true k3, cond_true]
      have a := pick_mem (t := V.2) (l := [0, E.1]) (by simp)
      have aw := pick_wf (l := [0, E.1]) vw
      generalize hA : pick V.2 [0, E.1] = A at a aw
      have p := pick_mem (t := A.2) (l := [1, 2, 1000000]) (by simp)
      have pw := pick_wf (l := [1, 2, 1000000]) aw
      generalize hP : pick A.2 [1, 2, 1000000] = P at p pw
      simp only [List.mem_cons, List.not_mem_nil, or_false] at a p
      simp only [hA, hP]
      refine ⟨(validate_iff _).2 ⟨k, ⟨f.1, by show F.1 ≤ 99; omega⟩, z.1, z.2, (fits3 ?k3).2 ⟨?_, ?_, rfl, ?_, rfl⟩, .inr ⟨k2, rfl, rfl⟩⟩, pw⟩
      · exact k3
      · show 0 ≤ A.1 ∧ A.1 ≤ 1000000
        omega
      · show 0 ≤ V.1 ∧ V.1 ≤ 1000000
        omega
      · show 1 ≤ P.1 ∧ P.1 ≤ 1000000
        omega
    · rw [decide_eq_false k3, cond_false]
      refine ⟨(validate_iff _).2 ⟨k, ⟨f.1, by show F.1 ≤ 99; omega⟩, z.1, z.2, (fits1 ?k1).2 ⟨?_, ?_, rfl, rfl, rfl⟩, .inr ⟨k2, rfl, rfl⟩⟩, vw⟩
      · show K.1 = 1
        omega
      · show 1 ≤ E.1 ∧ E.1 ≤ 1000000
        omega
      · show 0 ≤ V.1 ∧ V.1 ≤ 1000000
        omega

/-! Reading back. -/
def headL (s : Sg) : List Int := [kd s, fr s, to s, ep s / 65536 % 256, ep s / 256 % 256, ep s % 256, ve s / 65536 % 256, ve s / 256 % 256, ve s % 256, pv s / 65536 % 256, pv s / 256 % 256, pv s % 256, pe s / 65536 % 256, pe s / 256 % 256, pe s % 256, gr s, fm s, ((so s).length : Int)]
theorem body_fit {s : Sg} (h : Fit s) : body s = headL s ++ so s := by
  unfold body headL
  rw [put_one, map_mod h.hs]
  simp only [num1, put_cons, put_nil, num3, List.cons_append, List.nil_append, List.append_assoc]
  have a1 := h.hk; have a2 := h.hf; have a3 := h.ht; have a4 := h.hg; have a5 := h.hm; have a6 := h.hl
  unfold byte at a1 a2 a3 a4 a5
  rw [show kd s % 256 = kd s by omega, show fr s % 256 = fr s by omega, show to s % 256 = to s by omega, show gr s % 256 = gr s by omega, show fm s % 256 = fm s by omega, show ((so s).length : Int) % 256 = (so s).length by omega]
theorem body_bytes (s : Sg) : bytes (body s) := by
  unfold body
  exact bytes_app (bytes_app (bytes_app (bytes_app (bytes_app (bytes_app (bytes_app (numB_bytes _ _) (numB_bytes _ _)) (numB_bytes _ _)) (put_bytes _ _)) (numB_bytes _ _)) (numB_bytes _ _)) (numB_bytes _ _)) (put_bytes _ _)
theorem body_len (s : Sg) : (body s).length = 18 + (so s).length := by
  unfold body
  simp only [List.length_append, numB_len, put_len, List.length_cons, List.length_nil]
  omega
theorem encode_ok {s : Sg} (h : validate s = 0) : encode s = (body s ++ numB (sum (body s)) 2, 0, ()) := by
  unfold encode
  rw [decide_eq_true h, cond_true]
theorem encode_bytes (s : Sg) : bytes (encode s).1 := by
  unfold encode
  cases decide (validate s = 0) with
  | true => exact bytes_app (body_bytes s) (numB_bytes _ _)
  | false => intro x hx; cases hx
theorem encode_len {s : Sg} (h : validate s = 0) : (encode s).1.length = 20 + (so s).length := by
  rw [encode_ok h]
  simp only [List.length_append, numB_len, body_len]
  omega
theorem encode_len_le (s : Sg) : (encode s).1.length ≤ 20 + (so s).length := by
  by_cases h : validate s = 0
  · rw [encode_len h]; exact Nat.le_refl _
  · unfold encode
    rw [decide_eq_false h, cond_false]
    simp
/-- What decoding makes of a body, its check number, and the number of sources. -/
theorem decode_parts {s : Sg} {c d : Int} (b : List Int) (n : Nat) (hb : b.length = 18 + n) (hn : b.getD 17 0 = (n : Int)) :
    decode (b ++ [c, d]) = bif !decide (c * 256 + d = sum b) then (sg0, 23, ()) else bif decide (validate (read (b ++ [c, d])) = 0) then (read (b ++ [c, d]), 0, ()) else (sg0, validate (read (b ++ [c, d])), ()) := by
  have hl : (b ++ [c, d]).length = 20 + n := by simp [hb]; omega
  have hg : (b ++ [c, d]).getD 17 0 = (n : Int) := by
    rw [List.getD_eq_getElem?_getD, List.getElem?_append_left (by omega), ← List.getD_eq_getElem?_getD, hn]
  unfold decode
  rw [hl, hg, show 20 + n - 2 = b.length by omega, List.drop_left, List.take_left, val2]
  simp only [show ¬ (20 + n < 20) by omega, show ¬ (((20 + n : Nat) : Int) < 20 + (n : Int)) by omega, show ¬ (20 + (n : Int) < ((20 + n : Nat) : Int)) by omega, decide_false, Bool.or_self, cond_false]
theorem read_fit {s : Sg} (h : Fit s) (c d : Int) : read (headL s ++ so s ++ [c, d]) = s := by
  have hl : (headL s ++ so s ++ [c, d]).length - 20 = (so s).length := by simp [headL]
  have hp : part (headL s ++ so s ++ [c, d]) 18 (so s).length = so s := by
    unfold part
    rw [List.append_assoc, show (18 : Nat) = (headL s).length from rfl, List.drop_left, List.take_left]
  have p3 : part (headL s ++ so s ++ [c, d]) 3 3 = [ep s / 65536 % 256, ep s / 256 % 256, ep s % 256] := rfl
  have p6 : part (headL s ++ so s ++ [c, d]) 6 3 = [ve s / 65536 % 256, ve s / 256 % 256, ve s % 256] := rfl
  have p9 : part (headL s ++ so s ++ [c, d]) 9 3 = [pv s / 65536 % 256, pv s / 256 % 256, pv s % 256] := rfl
  have p12 : part (headL s ++ so s ++ [c, d]) 12 3 = [pe s / 65536 % 256, pe s / 256 % 256, pe s % 256] := rfl
  unfold read
  rw [hl, hp, p3, p6, p9, p12, val_num3 h.he.1 h.he.2, val_num3 h.hv.1 h.hv.2, val_num3 h.hpv.1 h.hpv.2, val_num3 h.hpe.1 h.hpe.2]
  rfl
theorem decode_encode {s : Sg} (h : validate s = 0) : decode (encode s).1 = (s, 0, ()) := by
  have hf := fit_of_valid h
  have hs := sum_lt (body s)
  rw [encode_ok h]
  simp only
  rw [num2, decode_parts (s := s) (body s) (so s).length (body_len s) (by rw [body_fit hf]; rfl)]
  have e : sum (body s) / 256 % 256 * 256 + sum (body s) % 256 = sum (body s) := by omega
  rw [e, decide_eq_true rfl, Bool.not_true, cond_false]
  have hr : read (body s ++ [sum (body s) / 256 % 256, sum (body s) % 256]) = s := by rw [body_fit hf]; exact read_fit hf _ _
  rw [hr, decide_eq_true h, cond_true]
end Sp25

/- Chapter 25: damaged bytes are found. -/
namespace Sp25
open Go Go.Abs
theorem decode_count {m : List Int} {n : Nat} (hl : m.length = 20 + n) (hc : m.getD 17 0 ≠ (n : Int)) : ∃ e : Int, e ≠ 0 ∧ decode m = (sg0, e, ()) := by
  unfold decode
  rw [hl]
  by_cases h : (n : Int) < m.getD 17 0
  · refine ⟨20, by decide, ?_⟩
    rw [decide_eq_false (show ¬ (20 + n < 20) by omega), decide_eq_true (show ((20 + n : Nat) : Int) < 20 + m.getD 17 0 by omega)]
    rfl
  · refine ⟨21, by decide, ?_⟩
    rw [decide_eq_false (show ¬ (20 + n < 20) by omega), decide_eq_false (show ¬ ((20 + n : Nat) : Int) < 20 + m.getD 17 0 by omega), decide_eq_true (show 20 + m.getD 17 0 < ((20 + n : Nat) : Int) by omega)]
    rfl
theorem decode_sum {b : List Int} {n : Nat} {c d : Int} (hb : b.length = 18 + n) (hn : b.getD 17 0 = (n : Int)) (h : c * 256 + d ≠ sum b) : ∃ e : Int, e ≠ 0 ∧ decode (b ++ [c, d]) = (sg0, e, ()) := by
  refine ⟨23, by decide, ?_⟩
  rw [decode_parts (s := sg0) b n hb hn, decide_eq_false h]
  rfl
theorem sum_set_ne {b : List Int} {k : Nat} {y : Int} (hk : k < b.length) (hl : b.length ≤ 200) (hb : byte (b.getD k 0)) (hy : byte y) (hne : y ≠ b.getD k 0) : sum (b.set k y) ≠ sum b := by
  intro h
  unfold sum at h
  rw [sumL_set b y k 1 hk] at h
  have h1 := mod_diff h
  rw [show sumL 1 b + (1 + (k : Int)) * (y - b.getD k 0) - sumL 1 b = (1 + (k : Int)) * (y - b.getD k 0) by omega] at h1
  have := hb.1; have := hb.2; have := hy.1; have := hy.2
  exact no_multiple (by omega) (by omega) (by omega) (by omega) (by omega) h1
theorem getD_bytes {b : List Int} (h : bytes b) (k : Nat) : byte (b.getD k 0) := by
  by_cases hk : k < b.length
  · exact h _ (getD_mem hk)
  · rw [List.getD_eq_getElem?_getD, List.getElem?_eq_none (by omega)]
    exact ⟨by decide, by decide⟩
theorem getD_set_ne {b : List Int} {k j : Nat} {y : Int} (h : j ≠ k) : (b.set k y).getD j 0 = b.getD j 0 := by
  rw [List.getD_eq_getElem?_getD, List.getElem?_set_ne (by omega), ← List.getD_eq_getElem?_getD]
theorem getD_set_eq {b : List Int} {k : Nat} {y : Int} (h : k < b.length) : (b.set k y).getD k 0 = y := by
  rw [List.getD_eq_getElem?_getD, List.getElem?_set_self h]
  rfl
/-- A valid signal's bytes, in parts. -/
theorem parts {s : Sg} (h : validate s = 0) : ∃ b c d, (encode s).1 = b ++ [c, d] ∧ b.length = 18 + (so s).length ∧ b.getD 17 0 = ((so s).length : Int) ∧ bytes b ∧ byte c ∧ byte d ∧ c * 256 + d = sum b ∧ (so s).length ≤ 99 := by
  have hf := fit_of_valid h
  have hs := sum_lt (body s)
  refine ⟨body s, sum (body s) / 256 % 256, sum (body s) % 256, ?_, body_len s, by rw [body_fit hf]; rfl, body_bytes s, mod_byte _, mod_byte _, by omega, hf.hl⟩
  rw [encode_ok h]
  simp only
  rw [num2]
theorem app_get0 (b : List Int) (c d : Int) : (b ++ [c, d]).getD b.length 0 = c := by
  rw [List.getD_eq_getElem?_getD, List.getElem?_append_right (Nat.le_refl _), Nat.sub_self]
  rfl
theorem app_get1 (b : List Int) (c d : Int) : (b ++ [c, d]).getD (b.length + 1) 0 = d := by
  rw [List.getD_eq_getElem?_getD, List.getElem?_append_right (Nat.le_succ _), show b.length + 1 - b.length = 1 by omega]
  rfl
theorem app_getl {b : List Int} {k : Nat} (c d : Int) (h : k < b.length) : (b ++ [c, d]).getD k 0 = b.getD k 0 := by
  rw [List.getD_eq_getElem?_getD, List.getElem?_append_left h, ← List.getD_eq_getElem?_getD]
theorem app_set0 (b : List Int) (c d y : Int) : (b ++ [c, d]).set b.length y = b ++ [y, d] := by
  rw [List.set_append_right _ _ (Nat.le_refl _), Nat.sub_self]
  rfl
theorem app_set1 (b : List Int) (c d y : Int) : (b ++ [c, d]).set (b.length + 1) y = b ++ [c, y] := by
  rw [List.set_append_right _ _ (Nat.le_succ _), show b.length + 1 - b.length = 1 by omega]
  rfl
theorem damage1 {s : Sg} (h : validate s = 0) {k : Nat} {y : Int} (hk : k < (encode s).1.length) (hy : byte y) (hne : y ≠ (encode s).1.getD k 0) : ∃ e : Int, e ≠ 0 ∧ decode ((encode s).1.set k y) = (sg0, e, ()) := by
  obtain ⟨b, c, d, he, hl, hn, hb, hc, hd, hs, h99⟩ := parts h
  rw [he] at hk hne ⊢
  rw [List.length_append, hl] at hk
  simp only [List.length_cons, List.length_nil] at hk
  by_cases h17 : k = 17
  · subst h17
    refine decode_count (n := (so s).length) (by simp [hl]; omega) ?_
    rw [getD_set_eq (by simp [hl]; omega)]
    rw [app_getl c d (by omega), hn] at hne
    exact hne
  · by_cases h1 : k < b.length
    · rw [List.set_append_left _ _ h1]
      rw [app_getl c d h1] at hne
      refine decode_sum (n := (so s).length) (by simpa using hl) (by rw [getD_set_ne (by omega)]; exact hn) ?_
      rw [hs]
      exact (sum_set_ne h1 (by omega) (getD_bytes hb k) hy hne).symm
    · rcases (by omega : k = b.length ∨ k = b.length + 1) with rfl | rfl
      · rw [app_set0]
        rw [app_get0] at hne
        exact decode_sum hl hn (by omega)
      · rw [app_set1]
        rw [app_get1] at hne
        exact decode_sum hl hn (by omega)
theorem damage2 {s : Sg} (h : validate s = 0) {k : Nat} (hk : k + 1 < (encode s).1.length) (hne : (encode s).1.getD k 0 ≠ (encode s).1.getD (k + 1) 0) :
    ∃ e : Int, e ≠ 0 ∧ decode (((encode s).1.set k ((encode s).1.getD (k + 1) 0)).set (k + 1) ((encode s).1.getD k 0)) = (sg0, e, ()) := by
  obtain ⟨b, c, d, he, hl, hn, hb, hc, hd, hs, h99⟩ := parts h
  rw [he] at hk hne ⊢
  rw [List.length_append, hl] at hk
  simp only [List.length_cons, List.length_nil] at hk
  have := hc.1; have := hc.2; have := hd.1; have := hd.2
  by_cases h17 : k = 17
  · subst h17
    refine decode_count (n := (so s).length) (by simp [hl]; omega) ?_
    rw [getD_set_ne (by decide), getD_set_eq (by simp [hl]; omega)]
    rw [app_getl c d (by omega), hn] at hne
    exact fun e => hne e.symm
  · by_cases h16 : k = 16
    · subst h16
      refine decode_count (n := (so s).length) (by simp [hl]; omega) ?_
      rw [getD_set_eq (by simp [hl]; omega)]
      rw [app_getl c d (show 16 + 1 < b.length by omega), hn] at hne
      exact hne
    · by_cases h1 : k + 1 < b.length
      · rw [app_getl c d h1, app_getl c d (show k < b.length by omega)] at hne
        rw [app_getl c d h1, app_getl c d (show k < b.length by omega), List.set_append_left _ _ (show k < b.length by omega), List.set_append_left _ _ (by simpa using h1)]
        refine decode_sum (n := (so s).length) (by simpa using hl) (by rw [getD_set_ne (by omega), getD_set_ne (by omega)]; exact hn) ?_
        rw [hs]
        intro e
        unfold sum at e
        rw [sumL_set _ _ (k + 1) 1 (by simpa using h1), getD_set_ne (by omega), sumL_set _ _ k 1 (by omega)] at e
        have h2 := mod_diff e
        have b0 := getD_bytes hb k
        have b1 := getD_bytes hb (k + 1)
        generalize b.getD k 0 = x at *
        generalize b.getD (k + 1) 0 = y at *
        have e3 : sumL 1 b - (sumL 1 b + (1 + (k : Int)) * (y - x) + (1 + ((k + 1 : Nat) : Int)) * (x - y)) = 1 * (y - x) := by
          rw [show (1 + ((k + 1 : Nat) : Int)) = (1 + (k : Int)) + 1 by omega, Int.add_mul (1 + (k : Int)) 1 (x - y), show x - y = -(y - x) by omega, Int.mul_neg]
          omega
        rw [e3] at h2
        have := b0.1; have := b0.2; have := b1.1; have := b1.2
        exact no_multiple (by omega) (by omega) (by omega) (by omega) (by omega) h2
      · rcases (by omega : k + 1 = b.length ∨ k = b.length) with h2 | rfl
        · have hk2 : k < b.length := by omega
          rw [h2, app_get0, app_getl c d hk2] at hne
          rw [h2, app_get0, app_getl c d hk2, List.set_append_left _ _ hk2]
          have e1 : b.length = (b.set k c).length := by simp
          rw [show (b.set k c ++ [c, d]).set b.length (b.getD k 0) = b.set k c ++ [b.getD k 0, d] by rw [e1, app_set0]]
          refine decode_sum (n := (so s).length) (by simpa using hl) (by rw [getD_set_ne (by omega)]; exact hn) ?_
          intro e
          have b0 := getD_bytes hb k
          unfold sum at hs e
          rw [sumL_set b c k 1 hk2] at e
          generalize b.getD k 0 = x at *
          have e4 : ((257 + (k : Int)) * (x - c)) % 65521 = 0 := by
            have e5 : (257 + (k : Int)) * (x - c) = 256 * (x - c) - (1 + (k : Int)) * (c - x) := by
              rw [show (257 + (k : Int)) = 256 + (1 + (k : Int)) by omega, Int.add_mul, show c - x = -(x - c) by omega, Int.mul_neg]
              omega
            rw [e5]
            omega
          have := b0.1; have := b0.2
          exact no_multiple (by omega) (by omega) (by omega) (by omega) (by omega) e4
        · rw [app_get0, app_get1] at hne
          rw [app_get0, app_get1, app_set0, app_set1]
          exact decode_sum hl hn (by omega)
theorem no_damage {l : List Int} {k : Nat} (hk : k + 1 < l.length) (h : l.getD k 0 = l.getD (k + 1) 0) : (l.set k (l.getD (k + 1) 0)).set (k + 1) (l.getD k 0) = l := by
  have h1 : l.set k (l.getD (k + 1) 0) = l := by
    rw [← h, List.getD_eq_getElem?_getD, List.getElem?_eq_getElem (by omega)]
    exact List.set_getElem_self _
  rw [h1, h, List.getD_eq_getElem?_getD, List.getElem?_eq_getElem (by omega)]
  exact List.set_getElem_self _
end Sp25

/- Chapter 25: the functions keep their contracts: the tape, comparisons, checks. -/
namespace Go.Abs.C25
open Go Go.Proofs Sp25

abbrev B : Env := mkE tab gl 0 false []
theorem glue {f : Nat} {fn : Func} {n : Nat} {hp : Bool} {md : List (Nat × Nat)} (L : List (Nat × Con)) (hL : ∀ g con, lookC L g = some con → FunOk Tryd.prog B g con) (plan : Plan) {c : Con}
    (hf : Tryd.prog.funcs[f]? = some fn) (hck : fnCheck (mkE tab gl n hp md) fn c = true)
    (hF : ∀ x y, (Ty.cons (lfTy c.pre) (shTy c.ps)).ok x → c.F x = some y → (evF (fun _ _ => Loop) (mkE tab gl n hp md) (lookC L) fn plan c x).den = some y) : FunOk Tryd.prog B f c :=
  FunOk.env (E := mkE tab gl n hp md) rfl (fun_ok (pok n hp md) mix (fun g con h => FunOk.env (E := B) rfl (hL g con h)) plan hf hck hF)

theorem ints {l : List Int} (h : (Ty.sl (.int .i64)).ok l) : l.length ≤ 17592186044416 ∧ ∀ x ∈ l, -9223372036854775808 ≤ x ∧ x ≤ 9223372036854775807 := by
  obtain ⟨h1, h2⟩ := h
  have h1 : l.length * 8 ≤ 140737488355328 := h1
  exact ⟨by omega, fun x hx => has_i64 (h2 x hx)⟩
theorem u8s {l : List Int} (h : (Ty.sl (.int .u8)).ok l) : l.length ≤ 140737488355328 ∧ Sp25.bytes l := by
  obtain ⟨h1, h2⟩ := h
  have h1 : l.length * 1 ≤ 140737488355328 := h1
  exact ⟨by omega, fun x hx => has_u8 (h2 x hx)⟩

theorem g38_ok (a0 : (List Int)) (a1 : Int) (r0 : (Ty.sl (.int .i64)).ok a0) (r1 : IntKind.i64.has a1) (h : (Sp25.wf (a0, a1, ())) = true) : g38 a0 a1 = some (Sp25.raw (a0, a1, ())) := by
  obtain ⟨h1, h2, h3⟩ := wf_iff.1 h
  simp only at h1 h2 h3
  unfold g38 Sp25.raw
  by_cases h4 : a1 < a0.length
  · have h5 : ¬ a1 ≥ (a0.length : Int) := by omega
    have e1 : IntKind.wrap .i64 (a1 + 1) = a1 + 1 := wi64 (by omega) (by omega)
    have e2 : IntKind.wrap .i64 (a1 + 1 - 1) = a1 := by rw [show a1 + 1 - 1 = a1 by omega]; exact wi64 (by omega) (by omega)
    simp only [Int.ofNat_eq_natCast, e1, e2, h5, h4, h1, decide_true, decide_false, cond_true, cond_false, Bool.and_self]
  · have h5 : a1 ≥ (a0.length : Int) := by omega
    simp only [Int.ofNat_eq_natCast, h5, h4, decide_true, decide_false, cond_true, cond_false]

theorem g11_ok (a0 : Int) (a1 : Int) (r0 : IntKind.i64.has a0) (r1 : IntKind.i64.has a1) : g11 a0 a1 = some (Sp25.cut a0 a1, ()) := by
  have hm := (has_i64 r1).2
  unfold g11 Sp25.cut
  by_cases h : a1 < 1
  · simp [h]
  · have h0 : ¬ a1 = 0 := by omega
    have hp : 0 < a1 := by omega
    have e1 := Int.emod_nonneg a0 h0
    have e2 := Int.emod_lt_of_pos a0 hp
    have e3 : a0.tmod a1 = if 0 ≤ a0 ∨ a1 ∣ a0 then a0 % a1 else a0 % a1 - a1 := by
      rw [Int.tmod_eq_emod]
      split <;> rename_i h <;> simp [h]
      omega
    by_cases h5 : 0 ≤ a0 ∨ a1 ∣ a0
    · rw [if_pos h5] at e3
      have : ¬ a0 % a1 < 0 := by omega
      simp [h, h0, e3, this]
      rfl
    · rw [if_neg h5] at e3
      have h6 : a0 % a1 - a1 < 0 := by omega
      have h7 : a0 % a1 - a1 + a1 = a0 % a1 := by omega
      have h8 : IntKind.wrap .i64 (a0 % a1) = a0 % a1 := wi64 (by omega) (by omega)
      simp only [h, h0, e3, h6, h7, h8, decide_true, decide_false, cond_true, cond_false, Bool.not_false, Option.bind]
      rfl

theorem g24_ok (a0 : (List Int)) (a1 : Int) (a2 : Int) (r0 : (Ty.sl (.int .i64)).ok a0) (r1 : IntKind.i64.has a1) (r2 : IntKind.i64.has a2) (h : (Sp25.wf (a0, a1, ())) = true) : g24 a0 a1 a2 = some (Sp25.next (a0, a1, ()) a2) := by
  unfold g24
  rw [on_true h]
  rfl

theorem g22_ok (a0 : (List Int)) (a1 : Int) (a2 : Int) (a3 : Int) (r0 : (Ty.sl (.int .i64)).ok a0) (r1 : IntKind.i64.has a1) (r2 : IntKind.i64.has a2) (r3 : IntKind.i64.has a3) (h : (Sp25.wf (a0, a1, ()) && Sp25.small a2 && Sp25.small a3) = true) : g22 a0 a1 a2 a3 = some (Sp25.range (a0, a1, ()) a2 a3) := by
  simp only [Bool.and_eq_true] at h
  have k2 := small_iff.1 h.1.2
  have k3 := small_iff.1 h.2
  unfold g22 Sp25.range
  rw [on_true h.1.1]
  have e1 : IntKind.wrap .i64 (a3 - a2) = a3 - a2 := wi64 (by omega) (by omega)
  have e2 : IntKind.wrap .i64 (a3 - a2 + 1) = a3 - a2 + 1 := wi64 (by omega) (by omega)
  have hb := next_bound (t := (a0, a1, ())) (n := a3 - a2 + 1)
  have e3 : IntKind.wrap .i64 (a2 + (next (a0, a1, ()) (a3 - a2 + 1)).1) = a2 + (next (a0, a1, ()) (a3 - a2 + 1)).1 := wi64 (by omega) (by omega)
  simp only [e1, e2, Option.bind, e3]

theorem g23_ok (a0 : (List Int)) (a1 : Int) (a2 : (List Int)) (r0 : (Ty.sl (.int .i64)).ok a0) (r1 : IntKind.i64.has a1) (r2 : (Ty.sl (.int .i64)).ok a2) (h : (Sp25.wf (a0, a1, ()) && decide (0 < a2.length) && decide (a2.length ≤ 1000)) = true) : g23 a0 a1 a2 = some (Sp25.pick (a0, a1, ()) a2) := by
  simp only [Bool.and_eq_true, decide_eq_true_eq] at h
  unfold g23 Sp25.pick
  rw [on_true h.1.1]
  have hb := next_range (t := (a0, a1, ())) (n := (a2.length : Int)) (by omega)
  simp only [Int.ofNat_eq_natCast, Option.bind, hb.1, hb.2, decide_true, Bool.and_self, cond_true]

theorem g8_ok (a0 : (List Int)) (r0 : (Ty.sl (.int .i64)).ok a0) : g8 a0 = some (Sp25.tape a0, ()) := by
  unfold g8 Sp25.tape
  by_cases h : (2000 : Int) < a0.length
  · have h2 : (2000 : Int) ≤ a0.length := by omega
    simp [h, h2]
  · have h2 : a0.take 2000 = a0 := List.take_of_length_le (by omega)
    simp [h, h2]

theorem eq_loop (a b : List Int) (hl : a.length ≤ 17592186044416) (h : a.length = b.length) : Loop (g40_s0 a b) ((0 : Int), ()) = some (bif (a.zip b).any (fun p => !decide (p.1 = p.2)) then (true, (false, ()), ()) else (false, (false, ()), ())) := by
  have hz : (a.zip b).length = a.length := by simp [h]
  refine Loop_scan (a.zip b) (0, 0) _ _ _ (fun i h0 hi => ?_) ?_
  · rw [hz] at hi
    have e1 : IntKind.wrap .i64 (i + 1) = i + 1 := wi64 (by omega) (by omega)
    have c1 : i < (b.length : Int) := by omega
    have hg := zip_getD a b i.toNat 0 0 (by omega) (by omega)
    unfold g40_s0
    simp only [hi, h0, c1, e1, hg, decide_true, cond_true, Bool.and_self, Int.ofNat_eq_natCast]
    cases decide (a.getD i.toNat 0 = b.getD i.toNat 0) <;> rfl
  · unfold g40_s0
    simp [hz]
theorem s37 : @g37_s0 = @g40_s0 := rfl
theorem zip_any_ne (a b : List Int) (h : a.length = b.length) : (a.zip b).any (fun p => !decide (p.1 = p.2)) = !decide (a = b) := by
  induction a generalizing b with
  | nil => cases b with
    | nil => rfl
    | cons y m => simp at h
  | cons x l ih => cases b with
    | nil => simp at h
    | cons y m =>
      simp only [List.zip_cons_cons, List.any_cons, ih m (by simpa using h)]
      by_cases h1 : x = y <;> by_cases h2 : l = m <;> simp [h1, h2]

theorem g40_ok (a0 : (List Int)) (a1 : (List Int)) (r0 : (Ty.sl (.int .i64)).ok a0) (r1 : (Ty.sl (.int .i64)).ok a1) : g40 a0 a1 = some (decide (a0 = a1), ()) := by
  obtain ⟨hl, _⟩ := ints r0
  unfold g40
  by_cases h : a0.length = a1.length
  · have hc : ((a0.length : Int) = (a1.length : Int)) := by omega
    rw [eq_loop a0 a1 hl h, zip_any_ne a0 a1 h]
    simp only [Int.ofNat_eq_natCast, hc, decide_true, Bool.not_true, cond_false, Option.bind_some]
    cases decide (a0 = a1) <;> rfl
  · have hc : ¬ ((a0.length : Int) = (a1.length : Int)) := by omega
    have hne : ¬ a0 = a1 := fun k => h (by rw [k])
    simp [hc, hne]

theorem g37_ok (a0 : (List Int)) (a1 : (List Int)) (r0 : (Ty.sl (.int .i64)).ok a0) (r1 : (Ty.sl (.int .i64)).ok a1) : g37 a0 a1 = some (decide (a0 = a1), ()) := by
  obtain ⟨hl, _⟩ := ints r0
  unfold g37
  by_cases h : a0.length = a1.length
  · have hc : ((a0.length : Int) = (a1.length : Int)) := by omega
    rw [s37, eq_loop a0 a1 hl h, zip_any_ne a0 a1 h]
    simp only [Int.ofNat_eq_natCast, hc, decide_true, Bool.not_true, cond_false, Option.bind_some]
    cases decide (a0 = a1) <;> rfl
  · have hc : ¬ ((a0.length : Int) = (a1.length : Int)) := by omega
    have hne : ¬ a0 = a1 := fun k => h (by rw [k])
    simp [hc, hne]

theorem g35_ok (a0 : Int) (a1 : Int) (a2 : Int) (r0 : IntKind.i64.has a0) (r1 : IntKind.i64.has a1) (r2 : IntKind.i64.has a2) : g35 a0 a1 a2 = some (Sp25.inside a0 a1 a2, ()) := by
  unfold g35 inside
  by_cases h1 : a1 ≤ a0 <;> simp [h1, GE.ge]

theorem g33_ok (a0 : Int) (a1 : Int) (a2 : Int) (r0 : IntKind.i64.has a0) (r1 : IntKind.i64.has a1) (r2 : IntKind.i64.has a2) : g33 a0 a1 a2 = some (Sp25.inside a2 a0 a1, ()) := by
  unfold g33 inside
  by_cases h1 : a0 ≤ a2 <;> simp [h1, GE.ge]

theorem g32_ok (a0 : Int) (a1 : Int) (a2 : Int) (a3 : Int) (a4 : Int) (a5 : Int) (a6 : Int) (a7 : Int) (a8 : Int) (a9 : (List Int)) (r0 : IntKind.i64.has a0) (r1 : IntKind.i64.has a1) (r2 : IntKind.i64.has a2) (r3 : IntKind.i64.has a3) (r4 : IntKind.i64.has a4) (r5 : IntKind.i64.has a5) (r6 : IntKind.i64.has a6) (r7 : IntKind.i64.has a7) (r8 : IntKind.i64.has a8) (r9 : (Ty.sl (.int .i64)).ok a9) : g32 a0 a1 a2 a3 a4 a5 a6 a7 a8 a9 = some (Sp25.forms (a0, a1, a2, a3, a4, a5, a6, a7, a8, a9, ()), ()) := by
  unfold g32 forms
  by_cases h1 : a0 = 1
  · simp [h1, kd]
  by_cases h2 : a0 = 2
  · simp [h2, kd, ve]
  by_cases h3 : a0 = 3
  · simp [h3, kd]
  · simp [h1, h2, h3, kd]

theorem g29_ok (a0 : Int) (a1 : (List Int)) (a2 : Int) (a3 : (List Int)) (r0 : IntKind.i64.has a0) (r1 : (Ty.sl (.int .i64)).ok a1) (r2 : IntKind.i64.has a2) (r3 : (Ty.sl (.int .i64)).ok a3) : g29 a0 a1 a2 a3 = some (Sp25.sameF (a0, a1, ()) (a2, a3, ()), ()) := by
  unfold g29 sameF
  by_cases h1 : a0 = a2 <;> simp [h1]

theorem vf_loop0 (l : List Int) (hl : l.length ≤ 17592186044416) : Loop (g34_s0 l) ((0 : Int), ()) = some (bif l.any (fun s => !inside s 1 99) then (true, (2, ()), ()) else (false, (0, ()), ())) := by
  refine Loop_scan l 0 _ _ _ (fun i h0 hi => ?_) ?_
  · have e1 : IntKind.wrap .i64 (i + 1) = i + 1 := wi64 (by omega) (by omega)
    unfold g34_s0
    simp only [hi, h0, e1, decide_true, cond_true, Bool.and_self, Int.ofNat_eq_natCast]
    generalize l.getD i.toNat 0 = x
    unfold inside
    by_cases h1 : x < 1
    · have : ¬ 1 ≤ x := by omega
      simp [h1, this]
    · have h2 : 1 ≤ x := by omega
      by_cases h3 : x > 99
      · have : ¬ x ≤ 99 := by omega
        simp [h1, h2, h3, this]
      · have : x ≤ 99 := by omega
        simp [h1, h2, h3, this]
  · unfold g34_s0
    simp
/-- Some element is not less than its successor. -/
theorem asc_any : ∀ (l : List Int), (l.zip l.tail).any (fun p => decide (p.1 ≥ p.2)) = !asc l
  | [] => rfl
  | [x] => rfl
  | x :: y :: r => by
    have ih := asc_any (y :: r)
    simp only [List.tail_cons, List.zip_cons_cons, List.any_cons, asc] at ih ⊢
    rw [ih]
    by_cases h : x < y
    · have : ¬ x ≥ y := by omega
      simp [h, this]
    · have : x ≥ y := by omega
      simp [h, this]
theorem vf_loop1 (l : List Int) (hl : l.length ≤ 17592186044416) : Loop (g34_s1 l) ((1 : Int), ()) = some (bif asc l then (false, (0, ()), ()) else (true, (25, ()), ())) := by
  have key : Loop (g34_s1 l) ((1 : Int), ()) = some (bif ((l.drop ((1 : Int).toNat - 1)).zip (l.drop (1 : Int).toNat)).any (fun p => decide (p.1 ≥ p.2)) then (true, (25, ()), ()) else (false, (0, ()), ())) := by
    refine Loop_inv (fun v : Int × Unit => 1 ≤ v.1) (fun v : Int × Unit => ((l.length : Int) - v.1).toNat)
      (fun v : Int × Unit => bif ((l.drop (v.1.toNat - 1)).zip (l.drop v.1.toNat)).any (fun p => decide (p.1 ≥ p.2)) then (true, (25, ()), ()) else (false, (0, ()), ())) ?_ (v := (1, ())) (by simp)
    rintro ⟨i, ⟨⟩⟩ k1
    simp only at k1
    unfold g34_s1
    by_cases h : i < (l.length : Int)
    · have e1 : IntKind.wrap .i64 (i + 1) = i + 1 := wi64 (by omega) (by omega)
      have e2 : IntKind.wrap .i64 (i - 1) = i - 1 := wi64 (by omega) (by omega)
      have c1 : 0 ≤ i - 1 := by omega
      have c2 : i - 1 < (l.length : Int) := by omega
      have c3 : 0 ≤ i := by omega
      have d1 : l.drop (i.toNat - 1) = l.getD (i - 1).toNat 0 :: l.drop i.toNat := by
        rw [show (i - 1).toNat = i.toNat - 1 by omega, drop_getD l (i.toNat - 1) 0 (by omega), show i.toNat - 1 + 1 = i.toNat by omega]
      have d2 : l.drop i.toNat = l.getD i.toNat 0 :: l.drop (i.toNat + 1) := drop_getD l i.toNat 0 (by omega)
      simp only [h, e1, e2, c1, c2, c3, Int.ofNat_eq_natCast, decide_true, Bool.and_self, cond_true]
      have d3 : ∀ (L : List Int) (x y : Int) (r : List Int), L = y :: r → ((x :: L).zip L).any (fun p => decide (p.1 ≥ p.2)) = (decide (x ≥ y) || (L.zip r).any (fun p => decide (p.1 ≥ p.2))) := by
        intro L x y r h; subst h; rfl
      rw [d1, d3 _ _ _ _ d2]
      have d4 : (i + 1).toNat = i.toNat + 1 := by omega
      cases hc : decide (l.getD (i - 1).toNat 0 ≥ l.getD i.toNat 0) with
      | true =>
        left
        rfl
      | false =>
        right
        refine ⟨(i + 1, ()), rfl, by simp only; omega, by simp only; omega, ?_⟩
        simp only [d4, Nat.add_sub_cancel, Bool.false_or]
    · left
      have hd : l.drop i.toNat = [] := List.drop_eq_nil_of_le (by omega)
      simp only [h, hd, Int.ofNat_eq_natCast, decide_false, cond_false, List.zip_nil_right, List.any_nil]
  rw [key]
  have : (1 : Int).toNat = 1 := rfl
  rw [this, List.drop_zero, List.drop_one, asc_any]
  cases asc l <;> rfl
theorem s36 : @g36_s0 = @g34_s0 := rfl
theorem s36b : @g36_s1 = @g34_s1 := rfl
theorem any_not {α : Type} (l : List α) (p : α → Bool) : l.any (fun x => !p x) = !l.all p := by
  induction l with
  | nil => rfl
  | cons x r ih => simp only [List.any_cons, List.all_cons, ih, Bool.not_and]

theorem g34_ok (a0 : Int) (a1 : (List Int)) (r0 : IntKind.i64.has a0) (r1 : (Ty.sl (.int .i64)).ok a1) : g34 a0 a1 = some (Sp25.validF (a0, a1, ()), ()) := by
  obtain ⟨hl, _⟩ := ints r1
  unfold g34 validF
  rw [vf_loop0 a1 hl, vf_loop1 a1 hl, any_not]
  by_cases h1 : a0 = 1 <;> by_cases h2 : a0 = 2 <;> cases h3 : a1.all (fun s => inside s 1 99) <;> cases h4 : asc a1 <;> simp [h1, h2, h3, h4]

theorem g36_ok (a0 : Int) (a1 : (List Int)) (r0 : IntKind.i64.has a0) (r1 : (Ty.sl (.int .i64)).ok a1) : g36 a0 a1 = some (Sp25.validF (a0, a1, ()), ()) := by
  obtain ⟨hl, _⟩ := ints r1
  unfold g36 validF
  rw [s36, s36b, vf_loop0 a1 hl, vf_loop1 a1 hl, any_not]
  by_cases h1 : a0 = 1 <;> by_cases h2 : a0 = 2 <;> cases h3 : a1.all (fun s => inside s 1 99) <;> cases h4 : asc a1 <;> simp [h1, h2, h3, h4]

theorem bifAnd (p q : Bool) : (bif p then some (q, ()) else some (false, ())) = some (p && q, ()) := by cases p <;> rfl

theorem g14_ok (a0 : Int) (a1 : Int) (a2 : Int) (a3 : Int) (a4 : Int) (a5 : Int) (a6 : Int) (a7 : Int) (a8 : Int) (a9 : (List Int)) (a10 : Int) (a11 : Int) (a12 : Int) (a13 : Int) (a14 : Int) (a15 : Int) (a16 : Int) (a17 : Int) (a18 : Int) (a19 : (List Int)) (r0 : IntKind.i64.has a0) (r1 : IntKind.i64.has a1) (r2 : IntKind.i64.has a2) (r3 : IntKind.i64.has a3) (r4 : IntKind.i64.has a4) (r5 : IntKind.i64.has a5) (r6 : IntKind.i64.has a6) (r7 : IntKind.i64.has a7) (r8 : IntKind.i64.has a8) (r9 : (Ty.sl (.int .i64)).ok a9) (r10 : IntKind.i64.has a10) (r11 : IntKind.i64.has a11) (r12 : IntKind.i64.has a12) (r13 : IntKind.i64.has a13) (r14 : IntKind.i64.has a14) (r15 : IntKind.i64.has a15) (r16 : IntKind.i64.has a16) (r17 : IntKind.i64.has a17) (r18 : IntKind.i64.has a18) (r19 : (Ty.sl (.int .i64)).ok a19) : g14 a0 a1 a2 a3 a4 a5 a6 a7 a8 a9 a10 a11 a12 a13 a14 a15 a16 a17 a18 a19 = some (Sp25.sameS (a0, a1, a2, a3, a4, a5, a6, a7, a8, a9, ()) (a10, a11, a12, a13, a14, a15, a16, a17, a18, a19, ()), ()) := by
  unfold g14 Sp25.sameS
  simp only [kd, fr, to, ep, ve, pv, pe, gr, fm, so, bifAnd, Option.bind_some, Bool.and_assoc]
  rfl

theorem bifNot (p : Bool) (x : Bool) : (bif !p then some (false, ()) else some (x, ())) = some (p && x, ()) := by cases p <;> rfl

theorem g19_ok (a0 : Int) (a1 : Int) (a2 : Int) (a3 : Int) (a4 : Int) (a5 : Int) (a6 : Int) (a7 : Int) (a8 : Int) (a9 : (List Int)) (a10 : Int) (a11 : Int) (a12 : Int) (a13 : Int) (a14 : Int) (a15 : Int) (a16 : Int) (a17 : Int) (a18 : Int) (a19 : (List Int)) (r0 : IntKind.i64.has a0) (r1 : IntKind.i64.has a1) (r2 : IntKind.i64.has a2) (r3 : IntKind.i64.has a3) (r4 : IntKind.i64.has a4) (r5 : IntKind.i64.has a5) (r6 : IntKind.i64.has a6) (r7 : IntKind.i64.has a7) (r8 : IntKind.i64.has a8) (r9 : (Ty.sl (.int .i64)).ok a9) (r10 : IntKind.i64.has a10) (r11 : IntKind.i64.has a11) (r12 : IntKind.i64.has a12) (r13 : IntKind.i64.has a13) (r14 : IntKind.i64.has a14) (r15 : IntKind.i64.has a15) (r16 : IntKind.i64.has a16) (r17 : IntKind.i64.has a17) (r18 : IntKind.i64.has a18) (r19 : (Ty.sl (.int .i64)).ok a19) : g19 a0 a1 a2 a3 a4 a5 a6 a7 a8 a9 a10 a11 a12 a13 a14 a15 a16 a17 a18 a19 = some (Sp25.sameS (a0, a1, a2, a3, a4, a5, a6, a7, a8, a9, ()) (a10, a11, a12, a13, a14, a15, a16, a17, a18, a19, ()), ()) := by
  unfold g19 Sp25.sameS sameF
  simp only [kd, fr, to, ep, ve, pv, pe, gr, fm, so, bifAnd, Option.bind_some, Bool.and_assoc, bifNot]
  by_cases h : a9 = a19
  · simp only [h, decide_true, Bool.true_and, Bool.and_true]; rfl
  · simp only [h, decide_false, Bool.false_and, Bool.and_false]
end Go.Abs.C25

/- Chapter 25: the functions keep their contracts: validity, numbers in bytes, sums. -/
namespace Go.Abs.C25
open Go Go.Proofs Sp25

theorem v_loop (a0 a1 a2 a3 a4 a5 a6 a7 a8 : Int) (a9 : List Int) (F : Fo × Bool × Unit) (hF : forms (a0, a1, a2, a3, a4, a5, a6, a7, a8, a9, ()) = F) :
    Loop (g17_s0 a0 a1 a2 a3 a4 a5 a6 a7 a8 a9) ((0 : Int), ()) = some (bif (!inside a3 F.1.1 F.1.2.1) || ((!inside a4 F.1.2.2.1 F.1.2.2.2.1) || ((!inside a5 F.1.2.2.2.2.1 F.1.2.2.2.2.2.1) || ((!inside a6 F.1.2.2.2.2.2.2.1 F.1.2.2.2.2.2.2.2.1) || ((!inside a7 F.1.2.2.2.2.2.2.2.2.1 F.1.2.2.2.2.2.2.2.2.2.1) || false)))) then (true, (2, ()), ()) else (false, (0, ()), ())) := by
  refine (Loop_scanI (step := g17_s0 a0 a1 a2 a3 a4 a5 a6 a7 a8 a9) 5 (fun k => !inside ([a3, a4, a5, a6, a7].getD k 0) ([F.1.1, F.1.2.1, F.1.2.2.1, F.1.2.2.2.1, F.1.2.2.2.2.1, F.1.2.2.2.2.2.1, F.1.2.2.2.2.2.2.1, F.1.2.2.2.2.2.2.2.1, F.1.2.2.2.2.2.2.2.2.1, F.1.2.2.2.2.2.2.2.2.2.1].getD (k * 2) 0) ([F.1.1, F.1.2.1, F.1.2.2.1, F.1.2.2.2.1, F.1.2.2.2.2.1, F.1.2.2.2.2.2.1, F.1.2.2.2.2.2.2.1, F.1.2.2.2.2.2.2.2.1, F.1.2.2.2.2.2.2.2.2.1, F.1.2.2.2.2.2.2.2.2.2.1].getD (k * 2 + 1) 0))
    (true, (2, ()), ()) (false, (0, ()), ()) (fun i h0 hi => ?_) ?_).trans ?_
  · have hi : i < 5 := hi
    unfold g17_s0
    rw [hF]
    have e1 : IntKind.wrap .i64 (i + 1) = i + 1 := wi64 (by omega) (by omega)
    have c : Nat.ble (i.toNat * 2 + 2) 10 = true := ble_t (by omega)
    simp only [hi, h0, e1, decide_true, Bool.and_self, cond_true, List.length_cons, List.length_nil, Nat.zero_add, Nat.reduceAdd, c]
    generalize inside _ _ _ = q
    cases q <;> rfl
  · unfold g17_s0
    rfl
  · rfl

def dI (a b : Int) : Bool := decide (a = b)
theorem dI_self (a : Int) : dI a a = true := by unfold dI; simp
theorem dI_ne {a b : Int} (h : a ≠ b) : dI a b = false := by unfold dI; simp [h]
theorem bifOr (p q : Bool) : (bif p then some (true, ()) else some (q, ())) = some (p || q, ()) := by cases p <;> rfl
theorem bifOr' (p q : Bool) : (bif !p then some (q, ()) else some (true, ())) = some (p || q, ()) := by cases p <;> rfl
theorem gt0 (l : List Int) : decide (Int.ofNat l.length > 0) = decide (0 < l.length) := decide_eq_decide.2 (by simp)

theorem spec_dI (a0 a1 a2 a3 a4 a5 a6 a7 a8 : Int) (a9 : List Int) : some (Sp25.validate (a0, a1, a2, a3, a4, a5, a6, a7, a8, a9, ()), ()) = some (bif !inside a0 1 3 then (1 : Int) else
      bif !(inside a1 1 99 && inside a2 1 99 && !dI a1 a2 && (bif dI a0 1 then inside a3 1 1000000 && inside a4 0 1000000 && dI a5 0 && dI a6 0 && dI a7 0 else
        bif dI a0 2 then inside a3 1 1000000 && inside a4 1 1000000 && inside a5 0 (a4 - 1) && dI a6 0 && inside a7 1 99 else
        inside a3 0 1000000 && inside a4 0 1000000 && dI a5 0 && inside a6 1 1000000 && dI a7 0)) then 2 else
      bif dI a0 2 then validF (a8, a9, ()) else bif !dI a8 0 || decide (0 < a9.length) then 1 else 0, ()) := rfl
/-- What the program's function comes to, the ranges being given. -/
def v17 (a0 a1 a2 a3 a4 a5 a6 a7 a8 : Int) (a9 : List Int) (F : Fo × Bool × Unit) : Option (Int × Unit) :=
  bif !F.2.1 then some (1, ()) else bif !(inside a1 1 99) || (!(inside a2 1 99) || dI a1 a2) then some (2, ()) else
  bif (!inside a3 F.1.1 F.1.2.1) || ((!inside a4 F.1.2.2.1 F.1.2.2.2.1) || ((!inside a5 F.1.2.2.2.2.1 F.1.2.2.2.2.2.1) || ((!inside a6 F.1.2.2.2.2.2.2.1 F.1.2.2.2.2.2.2.2.1) || ((!inside a7 F.1.2.2.2.2.2.2.2.2.1 F.1.2.2.2.2.2.2.2.2.2.1) || false)))) then some (2, ()) else
  bif dI a0 2 then some (validF (a8, a9, ()), ()) else bif !dI a8 0 || decide (0 < a9.length) then some (1, ()) else some (0, ())
theorem g17_v (a0 a1 a2 a3 a4 a5 a6 a7 a8 : Int) (a9 : List Int) : g17 a0 a1 a2 a3 a4 a5 a6 a7 a8 a9 = v17 a0 a1 a2 a3 a4 a5 a6 a7 a8 a9 (forms (a0, a1, a2, a3, a4, a5, a6, a7, a8, a9, ())) := by
  unfold g17 v17
  rw [v_loop a0 a1 a2 a3 a4 a5 a6 a7 a8 a9 _ rfl]
  generalize forms (a0, a1, a2, a3, a4, a5, a6, a7, a8, a9, ()) = F
  cases F.2.1 with
  | false => rfl
  | true =>
  simp only [bifOr', Option.bind_some, gt0]
  change (bif !true then some (1, ()) else bif (!(inside a1 1 99)) || (!(inside a2 1 99) || dI a1 a2) then some (2, ()) else _) = _
  cases (!(inside a1 1 99)) || (!(inside a2 1 99) || dI a1 a2) with
  | true => rfl
  | false =>
  simp only [Bool.not_true, cond_false]
  cases (!inside a3 F.1.1 F.1.2.1) || ((!inside a4 F.1.2.2.1 F.1.2.2.2.1) || ((!inside a5 F.1.2.2.2.2.1 F.1.2.2.2.2.2.1) || ((!inside a6 F.1.2.2.2.2.2.2.1 F.1.2.2.2.2.2.2.2.1) || ((!inside a7 F.1.2.2.2.2.2.2.2.2.1 F.1.2.2.2.2.2.2.2.2.2.1) || false)))) with
  | true => rfl
  | false => rfl

theorem g17_ok (a0 : Int) (a1 : Int) (a2 : Int) (a3 : Int) (a4 : Int) (a5 : Int) (a6 : Int) (a7 : Int) (a8 : Int) (a9 : (List Int)) (r0 : IntKind.i64.has a0) (r1 : IntKind.i64.has a1) (r2 : IntKind.i64.has a2) (r3 : IntKind.i64.has a3) (r4 : IntKind.i64.has a4) (r5 : IntKind.i64.has a5) (r6 : IntKind.i64.has a6) (r7 : IntKind.i64.has a7) (r8 : IntKind.i64.has a8) (r9 : (Ty.sl (.int .i64)).ok a9) : g17 a0 a1 a2 a3 a4 a5 a6 a7 a8 a9 = some (Sp25.validate (a0, a1, a2, a3, a4, a5, a6, a7, a8, a9, ()), ()) := by
  rw [g17_v, spec_dI]
  have r4 := has_i64 r4
  have z : ∀ x : Int, inside x 0 0 = dI x 0 := fun x => by unfold inside dI; by_cases h : x = 0 <;> simp [h] <;> omega
  by_cases k1 : a0 = 1
  · subst k1
    show v17 1 a1 a2 a3 a4 a5 a6 a7 a8 a9 ((1, 1000000, 0, 1000000, 0, 0, 0, 0, 0, 0, ()), true, ()) = _
    unfold v17
    simp only [z]
    cases inside a1 1 99 with
    | false => rfl
    | true =>
    cases inside a2 1 99 with
    | false => rfl
    | true =>
    cases dI a1 a2 with
    | true => rfl
    | false =>
    cases inside a3 1 1000000 with
    | false => rfl
    | true =>
    cases inside a4 0 1000000 with
    | false => rfl
    | true =>
    cases dI a5 0 with
    | false => rfl
    | true =>
    cases dI a6 0 with
    | false => rfl
    | true =>
    cases dI a7 0 with
    | false => rfl
    | true =>
    cases dI a8 0 <;> cases decide (0 < a9.length) <;> rfl
  by_cases k2 : a0 = 2
  · subst k2
    show v17 2 a1 a2 a3 a4 a5 a6 a7 a8 a9 ((1, 1000000, 1, 1000000, 0, IntKind.wrap .i64 (a4 - 1), 0, 0, 1, 99, ()), true, ()) = _
    unfold v17
    simp only [z]
    cases inside a1 1 99 with
    | false => rfl
    | true =>
    cases inside a2 1 99 with
    | false => rfl
    | true =>
    cases dI a1 a2 with
    | true => rfl
    | false =>
    cases inside a3 1 1000000 with
    | false => rfl
    | true =>
    cases h4 : inside a4 1 1000000 with
    | false => rfl
    | true =>
      have h4 := inside_iff.1 h4
      rw [wi64 (n := a4 - 1) (by omega) (by omega)]
      cases inside a5 0 (a4 - 1) with
      | false => rfl
      | true =>
      cases dI a6 0 with
      | false => rfl
      | true =>
      cases inside a7 1 99 <;> rfl
  by_cases k3 : a0 = 3
  · subst k3
    show v17 3 a1 a2 a3 a4 a5 a6 a7 a8 a9 ((0, 1000000, 0, 1000000, 0, 0, 1, 1000000, 0, 0, ()), true, ()) = _
    unfold v17
    simp only [z]
    cases inside a1 1 99 with
    | false => rfl
    | true =>
    cases inside a2 1 99 with
    | false => rfl
    | true =>
    cases dI a1 a2 with
    | true => rfl
    | false =>
    cases inside a3 0 1000000 with
    | false => rfl
    | true =>
    cases inside a4 0 1000000 with
    | false => rfl
    | true =>
    cases dI a5 0 with
    | false => rfl
    | true =>
    cases inside a6 1 1000000 with
    | false => rfl
    | true =>
    cases dI a7 0 with
    | false => rfl
    | true =>
    cases dI a8 0 <;> cases decide (0 < a9.length) <;> rfl
  · have i1 : inside a0 1 3 = false := inside_f (by omega)
    have hf : (forms (a0, a1, a2, a3, a4, a5, a6, a7, a8, a9, ())).2.1 = false := by simp [forms, kd, k1, k2, k3]
    unfold v17
    rw [i1, hf]
    rfl

theorem g18_ok (a0 : Int) (a1 : Int) (a2 : Int) (a3 : Int) (a4 : Int) (a5 : Int) (a6 : Int) (a7 : Int) (a8 : Int) (a9 : (List Int)) (r0 : IntKind.i64.has a0) (r1 : IntKind.i64.has a1) (r2 : IntKind.i64.has a2) (r3 : IntKind.i64.has a3) (r4 : IntKind.i64.has a4) (r5 : IntKind.i64.has a5) (r6 : IntKind.i64.has a6) (r7 : IntKind.i64.has a7) (r8 : IntKind.i64.has a8) (r9 : (Ty.sl (.int .i64)).ok a9) : g18 a0 a1 a2 a3 a4 a5 a6 a7 a8 a9 = some (Sp25.validate (a0, a1, a2, a3, a4, a5, a6, a7, a8, a9, ()), ()) := by
  rw [spec_dI]
  have r4 := has_i64 r4
  unfold g18
  simp only [bifAnd, bifOr', Option.bind_some, gt0]
  by_cases k1 : a0 = 1
  · subst k1
    simp only [decide_true, cond_true, Option.bind_some]
    change (bif !(inside a1 1 99 && (inside a2 1 99 && !dI a1 a2) && (inside a3 1 1000000 && (inside a4 0 1000000 && (dI a5 0 && (dI a6 0 && dI a7 0))))) then some ((2 : Int), ()) else bif !dI a8 0 || decide (0 < a9.length) then some (1, ()) else some (0, ())) = _
    cases inside a1 1 99 with
    | false => rfl
    | true =>
    cases inside a2 1 99 with
    | false => rfl
    | true =>
    cases dI a1 a2 with
    | true => rfl
    | false =>
    cases inside a3 1 1000000 with
    | false => rfl
    | true =>
    cases inside a4 0 1000000 with
    | false => rfl
    | true =>
    cases dI a5 0 with
    | false => rfl
    | true =>
    cases dI a6 0 with
    | false => rfl
    | true =>
    cases dI a7 0 with
    | false => rfl
    | true =>
    cases dI a8 0 <;> cases decide (0 < a9.length) <;> rfl
  by_cases k2 : a0 = 2
  · subst k2
    simp only [decide_true, cond_true, cond_false, Option.bind_some, show decide ((2 : Int) = 1) = false from rfl]
    change (bif !(inside a1 1 99 && (inside a2 1 99 && !dI a1 a2) && (inside a3 1 1000000 && (inside a4 1 1000000 && (inside a5 0 (IntKind.wrap .i64 (a4 - 1)) && (dI a6 0 && inside a7 1 99))))) then some ((2 : Int), ()) else some (validF (a8, a9, ()), ())) = _
    cases inside a1 1 99 with
    | false => rfl
    | true =>
    cases inside a2 1 99 with
    | false => rfl
    | true =>
    cases dI a1 a2 with
    | true => rfl
    | false =>
    cases inside a3 1 1000000 with
    | false => rfl
    | true =>
    cases h4 : inside a4 1 1000000 with
    | false => rfl
    | true =>
      have h4 := inside_iff.1 h4
      rw [wi64 (n := a4 - 1) (by omega) (by omega)]
      cases inside a5 0 (a4 - 1) with
      | false => rfl
      | true =>
      cases dI a6 0 with
      | false => rfl
      | true =>
      cases inside a7 1 99 <;> rfl
  by_cases k3 : a0 = 3
  · subst k3
    simp only [decide_true, cond_true, cond_false, Option.bind_some, show decide ((3 : Int) = 1) = false from rfl, show decide ((3 : Int) = 2) = false from rfl]
    change (bif !(inside a1 1 99 && (inside a2 1 99 && !dI a1 a2) && (inside a3 0 1000000 && (inside a4 0 1000000 && (dI a5 0 && (inside a6 1 1000000 && dI a7 0))))) then some ((2 : Int), ()) else bif !dI a8 0 || decide (0 < a9.length) then some (1, ()) else some (0, ())) = _
    cases inside a1 1 99 with
    | false => rfl
    | true =>
    cases inside a2 1 99 with
    | false => rfl
    | true =>
    cases dI a1 a2 with
    | true => rfl
    | false =>
    cases inside a3 0 1000000 with
    | false => rfl
    | true =>
    cases inside a4 0 1000000 with
    | false => rfl
    | true =>
    cases dI a5 0 with
    | false => rfl
    | true =>
    cases inside a6 1 1000000 with
    | false => rfl
    | true =>
    cases dI a7 0 with
    | false => rfl
    | true =>
    cases dI a8 0 <;> cases decide (0 < a9.length) <;> rfl
  · have i1 : inside a0 1 3 = false := inside_f (by omega)
    simp only [k1, k2, k3, i1, decide_false, cond_false, Bool.not_false, cond_true, Option.bind_some]

/-! Numbers in bytes. -/
theorem num_step {n k : Int} (h0 : 0 ≤ k) (h7 : k ≤ 7) : IntKind.wrap .u8 (Int.fdiv n (Int.pow 2 (min (8 * k).toNat 64))) = n / 2 ^ (8 * k.toNat) % 256 := by
  have e : min (8 * k).toNat 64 = 8 * k.toNat := by omega
  rw [e, pow2, fdiv_pow, wu8m]
theorem numB_succ {n k : Int} (h0 : 0 ≤ k) : numB n (k + 1).toNat = n / 2 ^ (8 * k.toNat) % 256 :: numB n k.toNat := by
  rw [show (k + 1).toNat = k.toNat + 1 by omega, numB]
theorem num_loop (n : Int) (o : List Int) (w : Int) (h1 : -1 ≤ w) (h2 : w ≤ 7) (ho : o.length ≤ 2000000) : Loop (g20_s0 n) (w, o, ()) = some (o ++ numB n (w + 1).toNat, ()) := by
  refine Loop_inv (fun v : Int × List Int × Unit => -1 ≤ v.1 ∧ v.1 ≤ 7 ∧ (v.2.1.length : Int) + v.1 ≤ 2000007) (fun v : Int × List Int × Unit => (v.1 + 1).toNat) (fun v : Int × List Int × Unit => (v.2.1 ++ numB n (v.1 + 1).toNat, ())) ?_ (v := (w, o, ())) ⟨h1, h2, by simp only; omega⟩
  rintro ⟨k, out, ⟨⟩⟩ ⟨k1, k2, k3⟩
  simp only at k1 k2 k3
  unfold g20_s0
  by_cases h : k ≥ 0
  · right
    have e1 : IntKind.wrap .i64 (8 * k) = 8 * k := wi64 (by omega) (by omega)
    have e2 : IntKind.wrap .u64 (8 * k) = 8 * k := wu64 (by omega) (by omega)
    have e3 : IntKind.wrap .i64 (k - 1) = k - 1 := wi64 (by omega) (by omega)
    have c1 : (0 : Int) ≤ 8 * k := by omega
    simp only [h, e1, e2, e3, c1, decide_true, cond_true, num_step h k2]
    rw [ble_t (by omega), cond_true]
    refine ⟨_, rfl, ⟨by simp only; omega, by simp only; omega, by simp; omega⟩, by simp only; omega, ?_⟩
    simp only [show k - 1 + 1 = k by omega, numB_succ h, List.append_assoc, List.cons_append, List.nil_append]
  · left
    have : k = -1 := by omega
    subst this
    simp only [show ¬ ((-1 : Int) ≥ 0) by omega, decide_false, cond_false]
    simp [numB]

theorem g20_ok (a0 : (List Int)) (a1 : Int) (a2 : Int) (r0 : (Ty.sl (.int .u8)).ok a0) (r1 : IntKind.i64.has a1) (r2 : IntKind.i64.has a2) (h : (Sp25.inside a2 0 8 && decide (a0.length ≤ 1000000)) = true) : g20 a0 a1 a2 = some (a0 ++ Sp25.numB a1 a2.toNat, ()) := by
  simp only [Bool.and_eq_true, decide_eq_true_eq] at h
  obtain ⟨h1, h2⟩ := h
  have h1 := inside_iff.1 h1
  unfold g20
  have e1 : IntKind.wrap .i64 (a2 - 1) = a2 - 1 := wi64 (by omega) (by omega)
  rw [e1, num_loop a1 a0 (a2 - 1) (by omega) (by omega) (by omega), show a2 - 1 + 1 = a2 by omega]
  rfl

theorem put_loop0 (l : List Int) (v : List Int × Int × Unit) (o : List Int) (w : Int) (h1 : -1 ≤ w) (h2 : w ≤ 7) (ho : o.length ≤ 2000000) : Loop (g30_s0 l v) (w, o, ()) = some (o ++ numB (l.getD v.2.1.toNat 0) (w + 1).toNat, ()) := by
  refine Loop_inv (fun v : Int × List Int × Unit => -1 ≤ v.1 ∧ v.1 ≤ 7 ∧ (v.2.1.length : Int) + v.1 ≤ 2000007) (fun v : Int × List Int × Unit => (v.1 + 1).toNat) (fun u : Int × List Int × Unit => (u.2.1 ++ numB (l.getD v.2.1.toNat 0) (u.1 + 1).toNat, ())) ?_ (v := (w, o, ())) ⟨h1, h2, by simp only; omega⟩
  rintro ⟨k, out, ⟨⟩⟩ ⟨k1, k2, k3⟩
  simp only at k1 k2 k3
  unfold g30_s0
  by_cases h : k ≥ 0
  · right
    have e1 : IntKind.wrap .i64 (8 * k) = 8 * k := wi64 (by omega) (by omega)
    have e3 : IntKind.wrap .i64 (k - 1) = k - 1 := wi64 (by omega) (by omega)
    have c1 : (0 : Int) ≤ 8 * k := by omega
    simp only [h, e1, e3, c1, decide_true, cond_true, num_step h k2]
    rw [ble_t (by omega), cond_true]
    refine ⟨_, rfl, ⟨by simp only; omega, by simp only; omega, by simp; omega⟩, by simp only; omega, ?_⟩
    simp only [show k - 1 + 1 = k by omega, numB_succ h, List.append_assoc, List.cons_append, List.nil_append]
  · left
    have : k = -1 := by omega
    subst this
    simp only [show ¬ ((-1 : Int) ≥ 0) by omega, decide_false, cond_false]
    simp [numB]
theorem put_loop (w : Int) (l o : List Int) (h1 : 0 ≤ w) (h2 : w ≤ 8) (hl : l.length ≤ 1000) (ho : o.length ≤ 1000000) : Loop (g30_s1 w l) (o, (0 : Int), ()) = some (o ++ put w.toNat l, ()) := by
  have key : Loop (g30_s1 w l) (o, (0 : Int), ()) = some (o ++ put w.toNat (l.drop (0 : Int).toNat), ()) := by
    refine Loop_inv (fun v : List Int × Int × Unit => 0 ≤ v.2.1 ∧ v.2.1 ≤ (l.length : Int) ∧ (v.1.length : Int) ≤ 1000000 + 8 * v.2.1) (fun v : List Int × Int × Unit => ((l.length : Int) - v.2.1).toNat) (fun v : List Int × Int × Unit => (v.1 ++ put w.toNat (l.drop v.2.1.toNat), ())) ?_ (v := (o, 0, ())) ⟨by simp, by simp, by simp only; omega⟩
    rintro ⟨out, i, ⟨⟩⟩ ⟨k1, k2, k3⟩
    simp only at k1 k2 k3
    unfold g30_s1
    by_cases h : i < (l.length : Int)
    · right
      have e1 : IntKind.wrap .i64 (i + 1) = i + 1 := wi64 (by omega) (by omega)
      have e2 : IntKind.wrap .i64 (w - 1) = w - 1 := wi64 (by omega) (by omega)
      simp only [h, k1, e1, e2, Int.ofNat_eq_natCast, decide_true, Bool.and_self, cond_true]
      rw [put_loop0 l (out, i, ()) out (w - 1) (by omega) (by omega) (by omega)]
      simp only [Option.bind_some, show w - 1 + 1 = w by omega]
      refine ⟨_, rfl, ⟨by simp only; omega, by simp only; omega, ?_⟩, by simp only; omega, ?_⟩
      · simp only [List.length_append, numB_len]; omega
      · simp only [show (i + 1).toNat = i.toNat + 1 by omega]
        rw [drop_getD l i.toNat 0 (by omega), put_cons, List.append_assoc]
    · left
      have : l.drop i.toNat = [] := List.drop_eq_nil_of_le (by omega)
      simp only [h, this, put_nil, Int.ofNat_eq_natCast, decide_false, cond_false, List.append_nil]
  simpa using key

theorem g30_ok (a0 : (List Int)) (a1 : Int) (a2 : (List Int)) (r0 : (Ty.sl (.int .u8)).ok a0) (r1 : IntKind.i64.has a1) (r2 : (Ty.sl (.int .i64)).ok a2) (h : (Sp25.inside a1 0 8 && decide (a0.length ≤ 1000000) && decide (a2.length ≤ 1000)) = true) : g30 a0 a1 a2 = some (a0 ++ Sp25.put a1.toNat a2, ()) := by
  simp only [Bool.and_eq_true, decide_eq_true_eq] at h
  obtain ⟨⟨h1, h2⟩, h3⟩ := h
  have h1 := inside_iff.1 h1
  unfold g30
  rw [put_loop a1 a2 a0 h1.1 h1.2 h3 h2]
  rfl

/-! Sums. -/
theorem sumL_take (l : List Int) (i : Nat) (h : i < l.length) : sumL 1 (l.take (i + 1)) = sumL 1 (l.take i) + (i + 1) * l.getD i 0 := by
  rw [take_succ_getD l i 0 h, sumL_app]
  simp only [sumL, Int.add_zero, List.length_take]
  rw [show min i l.length = i by omega, Int.add_comm 1]
theorem prod_bound {i x : Int} (h0 : 0 ≤ i) (h1 : i < 1000000) (hx : byte x) : 0 ≤ (i + 1) * x ∧ (i + 1) * x ≤ 255000000 := by
  have hx1 := hx.1; have hx2 := hx.2
  refine ⟨Int.mul_nonneg (by omega) hx1, ?_⟩
  have := Int.mul_le_mul (show i + 1 ≤ 1000000 by omega) (show x ≤ 255 by omega) hx1 (by omega)
  omega

theorem g27_ok (a0 : (List Int)) (r0 : (Ty.sl (.int .u8)).ok a0) (h : (decide (a0.length ≤ 1000000)) = true) : g27 a0 = some (Sp25.sum a0, ()) := by
  simp only [decide_eq_true_eq] at h
  obtain ⟨_, hb⟩ := u8s r0
  have key : Loop (g27_s0 a0) ((0 : Int), (0 : Int), ()) = some (sumL 1 a0, ()) ∧ 0 ≤ sumL 1 a0 := by
    have : ∃ e, Loop (g27_s0 a0) ((0 : Int), (0 : Int), ()) = some e ∧ (e = (sumL 1 a0, ()) ∧ 0 ≤ sumL 1 a0) := by
      refine Loop_post (fun v : Int × Int × Unit => 0 ≤ v.2.1 ∧ v.2.1 ≤ (a0.length : Int) ∧ v.1 = sumL 1 (a0.take v.2.1.toNat) ∧ 0 ≤ v.1 ∧ v.1 ≤ 255000000 * v.2.1) (fun v : Int × Int × Unit => ((a0.length : Int) - v.2.1).toNat) _ ?_ (v := (0, 0, ())) ⟨by simp, by simp, by simp [sumL], by simp, by simp⟩
      rintro ⟨acc, i, ⟨⟩⟩ ⟨k1, k2, k3, k4, k5⟩
      simp only at k1 k2 k3 k4 k5
      unfold g27_s0
      by_cases hi : i < (a0.length : Int)
      · right
        have hx := getD_bytes hb i.toNat
        have hp := prod_bound k1 (by omega) hx
        have e1 : IntKind.wrap .i64 (i + 1) = i + 1 := wi64 (by omega) (by omega)
        have e2 : IntKind.wrap .i64 (a0.getD i.toNat 0) = a0.getD i.toNat 0 := wi64 (by have := hx.1; omega) (by have := hx.2; omega)
        have e3 : IntKind.wrap .i64 ((i + 1) * a0.getD i.toNat 0) = (i + 1) * a0.getD i.toNat 0 := wi64 (by omega) (by omega)
        have e4 : IntKind.wrap .i64 (acc + (i + 1) * a0.getD i.toNat 0) = acc + (i + 1) * a0.getD i.toNat 0 := wi64 (by omega) (by omega)
        simp only [hi, k1, e1, e2, e3, e4, Int.ofNat_eq_natCast, decide_true, Bool.and_self, cond_true]
        refine ⟨_, rfl, ⟨by simp only; omega, by simp only; omega, ?_, by simp only; omega, by simp only; omega⟩, by simp only; omega⟩
        simp only [show (i + 1).toNat = i.toNat + 1 by omega]
        rw [sumL_take a0 i.toNat (by omega), ← k3, Int.toNat_of_nonneg k1]
      · left
        refine ⟨(acc, ()), by simp only [hi, Int.ofNat_eq_natCast, decide_false, cond_false], ?_⟩
        have : a0.take i.toNat = a0 := List.take_of_length_le (by omega)
        rw [this] at k3
        rw [← k3]
        exact ⟨rfl, k4⟩
    obtain ⟨e, h1, rfl, h2⟩ := this
    exact ⟨h1, h2⟩
  unfold g27 Sp25.sum
  rw [key.1]
  simp only [Option.bind_some, tmod_nn key.2]

theorem g21_ok (a0 : (List Int)) (r0 : (Ty.sl (.int .u8)).ok a0) (h : (decide (a0.length ≤ 1000000)) = true) : g21 a0 = some (Sp25.sum a0, ()) := by
  simp only [decide_eq_true_eq] at h
  obtain ⟨_, hb⟩ := u8s r0
  have key : Loop (g21_s0 a0) ((0 : Int), (0 : Int), ()) = some (sumL 1 (a0.take a0.length) % 65521, ()) := by
    refine Loop_inv (fun v : Int × Int × Unit => 0 ≤ v.2.1 ∧ v.2.1 ≤ (a0.length : Int) ∧ v.1 = sumL 1 (a0.take v.2.1.toNat) % 65521) (fun v : Int × Int × Unit => ((a0.length : Int) - v.2.1).toNat) (fun _ => (sumL 1 (a0.take a0.length) % 65521, ())) ?_ (v := (0, 0, ())) ⟨by simp, by simp, by simp [sumL]⟩
    rintro ⟨acc, i, ⟨⟩⟩ ⟨k1, k2, k3⟩
    simp only at k1 k2 k3
    unfold g21_s0
    by_cases hi : i < (a0.length : Int)
    · right
      have hx := getD_bytes hb i.toNat
      have hp := prod_bound k1 (by omega) hx
      have e1 : IntKind.wrap .i64 (i + 1) = i + 1 := wi64 (by omega) (by omega)
      have e2 : IntKind.wrap .i64 (a0.getD i.toNat 0) = a0.getD i.toNat 0 := wi64 (by have := hx.1; omega) (by have := hx.2; omega)
      have e3 : IntKind.wrap .i64 ((i + 1) * a0.getD i.toNat 0) = (i + 1) * a0.getD i.toNat 0 := wi64 (by omega) (by omega)
      have e4 : IntKind.wrap .i64 (acc + (i + 1) * a0.getD i.toNat 0) = acc + (i + 1) * a0.getD i.toNat 0 := wi64 (by omega) (by omega)
      simp only [hi, k1, e1, e2, e3, e4, Int.ofNat_eq_natCast, decide_true, Bool.and_self, cond_true, tmod_nn (show 0 ≤ acc + (i + 1) * a0.getD i.toNat 0 by omega)]
      refine ⟨_, rfl, ⟨by simp only; omega, by simp only; omega, ?_⟩, by simp only; omega, trivial⟩
      simp only [show (i + 1).toNat = i.toNat + 1 by omega]
      rw [sumL_take a0 i.toNat (by omega), k3, Int.toNat_of_nonneg k1, Int.emod_add_emod]
    · left
      have hh : i.toNat = a0.length := by omega
      simp only [hi, Int.ofNat_eq_natCast, decide_false, cond_false, k3, hh]
  unfold g21 Sp25.sum
  rw [key, List.take_length]
  rfl

/-! Numbers of bytes. -/
theorem val_take (l : List Int) (i : Nat) (h : i < l.length) : val (l.take (i + 1)) = val (l.take i) * 256 + l.getD i 0 := by
  rw [take_succ_getD l i 0 h]
  simp only [val, List.foldl_append, List.foldl_cons, List.foldl_nil]
theorem val_bound {l : List Int} (h : Sp25.bytes l) : ∀ i, i ≤ l.length → 0 ≤ val (l.take i) ∧ val (l.take i) < 256 ^ i := by
  intro i
  induction i with
  | zero => intro _; simp [val]
  | succ i ih =>
    intro hi
    have hx := getD_bytes h i
    have k := ih (by omega)
    have hx1 := hx.1; have hx2 := hx.2
    rw [val_take l i (by omega), Int.pow_succ]
    omega
theorem pow_le6 {i : Nat} (h : i ≤ 5) : (256 : Int) ^ i ≤ 1099511627776 := by
  rcases (by omega : i = 0 ∨ i = 1 ∨ i = 2 ∨ i = 3 ∨ i = 4 ∨ i = 5) with h | h | h | h | h | h <;> subst h <;> decide

theorem g26_ok (a0 : (List Int)) (r0 : (Ty.sl (.int .u8)).ok a0) (h : (decide (a0.length ≤ 6)) = true) : g26 a0 = some (Sp25.val a0, ()) := by
  simp only [decide_eq_true_eq] at h
  obtain ⟨_, hb⟩ := u8s r0
  have key : Loop (g26_s0 a0) ((0 : Int), (0 : Int), ()) = some (val (a0.take a0.length), ()) := by
    refine Loop_inv (fun v : Int × Int × Unit => 0 ≤ v.2.1 ∧ v.2.1 ≤ (a0.length : Int) ∧ v.1 = val (a0.take v.2.1.toNat)) (fun v : Int × Int × Unit => ((a0.length : Int) - v.2.1).toNat) (fun _ => (val (a0.take a0.length), ())) ?_ (v := (0, 0, ())) ⟨by simp, by simp, by simp [val]⟩
    rintro ⟨acc, i, ⟨⟩⟩ ⟨k1, k2, k3⟩
    simp only at k1 k2 k3
    unfold g26_s0
    by_cases hi : i < (a0.length : Int)
    · right
      have hx := getD_bytes hb i.toNat
      have hx1 := hx.1; have hx2 := hx.2
      have hv := val_bound hb i.toNat (by omega)
      rw [← k3] at hv
      have hp := pow_le6 (i := i.toNat) (by omega)
      have e1 : IntKind.wrap .i64 (i + 1) = i + 1 := wi64 (by omega) (by omega)
      have e2 : IntKind.wrap .i64 (a0.getD i.toNat 0) = a0.getD i.toNat 0 := wi64 (by omega) (by omega)
      have e3 : IntKind.wrap .i64 (acc * 256) = acc * 256 := wi64 (by omega) (by omega)
      have e4 : (BitVec.or (BitVec.ofInt 64 (acc * 256)) (BitVec.ofInt 64 (a0.getD i.toNat 0))).toNat = (acc * 256 + a0.getD i.toNat 0).toNat := by
        rw [bvor (by omega) (by omega) (by omega) (by omega)]
        rw [show (acc * 256).toNat = 2 ^ 8 * acc.toNat by omega, ← Nat.two_pow_add_eq_or_of_lt (by omega)]
        omega
      have e5 : (Int.ofNat (acc * 256 + a0.getD i.toNat 0).toNat) = acc * 256 + a0.getD i.toNat 0 := Int.toNat_of_nonneg (by omega)
      have e6 : IntKind.wrap .i64 (acc * 256 + a0.getD i.toNat 0) = acc * 256 + a0.getD i.toNat 0 := wi64 (by omega) (by omega)
      simp only [hi, k1, e1, e2, e3, e4, e5, e6, Int.ofNat_eq_natCast, decide_true, Bool.and_self, cond_true]
      refine ⟨_, rfl, ⟨by simp only; omega, by simp only; omega, ?_⟩, by simp only; omega, trivial⟩
      simp only [show (i + 1).toNat = i.toNat + 1 by omega]
      rw [val_take a0 i.toNat (by omega), ← k3]
    · left
      have hh : i.toNat = a0.length := by omega
      simp only [hi, Int.ofNat_eq_natCast, decide_false, cond_false, k3, hh]
  unfold g26
  rw [key, List.take_length]
  rfl

theorem g28_ok (a0 : (List Int)) (r0 : (Ty.sl (.int .u8)).ok a0) (h : (decide (a0.length ≤ 6)) = true) : g28 a0 = some (Sp25.val a0, ()) := by
  simp only [decide_eq_true_eq] at h
  obtain ⟨_, hb⟩ := u8s r0
  have key : Loop (g28_s0 a0) ((0 : Int), (0 : Int), ()) = some (val (a0.take a0.length), ()) := by
    refine Loop_inv (fun v : Int × Int × Unit => 0 ≤ v.2.1 ∧ v.2.1 ≤ (a0.length : Int) ∧ v.1 = val (a0.take v.2.1.toNat)) (fun v : Int × Int × Unit => ((a0.length : Int) - v.2.1).toNat) (fun _ => (val (a0.take a0.length), ())) ?_ (v := (0, 0, ())) ⟨by simp, by simp, by simp [val]⟩
    rintro ⟨acc, i, ⟨⟩⟩ ⟨k1, k2, k3⟩
    simp only at k1 k2 k3
    unfold g28_s0
    by_cases hi : i < (a0.length : Int)
    · right
      have hx := getD_bytes hb i.toNat
      have hx1 := hx.1; have hx2 := hx.2
      have hv := val_bound hb i.toNat (by omega)
      rw [← k3] at hv
      have hp := pow_le6 (i := i.toNat) (by omega)
      have e1 : IntKind.wrap .i64 (i + 1) = i + 1 := wi64 (by omega) (by omega)
      have e2 : IntKind.wrap .i64 (a0.getD i.toNat 0) = a0.getD i.toNat 0 := wi64 (by omega) (by omega)
      have e3 : IntKind.wrap .i64 (acc * 256) = acc * 256 := wi64 (by omega) (by omega)
      have e6 : IntKind.wrap .i64 (acc * 256 + a0.getD i.toNat 0) = acc * 256 + a0.getD i.toNat 0 := wi64 (by omega) (by omega)
      simp only [hi, k1, e1, e2, e3, e6, Int.ofNat_eq_natCast, decide_true, Bool.and_self, cond_true]
      refine ⟨_, rfl, ⟨by simp only; omega, by simp only; omega, ?_⟩, by simp only; omega, trivial⟩
      simp only [show (i + 1).toNat = i.toNat + 1 by omega]
      rw [val_take a0 i.toNat (by omega), ← k3]
    · left
      have hh : i.toNat = a0.length := by omega
      simp only [hi, Int.ofNat_eq_natCast, decide_false, cond_false, k3, hh]
  unfold g28
  rw [key, List.take_length]
  rfl
end Go.Abs.C25
