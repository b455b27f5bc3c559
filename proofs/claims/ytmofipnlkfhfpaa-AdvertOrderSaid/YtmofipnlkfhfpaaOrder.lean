/- Proved is the statement of the law AdvertOrder: for every input the law returns true, and each argument reads as it did. -/
import Derived.Test.YtmofipnlkfhfpaaRunQ
set_option linter.unusedVariables false
set_option linter.unusedSimpArgs false
/- Chapter 07: the law on the order of adverts. -/
namespace Go.Abs.C07
open Go Go.Proofs Sp07
set_option maxRecDepth 100000

/-! The order of rows of bytes. -/
theorem lt_irrefl : ∀ x : List Int, Go.Abs.ltBytes x x = false
  | [] => rfl
  | a :: x => by simp [Go.Abs.ltBytes, lt_irrefl x]
theorem lt_total : ∀ x y : List Int, Go.Abs.ltBytes x y = false → Go.Abs.ltBytes y x = false → x = y
  | [], [], _, _ => rfl
  | [], _ :: _, h, _ => by simp [Go.Abs.ltBytes] at h
  | _ :: _, [], _, h => by simp [Go.Abs.ltBytes] at h
  | a :: x, b :: y, h, k => by
    simp only [Go.Abs.ltBytes, Bool.or_eq_false_iff, Bool.and_eq_false_iff, decide_eq_false_iff_not, beq_eq_false_iff_ne] at h k
    have hab : a = b := by omega
    subst hab
    have h2 : Go.Abs.ltBytes x y = false := by rcases h.2 with h | h; exact absurd rfl h; exact h
    have k2 : Go.Abs.ltBytes y x = false := by rcases k.2 with h | h; exact absurd rfl h; exact h
    rw [lt_total x y h2 k2]
theorem lt_asymm : ∀ x y : List Int, Go.Abs.ltBytes x y = true → Go.Abs.ltBytes y x = false
  | [], [], h => by simp [Go.Abs.ltBytes] at h
  | [], _ :: _, _ => rfl
  | _ :: _, [], h => by simp [Go.Abs.ltBytes] at h
  | a :: x, b :: y, h => by
    simp only [Go.Abs.ltBytes, Bool.or_eq_true, Bool.and_eq_true, decide_eq_true_eq, beq_iff_eq] at h
    simp only [Go.Abs.ltBytes, Bool.or_eq_false_iff, Bool.and_eq_false_iff, decide_eq_false_iff_not, beq_eq_false_iff_ne]
    rcases h with h | ⟨h1, h2⟩
    · exact ⟨by omega, .inl (by omega)⟩
    · exact ⟨by omega, .inr (lt_asymm x y h2)⟩
theorem lt_trans : ∀ x y z : List Int, Go.Abs.ltBytes x y = true → Go.Abs.ltBytes y z = true → Go.Abs.ltBytes x z = true
  | _, [], _, h, _ => by simp [Go.Abs.ltBytes] at h
  | _, _ :: _, [], _, h => by simp [Go.Abs.ltBytes] at h
  | [], _ :: _, _ :: _, _, _ => rfl
  | a :: x, b :: y, c :: z, h, k => by
    simp only [Go.Abs.ltBytes, Bool.or_eq_true, Bool.and_eq_true, decide_eq_true_eq, beq_iff_eq] at h k ⊢
    rcases h with h | ⟨h1, h2⟩
    · rcases k with k | ⟨k1, k2⟩
      · exact .inl (by omega)
      · exact .inl (by omega)
    · rcases k with k | ⟨k1, k2⟩
      · exact .inl (by omega)
      · exact .inr ⟨by omega, lt_trans x y z h2 k2⟩
theorem gt_lt (x y : List Int) : gtB x y = Go.Abs.ltBytes y x := by
  unfold gtB
  cases h : Go.Abs.ltBytes x y with
  | true => rw [lt_asymm x y h]; rfl
  | false =>
    by_cases e : x = y
    · subst e; rw [lt_irrefl]; simp
    · have h2 : (x == y) = false := by simpa using e
      rw [h2]
      cases k : Go.Abs.ltBytes y x with
      | true => rfl
      | false => exact absurd (lt_total x y h k) e

theorem enc_inj {a b : Ad} (ha : validA a = true) (hb : validA b = true) (h : (Sp07.encode a).1 = (Sp07.encode b).1) : a = b := by
  have h1 := dec_enc ha
  have h2 := dec_enc hb
  rw [h, h2] at h1
  exact ((Prod.mk.inj h1).1).symm
/-- An advert of the router 3 that is valid. -/
def Of3 (a : Ad) : Prop := validA a = true ∧ a.1 = 3
theorem newer3 {a b : Ad} (ha : Of3 a) (hb : Of3 b) : newer a b = (decide (b.2.1 < a.2.1) || (decide (a.2.1 = b.2.1) && Go.Abs.ltBytes (Sp07.encode b).1 (Sp07.encode a).1)) := by
  unfold newer
  rw [ha.1, hb.1, ha.2, hb.2, gt_lt]
  rfl
theorem newer_self {a : Ad} (ha : Of3 a) : newer a a = false := by
  rw [newer3 ha ha, lt_irrefl]
  simp
theorem newer_one {a b : Ad} (ha : Of3 a) (hb : Of3 b) (h : a ≠ b) : decide (newer a b = newer b a) = false := by
  rw [newer3 ha hb, newer3 hb ha]
  have hne : (Sp07.encode a).1 ≠ (Sp07.encode b).1 := fun k => h (enc_inj ha.1 hb.1 k)
  by_cases h1 : a.2.1 = b.2.1
  · cases k1 : Go.Abs.ltBytes (Sp07.encode b).1 (Sp07.encode a).1 with
    | true =>
      rw [lt_asymm _ _ k1]
      simp [h1]
    | false =>
      cases k2 : Go.Abs.ltBytes (Sp07.encode a).1 (Sp07.encode b).1 with
      | true => simp [h1]
      | false => exact absurd (lt_total _ _ k2 k1) hne
  · by_cases h2 : b.2.1 < a.2.1
    · have h3 : ¬ a.2.1 < b.2.1 := by omega
      have h4 : ¬ b.2.1 = a.2.1 := by omega
      simp [h1, h2, h3, h4]
    · have h3 : a.2.1 < b.2.1 := by omega
      have h4 : ¬ b.2.1 = a.2.1 := by omega
      simp [h1, h2, h3]
theorem newer_trans {a b c : Ad} (ha : Of3 a) (hb : Of3 b) (hc : Of3 c) (h : newer a b = true) (k : newer b c = true) : newer a c = true := by
  rw [newer3 ha hb] at h
  rw [newer3 hb hc] at k
  rw [newer3 ha hc]
  simp only [Bool.or_eq_true, Bool.and_eq_true, decide_eq_true_eq] at h k ⊢
  rcases h with h | ⟨h1, h2⟩
  · rcases k with k | ⟨k1, k2⟩
    · exact .inl (by omega)
    · exact .inl (by omega)
  · rcases k with k | ⟨k1, k2⟩
    · exact .inl (by omega)
    · exact .inr ⟨by omega, lt_trans _ _ _ k2 h2⟩

/-! Adverts of a tape are valid. -/
theorem getD_snoc {l : List Rc} {x : Rc} {i : Nat} (h : i < l.length) : (l ++ [x]).getD i zr = l.getD i zr := by rw [getD_append, if_pos h]
theorem getD_last {l : List Rc} {x : Rc} : (l ++ [x]).getD l.length zr = x := by rw [getD_append, if_neg (by omega)]; simp
theorem badL_snoc {r : Int} {l : List Rc} {x : Rc} {k : Int} (h : ∀ i, i < l.length → badL r l i = false ∧ (l.getD i zr).1 ≤ k) (h1 : x.1 = k + 1) (h2 : 1 ≤ x.1 ∧ x.1 ≤ 99) (h3 : x.1 ≠ r) (h4 : 1 ≤ x.2.1 ∧ x.2.1 ≤ 1000) (h5 : 0 ≤ x.2.2.1 ∧ x.2.2.1 ≤ 1000) :
    ∀ i, i < (l ++ [x]).length → badL r (l ++ [x]) i = false ∧ ((l ++ [x]).getD i zr).1 ≤ k + 1 := by
  intro i hi
  simp only [List.length_append, List.length_singleton] at hi
  by_cases hlt : i < l.length
  · obtain ⟨g1, g2⟩ := h i hlt
    rw [getD_snoc hlt]
    refine ⟨?_, by omega⟩
    unfold badL at g1 ⊢
    rw [getD_snoc hlt, getD_snoc (by omega)]
    exact g1
  · have : i = l.length := by omega
    subst this
    rw [getD_last]
    refine ⟨?_, by omega⟩
    unfold badL
    rw [getD_last]
    have e1 : inside x.1 1 99 = true := inside_iff.2 h2
    have e2 : inside x.2.1 1 1000 = true := inside_iff.2 h4
    have e3 : inside x.2.2.1 0 1000 = true := inside_iff.2 h5
    have e4 : (decide (0 < l.length) && decide (x.1 ≤ ((l ++ [x]).getD (l.length - 1) zr).1)) = false := by
      by_cases h0 : 0 < l.length
      · rw [getD_snoc (by omega)]
        have := (h (l.length - 1) (by omega)).2
        have : ¬ x.1 ≤ (l.getD (l.length - 1) zr).1 := by omega
        rw [decide_eq_false this, Bool.and_false]
      · simp [h0]
    rw [e1, e2, e3, e4]
    simp [h3]
theorem badC_snoc {l : List Rc} {x : Rc} {k : Int} (h : ∀ i, i < l.length → badC l i = false ∧ (l.getD i zr).1 < k) (h1 : x.1 = k) (h2 : 0 ≤ x.1 ∧ x.1 ≤ 7) (h4 : 1 ≤ x.2.1 ∧ x.2.1 ≤ 256) (h5 : vlen x.2.2.1 = true) :
    ∀ i, i < (l ++ [x]).length → badC (l ++ [x]) i = false ∧ ((l ++ [x]).getD i zr).1 < k + 1 := by
  intro i hi
  simp only [List.length_append, List.length_singleton] at hi
  by_cases hlt : i < l.length
  · obtain ⟨g1, g2⟩ := h i hlt
    rw [getD_snoc hlt]
    refine ⟨?_, by omega⟩
    unfold badC at g1 ⊢
    rw [getD_snoc hlt, getD_snoc (by omega)]
    exact g1
  · have : i = l.length := by omega
    subst this
    rw [getD_last]
    refine ⟨?_, by omega⟩
    unfold badC
    rw [getD_last]
    have e1 : inside x.1 0 7 = true := inside_iff.2 h2
    have e2 : inside x.2.1 1 256 = true := inside_iff.2 h4
    have e4 : (decide (0 < l.length) && decide (x.1 ≤ ((l ++ [x]).getD (l.length - 1) zr).1)) = false := by
      by_cases h0 : 0 < l.length
      · rw [getD_snoc (by omega)]
        have := (h (l.length - 1) (by omega)).2
        have : ¬ x.1 ≤ (l.getD (l.length - 1) zr).1 := by omega
        rw [decide_eq_false this, Bool.and_false]
      · simp [h0]
    rw [e1, e2, h5, e4]
    rfl
theorem links_good (r : Int) (t : Tp) : ∀ k : Nat, k ≤ 98 → ∀ i, i < (linksN r t k).1.length → badL r (linksN r t k).1 i = false ∧ ((linksN r t k).1.getD i zr).1 ≤ (k : Int)
  | 0, _, i, hi => by simp [linksN] at hi
  | k + 1, hk, i, hi => by
    have ih := links_good r t k (by omega)
    have weak : ∀ i, i < (linksN r t k).1.length → badL r (linksN r t k).1 i = false ∧ ((linksN r t k).1.getD i zr).1 ≤ ((k + 1 : Nat) : Int) := fun i hi => ⟨(ih i hi).1, by have := (ih i hi).2; omega⟩
    revert hi
    rw [linksN]
    unfold linkS
    by_cases h1 : ((k : Int) + 1) = r
    · rw [decide_eq_true h1]
      exact weak i
    · rw [decide_eq_false h1]
      by_cases h2 : (next (linksN r t k).2 2).1 = 0
      · rw [decide_eq_true h2]
        have g1 := range_in (t := (next (linksN r t k).2 2).2) (a := 1) (b := 3) (by decide)
        have g2 := next_range (t := (range (next (linksN r t k).2 2).2 1 3).2) (n := 3) (by decide)
        have := badL_snoc (r := r) (x := ((k : Int) + 1, (range (next (linksN r t k).2 2).2 1 3).1, (next (range (next (linksN r t k).2 2).2 1 3).2 3).1, ())) ih rfl (by simp only; omega) h1 (by simp only; omega) (by simp only; omega) i
        exact this
      · rw [decide_eq_false h2]
        exact weak i
theorem length_vlen (t : Tp) : vlen (Sp07.length t).1 = true := by
  have h := next_range (t := t) (n := 5) (by decide)
  have e : (Sp07.length t).1 = ([8, 8, 16, 32, 64] : List Int).getD (next t 5).1.toNat 0 := rfl
  have k : (next t 5).1.toNat = 0 ∨ (next t 5).1.toNat = 1 ∨ (next t 5).1.toNat = 2 ∨ (next t 5).1.toNat = 3 ∨ (next t 5).1.toNat = 4 := by omega
  rw [e]
  rcases k with k | k | k | k | k <;> rw [k] <;> rfl
theorem claims_good (t : Tp) : ∀ k : Nat, k ≤ 7 → ∀ i, i < (claimsN t k).1.length → badC (claimsN t k).1 i = false ∧ ((claimsN t k).1.getD i zr).1 < (k : Int)
  | 0, _, i, hi => by simp [claimsN] at hi
  | k + 1, hk, i, hi => by
    have ih := claims_good t k (by omega)
    have weak : ∀ i, i < (claimsN t k).1.length → badC (claimsN t k).1 i = false ∧ ((claimsN t k).1.getD i zr).1 < ((k + 1 : Nat) : Int) := fun i hi => ⟨(ih i hi).1, by have := (ih i hi).2; omega⟩
    revert hi
    rw [claimsN]
    unfold claimS
    by_cases h2 : (next (claimsN t k).2 2).1 = 0
    · rw [decide_eq_true h2]
      have g1 := range_in (t := (next (claimsN t k).2 2).2) (a := 1) (b := 9) (by decide)
      have := badC_snoc (x := ((k : Int), (range (next (claimsN t k).2 2).2 1 9).1, (Sp07.length (range (next (claimsN t k).2 2).2 1 9).2).1, ())) ih rfl (by simp only; omega) (by simp only; omega) (length_vlen _) i
      exact this
    · rw [decide_eq_false h2]
      exact weak i
theorem advert_of3 {t : Tp} (h : wf t = true) : Of3 (Sp07.advert t 3 0).1 := by
  refine ⟨?_, rfl⟩
  have w1 : wf (Sp07.pick t [1, 1, 2, 3, 3, 500000, 1000000]).2 = true := pick_wf h
  have w2 := next_wf (n := 3) w1
  have w3 := links_wf (r := 3) w2 6
  have w4 := claims_wf w3.1 2
  have g1 := links_good 3 (next (Sp07.pick t [1, 1, 2, 3, 3, 500000, 1000000]).2 3).2 6 (by decide)
  have g2 := claims_good (linksN 3 (next (Sp07.pick t [1, 1, 2, 3, 3, 500000, 1000000]).2 3).2 6).2 2 (by decide)
  have hq : 1 ≤ (Sp07.pick t [1, 1, 2, 3, 3, 500000, 1000000]).1 ∧ (Sp07.pick t [1, 1, 2, 3, 3, 500000, 1000000]).1 ≤ 1000000 := by
    have h := next_range (t := t) (n := 7) (by decide)
    have e : (Sp07.pick t [1, 1, 2, 3, 3, 500000, 1000000]).1 = ([1, 1, 2, 3, 3, 500000, 1000000] : List Int).getD (next t 7).1.toNat 0 := rfl
    have k : (next t 7).1.toNat = 0 ∨ (next t 7).1.toNat = 1 ∨ (next t 7).1.toNat = 2 ∨ (next t 7).1.toNat = 3 ∨ (next t 7).1.toNat = 4 ∨ (next t 7).1.toNat = 5 ∨ (next t 7).1.toNat = 6 := by omega
    rw [e]
    rcases k with k | k | k | k | k | k | k <;> rw [k] <;> decide
  refine validA_iff.2 ⟨by show (1 : Int) ≤ 3 ∧ (3 : Int) ≤ 99; decide, hq, ?_, fun i hi => (g1 i hi).1, ?_, fun i hi => (g2 i hi).1⟩
  · exact Nat.le_trans w3.2 (by decide)
  · exact Nat.le_trans w4.2 (by decide)

/-! The law's loops. -/
theorem step7_1 {l : List Ad} (hl : l.length = 4) {i k j : Int} (hi : 0 ≤ i ∧ i < 4) (hk : 0 ≤ k ∧ k < 4) (hj : 0 ≤ j ∧ j < 4)
    (h : newer (l.getD i.toNat za) (l.getD k.toNat za) = true → newer (l.getD k.toNat za) (l.getD j.toNat za) = true → newer (l.getD i.toNat za) (l.getD j.toNat za) = true) :
    g7_s1 (l, ()) (i, ()) (k, ()) (j, ()) = some (.inl (j + 1, ())) := by
  have e : IntKind.wrap .i64 (j + 1) = j + 1 := wi64 (by omega) (by omega)
  have b1 : Nat.blt i.toNat l.length = true := blt_t (by omega)
  have b2 : Nat.blt k.toNat l.length = true := blt_t (by omega)
  have b3 : Nat.blt j.toNat l.length = true := blt_t (by omega)
  unfold g7_s1
  unfold za at h
  simp only [hi.1, hi.2, hk.1, hk.2, hj.1, hj.2, b1, b2, b3, e, decide_true, cond_true, Bool.and_self]
  cases h1 : newer (l.getD i.toNat (0, 0, false, [], [], ())) (l.getD k.toNat (0, 0, false, [], [], ())) with
  | false => rfl
  | true =>
    cases h2 : newer (l.getD k.toNat (0, 0, false, [], [], ())) (l.getD j.toNat (0, 0, false, [], [], ())) with
    | false => rfl
    | true => rw [h h1 h2]; rfl
def All3 (l : List Ad) : Prop := ∀ i, i < 4 → Of3 (l.getD i za)
theorem loop7_1 {l : List Ad} (hl : l.length = 4) (ha : All3 l) {i k : Int} (hi : 0 ≤ i ∧ i < 4) (hk : 0 ≤ k ∧ k < 4) : Loop (g7_s1 (l, ()) (i, ()) (k, ())) ((0 : Int), ()) = some (false, (false, ()), ()) := by
  refine Loop_inv (fun v : Int × Unit => 0 ≤ v.1 ∧ v.1 ≤ 4) (fun v => (4 - v.1).toNat) (fun _ => (false, (false, ()), ())) ?_ (v := ((0 : Int), ())) ⟨by simp, by simp⟩
  rintro ⟨j, ⟨⟩⟩ ⟨h1, h2⟩
  simp only at h1 h2
  by_cases h4 : j < 4
  · right
    exact ⟨(j + 1, ()), step7_1 hl hi hk ⟨h1, h4⟩ (newer_trans (ha _ (by omega)) (ha _ (by omega)) (ha _ (by omega))), ⟨by simp only; omega, by simp only; omega⟩, by simp only; omega, rfl⟩
  · left
    unfold g7_s1
    simp only [h4, decide_false, cond_false]
theorem loop7_2 {l : List Ad} (hl : l.length = 4) (ha : All3 l) {i : Int} (hi : 0 ≤ i ∧ i < 4) : Loop (g7_s2 (l, ()) (i, ())) ((0 : Int), ()) = some (false, (false, ()), ()) := by
  refine Loop_inv (fun v : Int × Unit => 0 ≤ v.1 ∧ v.1 ≤ 4) (fun v => (4 - v.1).toNat) (fun _ => (false, (false, ()), ())) ?_ (v := ((0 : Int), ())) ⟨by simp, by simp⟩
  rintro ⟨k, ⟨⟩⟩ ⟨h1, h2⟩
  simp only at h1 h2
  by_cases h4 : k < 4
  · right
    refine ⟨(k + 1, ()), ?_, ⟨by simp only; omega, by simp only; omega⟩, by simp only; omega, rfl⟩
    have e : IntKind.wrap .i64 (k + 1) = k + 1 := wi64 (by omega) (by omega)
    have b1 : Nat.blt i.toNat l.length = true := blt_t (by omega)
    have b2 : Nat.blt k.toNat l.length = true := blt_t (by omega)
    unfold g7_s2
    rw [loop7_1 hl ha hi ⟨h1, h4⟩]
    simp only [hi.1, hi.2, h1, h4, b1, b2, e, decide_true, cond_true, cond_false, Bool.and_self, Option.bind_some]
    have x1 := ha i.toNat (by omega)
    have x2 := ha k.toNat (by omega)
    unfold za at x1 x2
    generalize l.getD i.toNat (0, 0, false, [], [], ()) = x at x1
    generalize l.getD k.toNat (0, 0, false, [], [], ()) = y at x2
    cases hs : sameA x y with
    | true =>
      have := sameA_iff.1 hs
      subst this
      rw [newer_self x1]
      rfl
    | false =>
      have hne : x ≠ y := fun h => by subst h; rw [sameA_self] at hs; cases hs
      rw [newer_one x1 x2 hne]
      rfl
  · left
    unfold g7_s2
    simp only [h4, decide_false, cond_false]
theorem loop7_3 {l : List Ad} (hl : l.length = 4) (ha : All3 l) : Loop (g7_s3 (l, ())) ((0 : Int), ()) = some (false, (false, ()), ()) := by
  refine Loop_inv (fun v : Int × Unit => 0 ≤ v.1 ∧ v.1 ≤ 4) (fun v => (4 - v.1).toNat) (fun _ => (false, (false, ()), ())) ?_ (v := ((0 : Int), ())) ⟨by simp, by simp⟩
  rintro ⟨k, ⟨⟩⟩ ⟨h1, h2⟩
  simp only at h1 h2
  by_cases h4 : k < 4
  · right
    refine ⟨(k + 1, ()), ?_, ⟨by simp only; omega, by simp only; omega⟩, by simp only; omega, rfl⟩
    have e : IntKind.wrap .i64 (k + 1) = k + 1 := wi64 (by omega) (by omega)
    unfold g7_s3
    rw [loop7_2 hl ha ⟨h1, h4⟩]
    simp only [h4, e, decide_true, cond_true, cond_false, Option.bind_some]
  · left
    unfold g7_s3
    simp only [h4, decide_false, cond_false]
theorem loop7_0 {t : Tp} (h : wf t = true) (l : List Ad) (hl : l.length = 4) : ∃ e, Loop g7_s0 ((0 : Int), l, t, ()) = some e ∧ (e.1.length = 4 ∧ All3 e.1) := by
  refine Loop_post (fun v : Int × List Ad × Tp × Unit => (0 ≤ v.1 ∧ v.1 ≤ 4) ∧ v.2.1.length = 4 ∧ wf v.2.2.1 = true ∧ ∀ i : Nat, (i : Int) < v.1 → Of3 (v.2.1.getD i za)) (fun v => (4 - v.1).toNat) _ ?_ (v := ((0 : Int), l, t, ())) ⟨by simp, hl, h, fun i hi => by simp only at hi; omega⟩
  rintro ⟨k, l', t', ⟨⟩⟩ ⟨⟨h1, h2⟩, h3, h4, h5⟩
  simp only at h1 h2 h3 h4 h5
  by_cases h6 : k < 4
  · right
    have e : IntKind.wrap .i64 (k + 1) = k + 1 := wi64 (by omega) (by omega)
    have b1 : Nat.blt k.toNat l'.length = true := blt_t (by omega)
    refine ⟨(k + 1, l'.set k.toNat (Sp07.advert t' 3 0).1, (Sp07.advert t' 3 0).2, ()), ?_, ⟨⟨by simp only; omega, by simp only; omega⟩, by simp only [List.length_set]; exact h3, adv_wf h4, fun i hi => ?_⟩, by simp only; omega⟩
    · unfold g7_s0
      simp only [on_adv h4 3 (n := 0) (by decide), h1, h6, b1, e, decide_true, cond_true, Bool.and_self, Option.bind_some]
    · simp only at hi ⊢
      rw [getD_set (by omega)]
      by_cases hik : k.toNat = i
      · rw [if_pos hik]; exact advert_of3 h4
      · rw [if_neg hik]; exact h5 i (by omega)
  · left
    refine ⟨(l', ()), ?_, h3, fun i hi => h5 i (by omega)⟩
    unfold g7_s0
    simp only [h6, decide_false, cond_false]

theorem g7_ok (a0 : (List Int)) (r0 : (Ty.sl (.int .i64)).ok a0) : g7 a0 = some (true, ()) := by
  unfold g7
  obtain ⟨e, h1, h2, h3⟩ := loop7_0 (tape_wf a0) [(0, 0, false, [], [], ()), (0, 0, false, [], [], ()), (0, 0, false, [], [], ()), (0, 0, false, [], [], ())] rfl
  rw [h1]
  simp only [Option.bind_some]
  have h4 := loop7_3 h2 h3
  obtain ⟨e1, ⟨⟩⟩ := e
  rw [h4]
  rfl

theorem ok7 : FunOk Try.prog B 7 c7 := glue L11 all11 plan7 Try.func7 (by kernel_rfl) (by
  rintro ⟨⟨⟩, a0, ⟨⟩⟩ y r h
  exact (g7_eq a0).trans ((g7_ok a0 r.2.1).trans h))
end Go.Abs.C07

/- Chapter 07: the row of AdvertOrder. -/
namespace Go.Proofs.Ytmofipnlkfhfpaa
open Go.ChangeShapes Go.WideShapes Go.ChangeAt Go.RowKit Go.Abs Go.Abs.C07

set_option maxRecDepth 100000 in
theorem AdvertOrder_lifted (os : Os) (started : os.Started) (H : Type) (enc : TypeId × Value → H) :
    ReturnsInHanded {} Try.checked os 7 .any (fun w args => (Rows.advertOrderSpec.pre enc Try.prog Try.f7 Rows.advertOrderRow.domain false w args ∧ True) ∧ sizedMet enc Try.prog Try.f7 (OpenSpec.ofChange Rows.advertOrderSpec) false w args)
      (Rows.advertOrderSpec.post enc Try.prog Try.f7 false true false false) := by
  refine returnsInHanded_of_change_and (C := Try.checked) (X := fun _ _ => True) (fun _ _ _ _ _ => trivial) Try.own started (by kernel_rfl) Try.func7
    (ChangeSpec.witness_at (enc := enc) (C := Try.checked) (os := os) (X := fun _ _ => True) false (laidWorld os) #[.slice none 0 0] 8 rfl (by kernel_rfl) (by kernel_rfl) (by kernel_rfl) (by kernel_rfl) (by kernel_rfl) trivial) ?_
  intro W base args ds gs before hval hW _ hwt hL _
  exact law_row 8 [.sl (.int .i64)] ok7 rfl Try.laidOut (by kernel_rfl) (by kernel_rfl) rfl (by kernel_rfl) (tb := 4) (by kernel_rfl)
    (fun ds hd => by
      match ds, hd with
      | [d1], _ => rfl) glob_ok hval hW hwt

theorem AdvertOrder_holds : Rows.AdvertOrderSaid :=
  OpenClaim.holds_of_wide 7 Try.f7 rfl rfl rfl rfl rfl rfl rfl ⟨rfl, rfl, rfl, rfl, rfl⟩ rfl rfl rfl rfl rfl (by kernel_rfl) Try.func7 (by kernel_rfl)
    (of_decide_eq_true (by kernel_rfl)) (by unfold Func.isWrapper; first | (rw [if_pos (by decide +kernel)]; kernel_rfl) | (rw [if_neg (by decide +kernel)]; exact ⟨rfl, rfl⟩))
    (fun os started H enc _ => by
      show ReturnsInHanded {} Try.checked os 7 .any (fun w args => Rows.advertOrderSpec.pre enc Try.prog Try.f7 Rows.advertOrderRow.domain false w args ∧ sizedMet enc Try.prog Try.f7 (OpenSpec.ofChange Rows.advertOrderSpec) false w args) (Rows.advertOrderSpec.post enc Try.prog Try.f7 false true false false)
      have h := AdvertOrder_lifted os started H enc
      simp only [and_true] at h
      exact h)
end Go.Proofs.Ytmofipnlkfhfpaa
