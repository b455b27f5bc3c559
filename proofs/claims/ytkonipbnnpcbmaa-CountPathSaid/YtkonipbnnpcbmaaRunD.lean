/- Chapter 37: proved is that the law CountPath keeps the contract true for every input; no conditions. -/
import Derived.Test.YtkonipbnnpcbmaaRunQ
set_option linter.unusedVariables false
set_option linter.unusedSimpArgs false
/- Chapter 37: the law CountPath. -/
namespace Go.Abs.C37
open Go Go.Proofs Sp37

/-! Turned windows of an ascending list. -/
def Good (w : Nat) (W : List Nat) : Prop := ∀ P e R, W = P ++ e :: R → ∀ k, k < e → R.count k + 1 ≤ w ∧ (0 < R.count k → P.countP (fun x => decide (k < x)) + 2 ≤ w)
theorem good_chunks (w : Nat) : ∀ (cs : List (List Nat)), (∀ c ∈ cs, c.length ≤ w) → cs.flatten.Pairwise (· ≤ ·) → Good w ((cs.map List.reverse).flatten)
  | [], _, _ => by intro P e R h; simp at h
  | c :: cs, hl, hp => by
    intro P e R h k hk
    simp only [List.map_cons, List.flatten_cons] at h hp
    have hp2 := List.pairwise_append.1 hp
    have ih := good_chunks w cs (fun x hx => hl x (by simp [hx])) hp2.2.1
    have hc := hl c (by simp)
    have hmem : ∀ x, x ∈ (cs.map List.reverse).flatten → x ∈ cs.flatten := by
      intro x hx
      simp only [List.mem_flatten, List.mem_map] at hx ⊢
      obtain ⟨l, ⟨c', h1, rfl⟩, h2⟩ := hx
      exact ⟨c', h1, List.mem_reverse.1 h2⟩
    rcases List.append_eq_append_iff.1 h with ⟨a, h1, h2⟩ | ⟨a, h1, h2⟩
    · -- e stands behind the first chunk
      obtain ⟨q1, q2⟩ := ih a e R h2 k hk
      refine ⟨q1, fun h0 => ?_⟩
      have := q2 h0
      rw [h1, List.countP_append]
      have hz : c.reverse.countP (fun x => decide (k < x)) = 0 := by
        rw [List.countP_eq_zero]
        intro x hx
        have hkm : k ∈ cs.flatten := hmem k (by rw [h2]; simp [List.count_pos_iff.1 h0])
        have := hp2.2.2 x (List.mem_reverse.1 hx) k hkm
        simp; omega
      omega
    · -- e stands in the first chunk, or at its end
      cases a with
      | nil =>
        simp only [List.append_nil, List.nil_append] at h1 h2
        obtain ⟨q1, q2⟩ := ih [] e R (by rw [List.nil_append]; exact h2.symm) k hk
        refine ⟨q1, fun h0 => ?_⟩
        have := q2 h0
        rw [← h1]
        have hz : c.reverse.countP (fun x => decide (k < x)) = 0 := by
          rw [List.countP_eq_zero]
          intro x hx
          have hkm : k ∈ cs.flatten := hmem k (by rw [← h2]; simp [List.count_pos_iff.1 h0])
          have := hp2.2.2 x (List.mem_reverse.1 hx) k hkm
          simp; omega
        simp at this
        omega
      | cons a0 a =>
        simp only [List.cons_append, List.cons.injEq] at h2
        obtain ⟨rfl, h2⟩ := h2
        have hlen := congrArg List.length h1
        simp only [List.length_reverse, List.length_append, List.length_cons] at hlen
        have he : e ∈ c := List.mem_reverse.1 (by rw [h1]; simp)
        have hz : ((cs.map List.reverse).flatten).count k = 0 := by
          rw [List.count_eq_zero]
          intro hm
          have := hp2.2.2 e he k (hmem k hm)
          omega
        rw [h2, List.count_append, hz]
        have h3 : a.count k ≤ a.length := List.count_le_length
        refine ⟨by omega, fun h0 => ?_⟩
        have h4 : P.countP (fun x => decide (k < x)) ≤ P.length := List.countP_le_length
        have h5 : 0 < a.length := by omega
        omega

def colour (k : Nat) : Int := (k : Int) % 2
theorem counts_good {w : Nat} {g : Int} {last : Nat} {W : List Nat} (hG : Good w W) (hw : (w : Int) ≤ g) (hg : 1 ≤ g) (hW : ∀ x ∈ W, x ≤ last) (hN : ∀ k, k ≤ last → g + w ≤ (W.count k : Int)) :
    ∀ n, n ≤ W.length → ∃ β : Nat, β ≤ last ∧ (((W.take n).map colour).foldl (stepC g) ([], 0, 0)) = ((List.range β).map (fun k => (W.count k : Int)), ((W.take n).count β : Int), ((W.take n).count (β + 1) : Int)) ∧
      (∀ k, k < β → (W.take n).count k = W.count k) ∧ (∀ k, β + 1 < k → (W.take n).count k = 0) ∧ (((W.take n).count (β + 1) : Nat) : Int) < g := by
  intro n
  induction n with
  | zero => intro _; exact ⟨0, by omega, by simp, fun k h => by omega, fun k _ => by simp, by simp; omega⟩
  | succ n ih =>
    intro hn
    obtain ⟨β, b0, b1, b2, b3, b4⟩ := ih (by omega)
    have hlt : n < W.length := by omega
    have hsplit : W = W.take n ++ W[n] :: W.drop (n + 1) := by
      have := List.take_append_drop n W
      rw [List.drop_eq_getElem_cons hlt] at this
      exact this.symm
    have htk : W.take (n + 1) = W.take n ++ [W[n]] := by rw [List.take_add_one, List.getElem?_eq_getElem hlt]; rfl
    have hgood := hG _ _ _ hsplit
    have hel := hW W[n] (List.getElem_mem hlt)
    have hcount : ∀ k, W.count k = (W.take n).count k + ((if W[n] = k then 1 else 0) + (W.drop (n + 1)).count k) := by
      intro k
      conv => lhs; rw [hsplit]
      rw [List.count_append, List.count_cons]
      by_cases h : W[n] = k <;> simp [h] <;> omega
    generalize W[n] = e at *
    generalize W.drop (n + 1) = R at *
    have hA : β ≤ e := by
      rcases Nat.lt_or_ge e β with h | h
      · have h1 := b2 e h
        have h2 := hcount e
        simp at h2; omega
      · exact h
    have hB : e ≤ β + 1 := by
      rcases Nat.lt_or_ge (β + 1) e with h | h
      · have h1 := (hgood (β + 1) h).1
        have h2 := hcount (β + 1)
        rw [if_neg (by omega)] at h2
        have h3 := hN (β + 1) (by omega)
        omega
      · exact h
    rw [htk, List.map_append, List.foldl_append, b1]
    simp only [List.map_cons, List.map_nil, List.foldl_cons, List.foldl_nil]
    have hcs : ∀ k, (W.take n ++ [e]).count k = (W.take n).count k + (if e = k then 1 else 0) := by
      intro k
      rw [List.count_append, List.count_singleton]
      by_cases h : e = k <;> simp [h]
    by_cases he : e = β
    · subst he
      refine ⟨e, b0, ?_, fun k hk => ?_, fun k hk => ?_, ?_⟩
      · unfold stepC colour
        simp only [List.length_map, List.length_range, decide_true, cond_true, hcs, if_true]
        rw [if_neg (by omega)]
        simp
      · rw [hcs, if_neg (by omega), b2 k hk]; rfl
      · rw [hcs, if_neg (by omega), b3 k hk]
      · rw [hcs, if_neg (by omega)]; exact b4
    · have he1 : e = β + 1 := by omega
      subst he1
      have hne : ¬ ((β + 1 : Nat) : Int) % 2 = (β : Int) % 2 := by omega
      by_cases hd : (((W.take n).count (β + 1) : Nat) : Int) + 1 < g
      · refine ⟨β, b0, ?_, fun k hk => ?_, fun k hk => ?_, ?_⟩
        · unfold stepC colour
          simp only [List.length_map, List.length_range, hne, hd, decide_true, decide_false, cond_true, cond_false, hcs, if_true]
          rw [if_neg (by omega)]
          simp
        · rw [hcs, if_neg (by omega), b2 k hk]; rfl
        · rw [hcs, if_neg (by omega), b3 k hk]
        · rw [hcs, if_pos rfl]; omega
      · have hfull : (W.take n).count β = W.count β := by
          have h1 := hcount β
          rw [if_neg (by omega)] at h1
          rcases Nat.eq_zero_or_pos (R.count β) with h2 | h2
          · omega
          · have h3 := (hgood β (by omega)).2 h2
            have h4 : (W.take n).count (β + 1) ≤ (W.take n).countP (fun x => decide (β < x)) := by
              rw [List.count_eq_countP]
              exact List.countP_mono_left fun x _ hx => by
                have : x = β + 1 := by simpa using hx
                simp [this]
            omega
        refine ⟨β + 1, by omega, ?_, fun k hk => ?_, fun k hk => ?_, ?_⟩
        · unfold stepC colour
          simp only [List.length_map, List.length_range, hne, hd, decide_false, cond_false, hcs, if_true]
          rw [if_neg (by omega), b3 (β + 1 + 1) (by omega), List.range_succ, List.map_append, hfull]
          simp
        · rw [hcs]
          by_cases h : k = β
          · subst h; rw [if_neg (by omega), hfull]; rfl
          · rw [if_neg (by omega), b2 k (by omega)]; rfl
        · rw [hcs, if_neg (by omega), b3 k (by omega)]
        · rw [hcs, if_neg (by omega), b3 _ (by omega)]; simp; omega
theorem counts_end {w : Nat} {g : Int} {last : Nat} {W : List Nat} (hG : Good w W) (hw : (w : Int) ≤ g) (hg : 1 ≤ g) (hW : ∀ x ∈ W, x ≤ last) (hN : ∀ k, k ≤ last → g + w ≤ (W.count k : Int)) :
    ends (W.map colour) (counts (W.map colour) g) = (List.range (last + 1)).map fun k => (W.count k : Int) := by
  obtain ⟨β, b0, b1, b2, b3, b4⟩ := counts_good hG hw hg hW hN W.length (Nat.le_refl _)
  rw [List.take_length] at b1 b2 b3 b4
  have hβ : β = last := by
    rcases Nat.lt_or_ge β last with h | h
    · have := hN (β + 1) (by omega); omega
    · omega
  subst hβ
  have hz : W.count (β + 1) = 0 := by
    rw [List.count_eq_zero]
    intro h
    have := hW _ h; omega
  have hpos : 0 < (W.map colour).length := by
    have h1 := hN 0 (by omega)
    have h2 : W.count 0 ≤ W.length := List.count_le_length
    rw [List.length_map]; omega
  unfold ends counts
  rw [b1, hz]
  simp only [decide_eq_true hpos, cond_true]
  rw [List.range_succ, List.map_append]
  simp

/-! The blocks of a list. -/
def blk (b : Int) (x : Int) : Nat := (x / b).toNat
theorem filter_count (b : Int) (k : Nat) : ∀ (l : List Int), (∀ x ∈ l, 0 ≤ x / b) → (l.filter fun x => decide (x / b = (k : Int))).length = (l.map (blk b)).count k
  | [], _ => rfl
  | x :: l, h => by
    have hx := h x (by simp)
    have ih := filter_count b k l fun y hy => h y (by simp [hy])
    rw [List.filter_cons, List.map_cons, List.count_cons, ← ih]
    unfold blk
    by_cases hk : x / b = (k : Int)
    · have : (x / b).toNat = k := by omega
      simp [hk]
    · have : ¬ (x / b).toNat = k := by omega
      simp [hk, this]
theorem blocks_count {l : List Int} {b : Int} {last : Nat} (h : ∀ x ∈ l, 0 ≤ x / b) : Sp37.blocks l b last = (List.range (last + 1)).map fun k => ((l.map (blk b)).count k : Int) := by
  unfold Sp37.blocks
  rw [show ((last : Int) + 1).toNat = last + 1 by omega]
  refine List.map_congr_left fun k _ => ?_
  rw [filter_count b k l h]

/-- Lists as they are on the path: ascending blocks, none too small. -/
def Ok (b : Int) (last : Nat) (least : Int) (l : List Int) : Prop :=
  (∀ x ∈ l, 0 ≤ x ∧ x / b ≤ last) ∧ (l.map (blk b)).Pairwise (· ≤ ·) ∧ ∀ k, k ≤ last → least ≤ ((l.map (blk b)).count k : Int)

theorem shuf_chunks (w : Int) (hw : 1 ≤ w) : ∀ (n : Nat) (l : List Int) (t : Tp) (out : List Int), wf t = true → l.length ≤ n →
    ∃ cs : List (List Int), l = cs.flatten ∧ (shufGo w n l t out).1 = out ++ (cs.map List.reverse).flatten ∧ (∀ c ∈ cs, c.length ≤ w.toNat) ∧ wf (shufGo w n l t out).2 = true
  | 0, l, t, out, ht, hl => by
    have : l = [] := List.length_eq_zero_iff.1 (by omega)
    subst this
    exact ⟨[], rfl, by simp [shufGo], by simp, ht⟩
  | n + 1, l, t, out, ht, hl => by
    unfold shufGo
    cases hr : l.isEmpty with
    | true =>
      have : l = [] := by simpa using hr
      subst this
      exact ⟨[], rfl, by simp, by simp, ht⟩
    | false =>
      simp only [cond_false]
      have hpos : 0 < l.length := by
        cases l with
        | nil => cases hr
        | cons x y => simp
      have hin := range_in (t := t) (a := 1) (b := w) hw
      obtain ⟨cs, h1, h2, h3, h4⟩ := shuf_chunks w hw n (l.drop (min (range t 1 w).1.toNat l.length)) (range t 1 w).2 (out ++ (l.take (min (range t 1 w).1.toNat l.length)).reverse) (range_wf (a := 1) (b := w) ht) (by simp; omega)
      refine ⟨l.take (min (range t 1 w).1.toNat l.length) :: cs, ?_, ?_, ?_, h4⟩
      · rw [List.flatten_cons, ← h1, List.take_append_drop]
      · rw [h2]; simp
      · intro c hc
        rcases List.mem_cons.1 hc with h | h
        · subst h; simp; omega
        · exact h3 c h

theorem pass_facts (b least : Int) : ∀ (l left : List Int) (t : Tp) (out : List Int), wf t = true → left.length = 1001 → (∀ x ∈ l, 0 ≤ x / b ∧ x / b ≤ 1000) → (∀ x ∈ out, 0 ≤ x / b) →
    (∀ k : Nat, k ≤ 1000 → left.getD k 0 = ((out.map (blk b)).count k : Int) + ((l.map (blk b)).count k : Int)) →
    wf (passGo b least l left t out).2 = true ∧ (∃ r, (passGo b least l left t out).1 = out ++ r ∧ r.Sublist l) ∧
      ∀ k : Nat, k ≤ 1000 → least ≤ left.getD k 0 → least ≤ (((passGo b least l left t out).1.map (blk b)).count k : Int)
  | [], left, t, out, ht, _, _, _, h => ⟨ht, ⟨[], by simp [passGo], List.Sublist.refl _⟩, fun k hk hl => by
      have := h k hk
      rw [List.map_nil, List.count_nil] at this
      simp only [passGo]; omega⟩
  | x :: l, left, t, out, ht, hlen, hl, ho, h => by
    have hx := hl x (by simp)
    have hblk : ((x / b).toNat : Nat) = blk b x := rfl
    have keep : ∀ t', wf t' = true → wf (passGo b least l left t' (out ++ [x])).2 = true ∧ (∃ r, (passGo b least l left t' (out ++ [x])).1 = out ++ r ∧ r.Sublist (x :: l)) ∧
        ∀ k : Nat, k ≤ 1000 → least ≤ left.getD k 0 → least ≤ (((passGo b least l left t' (out ++ [x])).1.map (blk b)).count k : Int) := by
      intro t' ht'
      obtain ⟨p1, ⟨r, p2, p3⟩, p4⟩ := pass_facts b least l left t' (out ++ [x]) ht' hlen (fun y hy => hl y (by simp [hy])) (fun y hy => by
        rcases List.mem_append.1 hy with h | h
        · exact ho y h
        · simp only [List.mem_singleton] at h; subst h; exact hx.1) (fun k hk => by
        rw [h k hk, List.map_append, List.count_append, List.map_cons, List.count_cons]
        simp only [List.map_cons, List.map_nil, List.count_cons, List.count_nil]
        omega)
      exact ⟨p1, ⟨x :: r, by rw [p2]; simp, p3.cons_cons x⟩, p4⟩
    unfold passGo
    by_cases q1 : least < left.getD (x / b).toNat 0
    · by_cases q2 : (next t 4).1 = 0
      · simp only [q1, q2, decide_true, cond_true]
        obtain ⟨p1, ⟨r, p2, p3⟩, p4⟩ := pass_facts b least l (left.set (x / b).toNat (left.getD (x / b).toNat 0 - 1)) (next t 4).2 out (next_wf (n := 4) ht) (by simp [hlen]) (fun y hy => hl y (by simp [hy])) ho (fun k hk => by
          rw [getD_set (by omega)]
          have := h k hk
          rw [List.map_cons, List.count_cons] at this
          by_cases hk2 : (x / b).toNat = k
          · rw [if_pos hk2]
            rw [hk2]
            have : blk b x = k := hk2
            simp [this] at *
            omega
          · rw [if_neg hk2]
            have : ¬ blk b x = k := hk2
            simp [this] at *
            omega)
        refine ⟨p1, ⟨r, p2, p3.cons x⟩, fun k hk hle => p4 k hk ?_⟩
        rw [getD_set (by omega)]
        split
        · rename_i h2; subst h2; omega
        · exact hle
      · simp only [q1, q2, decide_true, decide_false, cond_true, cond_false]
        exact keep _ (next_wf (n := 4) ht)
    · simp only [q1, decide_false, cond_false]
      exact keep _ ht

theorem passes_ok {b least : Int} {last : Nat} {l : List Int} {t : Tp} (hb : 0 < b) (hlast : last ≤ 1000) (ht : wf t = true) (h : Ok b last least l) :
    wf (passes t l b least).2 = true ∧ (passes t l b least).1.Sublist l ∧ Ok b last least (passes t l b least).1 := by
  obtain ⟨h1, h2, h3⟩ := h
  have hnn : ∀ x ∈ l, 0 ≤ x / b := fun x hx => Int.ediv_nonneg (h1 x hx).1 (by omega)
  have hcnt : ∀ k : Nat, k ≤ 1000 → (Sp37.blocks l b 1000).getD k 0 = ((l.map (blk b)).count k : Int) := fun k hk => by
    rw [blocks_getD, if_pos (show k < ((1000 : Int) + 1).toNat by omega), filter_count b k l hnn]
  obtain ⟨p1, ⟨r, p2, p3⟩, p4⟩ := pass_facts b least l (Sp37.blocks l b 1000) t [] ht (by rw [blocks_len]; rfl) (fun x hx => ⟨hnn x hx, by have := (h1 x hx).2; omega⟩) (by simp) (fun k hk => by
    rw [hcnt k hk, List.map_nil, List.count_nil]; omega)
  rw [List.nil_append] at p2
  have hs : (passes t l b least).1.Sublist l := by
    show (passGo b least l (Sp37.blocks l b 1000) t []).1.Sublist l
    rw [p2]; exact p3
  refine ⟨p1, hs, fun x hx => h1 x (hs.subset hx), h2.sublist (hs.map _), fun k hk => p4 k (by omega) ?_⟩
  rw [hcnt k (by omega)]
  exact h3 k hk

theorem count_rev (k : Nat) : ∀ (cs : List (List Nat)), ((cs.map List.reverse).flatten).count k = cs.flatten.count k
  | [] => rfl
  | c :: cs => by
    simp only [List.map_cons, List.flatten_cons, List.count_append, List.count_reverse, count_rev k cs]
theorem mem_rev {α : Type} (x : α) (cs : List (List α)) : x ∈ (cs.map List.reverse).flatten ↔ x ∈ cs.flatten := by
  simp only [List.mem_flatten, List.mem_map]
  constructor
  · rintro ⟨l, ⟨c, h1, rfl⟩, h2⟩
    exact ⟨c, h1, List.mem_reverse.1 h2⟩
  · rintro ⟨c, h1, h2⟩
    exact ⟨c.reverse, ⟨c, h1, rfl⟩, List.mem_reverse.2 h2⟩
theorem len_rev {α : Type} : ∀ (cs : List (List α)), ((cs.map List.reverse).flatten).length = cs.flatten.length
  | [] => rfl
  | c :: cs => by simp only [List.map_cons, List.flatten_cons, List.length_append, List.length_reverse, len_rev cs]
theorem map_rev {α β : Type} (f : α → β) : ∀ (cs : List (List α)), ((cs.map List.reverse).flatten).map f = ((cs.map (List.map f)).map List.reverse).flatten
  | [] => rfl
  | c :: cs => by simp only [List.map_cons, List.flatten_cons, List.map_append, List.map_reverse, map_rev f cs]

/-- What a router counts. -/
theorem counted {b g w : Int} {last : Nat} {l : List Int} {t : Tp} (hb : 0 < b) (hg : 1 ≤ g ∧ g ≤ 1000) (hw : 1 ≤ w ∧ w ≤ g) (hl : l.length ≤ 1000) (ht : wf t = true) (h : Ok b last (g + w) l) :
    wf (shuffled t l w).2 = true ∧ (∀ x ∈ (shuffled t l w).1, 0 ≤ x) ∧ (shuffled t l w).1.length = l.length ∧ Sp37.count (cols (shuffled t l w).1 b) g = (Sp37.blocks l b last, 0, ()) := by
  obtain ⟨h1, h2, h3⟩ := h
  obtain ⟨cs, c1, c2, c3, c4⟩ := shuf_chunks w hw.1 l.length l t [] ht (Nat.le_refl _)
  rw [List.nil_append] at c2
  have hnn : ∀ x ∈ l, 0 ≤ x / b := fun x hx => Int.ediv_nonneg (h1 x hx).1 (by omega)
  have hmem : ∀ x, x ∈ (shuffled t l w).1 ↔ x ∈ l := by
    intro x
    show x ∈ (shufGo w l.length l t []).1 ↔ _
    rw [c2, mem_rev, ← c1]
  have hlen : (shuffled t l w).1.length = l.length := by
    show (shufGo w l.length l t []).1.length = _
    rw [c2, len_rev, ← c1]
  refine ⟨c4, fun x hx => (h1 x ((hmem x).1 hx)).1, hlen, ?_⟩
  have hW : (shuffled t l w).1.map (blk b) = ((cs.map (List.map (blk b))).map List.reverse).flatten := by
    show (shufGo w l.length l t []).1.map (blk b) = _
    rw [c2, map_rev]
  have hfl : (cs.map (List.map (blk b))).flatten = l.map (blk b) := by rw [← List.map_flatten, ← c1]
  have hcw : ∀ k, ((shuffled t l w).1.map (blk b)).count k = (l.map (blk b)).count k := fun k => by rw [hW, count_rev, hfl]
  have hgood : Good w.toNat ((shuffled t l w).1.map (blk b)) := by
    rw [hW]
    refine good_chunks _ _ (fun c hc => ?_) (by rw [hfl]; exact h2)
    obtain ⟨c', h4, rfl⟩ := List.mem_map.1 hc
    rw [List.length_map]; exact c3 c' h4
  have hcol : cols (shuffled t l w).1 b = ((shuffled t l w).1.map (blk b)).map colour := by
    unfold cols
    rw [List.map_map]
    refine List.map_congr_left fun x hx => ?_
    have := hnn x ((hmem x).1 hx)
    show x / b % 2 = ((x / b).toNat : Int) % 2
    rw [Int.toNat_of_nonneg this]
  have hend := counts_end (w := w.toNat) (g := g) (last := last) hgood (by omega) hg.1 (fun x hx => by
    obtain ⟨y, hy, rfl⟩ := List.mem_map.1 hx
    have := (h1 y ((hmem y).1 hy)).2
    unfold blk; omega) (fun k hk => by
    rw [hcw]
    have := h3 k hk
    omega)
  unfold Sp37.count
  have d1 : ¬ 1000 < (cols (shuffled t l w).1 b).length := by unfold cols; rw [List.length_map, hlen]; omega
  have d2 : inside g 1 1000 = true := inside_iff.2 hg
  have d3 : ((cols (shuffled t l w).1 b).all fun x => inside x 0 1) = true := List.all_eq_true.2 fun x hx => by
    unfold cols at hx
    obtain ⟨y, _, rfl⟩ := List.mem_map.1 hx
    exact inside_iff.2 (by omega)
  simp only [d1, d2, d3, decide_false, Bool.not_true, cond_false]
  rw [hcol, hend, blocks_count hnn]
  congr 1
  refine List.map_congr_left fun k _ => ?_
  rw [hcw]

/-! Sums. -/
theorem sum_set : ∀ (l : List Int) (i : Nat), i < l.length → (l.set i (l.getD i 0 + 1)).sum = l.sum + 1
  | [], i, h => by simp at h
  | x :: l, 0, _ => by simp; omega
  | x :: l, i + 1, h => by
    have := sum_set l i (by simpa using h)
    simp only [List.set_cons_succ, List.sum_cons, List.getD_cons_succ]
    omega
theorem blocks_sum {l : List Int} {b : Int} {last : Nat} (h : ∀ x ∈ l, 0 ≤ x / b ∧ x / b ≤ last) : (Sp37.blocks l b last).sum = l.length := by
  have key : ∀ n, n ≤ l.length → (Sp37.blocks (l.take n) b last).sum = n := by
    intro n
    induction n with
    | zero =>
      intro _
      rw [List.take_zero, blocks_nil]
      have : ∀ m, (List.replicate m (0 : Int)).sum = 0 := by
        intro m
        induction m with
        | zero => rfl
        | succ m ih => rw [List.replicate_succ, List.sum_cons, ih]; rfl
      rw [this]; rfl
    | succ n ih =>
      intro hn
      have hx := h _ (getD_mem (d := 0) (show n < l.length by omega))
      rw [take_succ_getD l n 0 (by omega), blocks_snoc hx.1 hx.2, sum_set _ _ (by rw [blocks_len]; omega), ih (by omega)]
      omega
  have := key l.length (Nat.le_refl _)
  rwa [List.take_length] at this
theorem sum_sub (f h : Nat → Int) : ∀ m : Nat, ((List.range m).map fun i => f i - h i).sum = ((List.range m).map f).sum - ((List.range m).map h).sum
  | 0 => rfl
  | m + 1 => by
    simp only [List.range_succ, List.map_append, List.sum_append, List.map_cons, List.map_nil, List.sum_cons, List.sum_nil]
    rw [sum_sub f h m]; omega
theorem range_getD (l : List Int) : (List.range l.length).map (fun i => l.getD i 0) = l :=
  list_getD_ext 0 (by simp) fun i hi => by
    rw [getD_range_map, if_pos (by simpa using hi)]
theorem loss_total {l l' : List Int} {b : Int} {last : Nat} (hs : l'.Sublist l) (hl : l.length ≤ 1000) (h : ∀ x ∈ l, 0 ≤ x / b ∧ x / b ≤ last) :
    total (loss (Sp37.blocks l b last) (Sp37.blocks l' b last)) = (l.length : Int) - (l'.length : Int) := by
  have h' : ∀ x ∈ l', 0 ≤ x / b ∧ x / b ≤ last := fun x hx => h x (hs.subset hx)
  have hA := blocks_len l b last
  have hB := blocks_len l' b last
  have hle : ∀ i, 0 ≤ (Sp37.blocks l b last).getD i 0 - (Sp37.blocks l' b last).getD i 0 ∧ (Sp37.blocks l b last).getD i 0 - (Sp37.blocks l' b last).getD i 0 ≤ 1000 := by
    intro i
    have b1 := blocks_bound l b last i
    have b2 := blocks_bound l' b last i
    have : (Sp37.blocks l' b last).getD i 0 ≤ (Sp37.blocks l b last).getD i 0 := by
      rw [blocks_getD, blocks_getD]
      split
      · have := (hs.filter fun x => decide (x / b = (i : Int))).length_le
        omega
      · omega
    omega
  have hloss : loss (Sp37.blocks l b last) (Sp37.blocks l' b last) = (List.range ((last : Int) + 1).toNat).map fun i => (Sp37.blocks l b last).getD i 0 - (Sp37.blocks l' b last).getD i 0 := by
    unfold loss
    rw [hA, hB, Nat.max_self]
    refine List.map_congr_left fun i _ => ?_
    have := hle i
    exact wi64 (by omega) (by omega)
  have hsum : ((List.range ((last : Int) + 1).toNat).map fun i => (Sp37.blocks l b last).getD i 0 - (Sp37.blocks l' b last).getD i 0).sum = (l.length : Int) - (l'.length : Int) := by
    rw [sum_sub]
    have e1 := range_getD (Sp37.blocks l b last)
    have e2 := range_getD (Sp37.blocks l' b last)
    rw [hA] at e1
    rw [hB] at e2
    rw [e1, e2, blocks_sum h, blocks_sum h']
  have hsl := hs.length_le
  rw [hloss]
  unfold total
  rw [total_sum _ 0 (fun x hx => by
    obtain ⟨i, _, rfl⟩ := List.mem_map.1 hx
    exact (hle i).1) (by omega) (by rw [hsum]; omega), hsum]
  omega

/-! The start: all packets. -/
theorem range_count {b : Int} (hb : 0 < b) (k : Nat) : ∀ n : Nat, ((((List.range n).map fun i : Nat => (i : Int)).map (blk b)).count k : Int) = max 0 (min ((n : Int) - (k : Int) * b) b)
  | 0 => by
    have : 0 ≤ (k : Int) * b := Int.mul_nonneg (by omega) (by omega)
    simp; omega
  | n + 1 => by
    have ih := range_count hb k n
    have hk : 0 ≤ (k : Int) * b := Int.mul_nonneg (by omega) (by omega)
    rw [List.range_succ, List.map_append, List.map_append, List.count_append]
    simp only [List.map_cons, List.map_nil, List.count_singleton]
    have hd : (blk b (n : Int) == k) = decide ((k : Int) * b ≤ n ∧ (n : Int) < (k : Int) * b + b) := by
      unfold blk
      have hnn : 0 ≤ (n : Int) / b := Int.ediv_nonneg (by omega) (by omega)
      by_cases h : (k : Int) * b ≤ n ∧ (n : Int) < (k : Int) * b + b
      · rw [div_is hb h.1 h.2, decide_eq_true h]; simp
      · rw [decide_eq_false h]
        simp only [beq_eq_false_iff_ne, ne_eq]
        intro hc
        have hq : (n : Int) / b = k := by omega
        have h1 : (k : Int) * b ≤ n := (Int.le_ediv_iff_mul_le hb).1 (by omega)
        have h2 : (n : Int) < ((k : Int) + 1) * b := (Int.ediv_lt_iff_lt_mul hb).1 (by omega)
        rw [Int.add_mul, Int.one_mul] at h2
        exact h ⟨h1, h2⟩
    rw [hd]
    by_cases h : (k : Int) * b ≤ n ∧ (n : Int) < (k : Int) * b + b
    · rw [decide_eq_true h, if_pos rfl]; omega
    · rw [decide_eq_false h, if_neg Bool.false_ne_true]; omega
theorem start_ok {b least : Int} {last : Nat} (hb : 0 < b) (hle : least ≤ b) (n : Nat) (hn : (n : Int) = ((last : Int) + 1) * b) : Ok b last least ((List.range n).map fun i : Nat => (i : Int)) := by
  have hmon : ∀ (x y : Nat), x ≤ y → blk b x ≤ blk b y := fun x y h => by
    unfold blk
    have := Int.ediv_le_ediv hb (show (x : Int) ≤ (y : Int) by omega)
    have h0 : 0 ≤ (x : Int) / b := Int.ediv_nonneg (by omega) (by omega)
    omega
  refine ⟨fun x hx => ?_, ?_, fun k hk => ?_⟩
  · obtain ⟨i, hi, rfl⟩ := List.mem_map.1 hx
    have hi := List.mem_range.1 hi
    refine ⟨by omega, ?_⟩
    have : (i : Int) / b < (last : Int) + 1 := (Int.ediv_lt_iff_lt_mul hb).2 (by rw [← hn]; omega)
    omega
  · rw [List.map_map, List.pairwise_map]
    have : (List.range n).Pairwise (· < ·) := List.pairwise_lt_range
    exact this.imp fun {x y} h => hmon x y (Nat.le_of_lt h)
  · rw [range_count hb, hn]
    have h1 : ((k : Int) + 1) * b ≤ ((last : Int) + 1) * b := Int.mul_le_mul_of_nonneg_right (by omega) (by omega)
    rw [Int.add_mul, Int.one_mul] at h1
    omega

theorem inBlocks_of {l : List Int} {b k : Int} (h : ∀ x ∈ l, 0 ≤ x ∧ x / b ≤ k) : inBlocks l b k = true := inBlocks_iff.2 h

theorem path1 (y1 : Int × Tp) (st : Int × List Int × Tp × List Int × Unit) (y7 y8 : List Int × Unit) (hc : (Sp37.count y7.1 y1.1).1 = y8.1) (hlen : st.2.1.length = y8.1.length) (hb : y8.1.length ≤ 1000) :
    Loop (g3_s1 y1 st y7 y8) ((0 : Int), ()) = some (false, (false, ()), ()) := by
  refine Loop_inv (fun v : Int × Unit => 0 ≤ v.1 ∧ v.1 ≤ (y8.1.length : Int)) (fun v : Int × Unit => ((y8.1.length : Int) - v.1).toNat) (fun _ => (false, (false, ()), ())) ?_ (v := (0, ())) ⟨by simp, by simp⟩
  rintro ⟨i, ⟨⟩⟩ ⟨k1, k2⟩
  simp only at k1 k2
  unfold g3_s1
  rw [hc]
  have hll : (loss st.2.1 y8.1).length = y8.1.length := by unfold loss; rw [List.length_map, List.length_range]; omega
  by_cases hi : i < (y8.1.length : Int)
  · right
    have e1 : IntKind.wrap .i64 (i + 1) = i + 1 := wi64 (by omega) (by omega)
    have c1 : i < (st.2.1.length : Int) := by omega
    have hg : (loss st.2.1 y8.1).getD i.toNat 0 = IntKind.wrap .i64 (st.2.1.getD i.toNat 0 - y8.1.getD i.toNat 0) := by
      unfold loss
      rw [getD_range_map, if_pos (by omega)]
    simp only [hll, hi, k1, c1, e1, hg, Int.ofNat_eq_natCast, decide_true, Bool.not_true, cond_true, cond_false, Bool.and_self]
    exact ⟨_, rfl, ⟨by simp only; omega, by simp only; omega⟩, by simp only; omega, trivial⟩
  · left
    simp only [hll, hi, decide_false, cond_false, Int.ofNat_eq_natCast]

theorem path2 (y1 y2 y3 y4 : Int × Tp) (last : Nat) (hg : 1 ≤ y1.1 ∧ y1.1 ≤ 5) (hw : 1 ≤ y2.1 ∧ y2.1 ≤ y1.1) (h3 : 0 ≤ y3.1 ∧ y3.1 ≤ 12) (h4 : y4.1 = (last : Int)) (h5 : last ≤ 4)
    (l : List Int) (t : Tp) (ht : wf t = true) (hl : l.length ≤ 1000) (hok : Ok (y1.1 + y2.1 + y3.1) last (y1.1 + y2.1) l) :
    ∃ e, Loop (g3_s2 y1 y2 y3 y4) ((0 : Int), Sp37.blocks l (y1.1 + y2.1 + y3.1) last, t, l, ()) = some e ∧ e = (false, (false, ()), ()) := by
  have e1 : IntKind.wrap .i64 (y1.1 + y2.1) = y1.1 + y2.1 := wi64 (by omega) (by omega)
  have e2 : IntKind.wrap .i64 (y1.1 + y2.1 + y3.1) = y1.1 + y2.1 + y3.1 := wi64 (by omega) (by omega)
  have hbp : 0 < y1.1 + y2.1 + y3.1 := by omega
  refine Loop_post (fun v : Int × List Int × Tp × List Int × Unit => 0 ≤ v.1 ∧ v.1 ≤ 4 ∧ wf v.2.2.1 = true ∧ v.2.2.2.1.length ≤ 1000 ∧ Ok (y1.1 + y2.1 + y3.1) last (y1.1 + y2.1) v.2.2.2.1 ∧ v.2.1 = Sp37.blocks v.2.2.2.1 (y1.1 + y2.1 + y3.1) last) (fun v : Int × List Int × Tp × List Int × Unit => (4 - v.1).toNat) _ ?_
    (v := (0, Sp37.blocks l (y1.1 + y2.1 + y3.1) last, t, l, ())) ⟨by simp, by simp, ht, hl, hok, rfl⟩
  rintro ⟨hop, up, t, l, ⟨⟩⟩ ⟨k1, k2, k3, k4, k5, k6⟩
  simp only at k1 k2 k3 k4 k5 k6
  subst k6
  unfold g3_s2
  by_cases hi : hop < 4
  · right
    obtain ⟨p1, p2, p3⟩ := passes_ok (t := t) hbp (by omega) k3 k5
    have hlen := p2.length_le
    obtain ⟨q1, q2, q3, q4⟩ := counted (g := y1.1) (w := y2.1) (t := (passes t l (y1.1 + y2.1 + y3.1) (y1.1 + y2.1)).2) hbp (by omega) (by omega) (show (passes t l (y1.1 + y2.1 + y3.1) (y1.1 + y2.1)).1.length ≤ 1000 by omega) p1 p3
    have hin1 : inBlocks l (y1.1 + y2.1 + y3.1) 1000 = true := inBlocks_of fun x hx => ⟨(k5.1 x hx).1, by have := (k5.1 x hx).2; omega⟩
    have hin2 : inBlocks (passes t l (y1.1 + y2.1 + y3.1) (y1.1 + y2.1)).1 (y1.1 + y2.1 + y3.1) last = true := inBlocks_of p3.1
    have hnn : ∀ x ∈ l, 0 ≤ x / (y1.1 + y2.1 + y3.1) ∧ x / (y1.1 + y2.1 + y3.1) ≤ last := fun x hx => ⟨Int.ediv_nonneg (k5.1 x hx).1 (by omega), (k5.1 x hx).2⟩
    have htot := loss_total p2 k4 hnn
    have e3 : IntKind.wrap .i64 (hop + 1) = hop + 1 := wi64 (by omega) (by omega)
    have e4 : IntKind.wrap .i64 ((l.length : Int) - ((passes t l (y1.1 + y2.1 + y3.1) (y1.1 + y2.1)).1.length : Int)) = (l.length : Int) - ((passes t l (y1.1 + y2.1 + y3.1) (y1.1 + y2.1)).1.length : Int) := wi64 (by omega) (by omega)
    have c1 : l.length ≤ 1000000 := by omega
    have c2 : (passes t l (y1.1 + y2.1 + y3.1) (y1.1 + y2.1)).1.length ≤ 1000000 := by omega
    have c3 : y2.1 ≤ 1000 := by omega
    have c4 : (0 : Int) ≤ y4.1 := by omega
    have c5 : y4.1 ≤ 100000 := by omega
    have c6 : ((shuffled (passes t l (y1.1 + y2.1 + y3.1) (y1.1 + y2.1)).2 (passes t l (y1.1 + y2.1 + y3.1) (y1.1 + y2.1)).1 y2.1).1.all fun y7 => decide (0 ≤ y7)) = true := List.all_eq_true.2 fun x hx => by simpa using q2 x hx
    have hin3 : inBlocks (passes t l (y1.1 + y2.1 + y3.1) (y1.1 + y2.1)).1 (y1.1 + y2.1 + y3.1) y4.1 = true := by rw [h4]; exact hin2
    have hp1 := path1 y1 (hop, Sp37.blocks l (y1.1 + y2.1 + y3.1) last, t, l, ()) (cols (shuffled (passes t l (y1.1 + y2.1 + y3.1) (y1.1 + y2.1)).2 (passes t l (y1.1 + y2.1 + y3.1) (y1.1 + y2.1)).1 y2.1).1 (y1.1 + y2.1 + y3.1), ()) (Sp37.blocks (passes t l (y1.1 + y2.1 + y3.1) (y1.1 + y2.1)).1 (y1.1 + y2.1 + y3.1) y4.1, ())
      (by simp only; rw [q4, h4]) (by simp only [blocks_len]; omega) (by simp only [blocks_len]; omega)
    simp only [hi, e1, e2, hbp, k3, hin1, c1, p1, hw.1, c3, c2, c6, c4, c5, hin3, decide_true, Bool.and_self, cond_true, on_true, Option.bind_some]
    simp only [hp1, Option.bind_some, cond_false]
    simp only [q4, h4, htot, e3, e4, Int.ofNat_eq_natCast, decide_true, Bool.not_true, Bool.not_false, cond_true, cond_false, Option.bind_some]
    refine ⟨_, rfl, ⟨by simp only; omega, by simp only; omega, q1, by simp only; omega, p3, rfl⟩, by simp only; omega⟩
  · left
    exact ⟨_, by simp only [hi, decide_false, cond_false], rfl⟩

theorem path0 (y1 y2 y3 y4 : Int × Tp) (hg : 1 ≤ y1.1 ∧ y1.1 ≤ 5) (hw : 1 ≤ y2.1 ∧ y2.1 ≤ y1.1) (h3 : 0 ≤ y3.1 ∧ y3.1 ≤ 12) (h4 : 1 ≤ y4.1 ∧ y4.1 ≤ 4) :
    Loop (g3_s0 y1 y2 y3 y4) ([], (0 : Int), ()) = some ((List.range ((y4.1 + 1) * (y1.1 + y2.1 + y3.1)).toNat).map fun i : Nat => (i : Int), ()) := by
  have e1 : IntKind.wrap .i64 (y1.1 + y2.1) = y1.1 + y2.1 := wi64 (by omega) (by omega)
  have e2 : IntKind.wrap .i64 (y1.1 + y2.1 + y3.1) = y1.1 + y2.1 + y3.1 := wi64 (by omega) (by omega)
  have e3 : IntKind.wrap .i64 (y4.1 + 1) = y4.1 + 1 := wi64 (by omega) (by omega)
  have hm0 : 0 ≤ (y4.1 + 1) * (y1.1 + y2.1 + y3.1) := Int.mul_nonneg (by omega) (by omega)
  have hm1 : (y4.1 + 1) * (y1.1 + y2.1 + y3.1) ≤ 5 * 22 := Int.le_trans (Int.mul_le_mul_of_nonneg_right (show y4.1 + 1 ≤ 5 by omega) (by omega)) (Int.mul_le_mul_of_nonneg_left (by omega) (by omega))
  have e4 : IntKind.wrap .i64 ((y4.1 + 1) * (y1.1 + y2.1 + y3.1)) = (y4.1 + 1) * (y1.1 + y2.1 + y3.1) := wi64 (by omega) (by omega)
  refine Loop_inv (fun v : List Int × Int × Unit => 0 ≤ v.2.1 ∧ v.2.1 ≤ (y4.1 + 1) * (y1.1 + y2.1 + y3.1) ∧ v.1 = (List.range v.2.1.toNat).map fun i : Nat => (i : Int)) (fun v : List Int × Int × Unit => ((y4.1 + 1) * (y1.1 + y2.1 + y3.1) - v.2.1).toNat)
    (fun _ => ((List.range ((y4.1 + 1) * (y1.1 + y2.1 + y3.1)).toNat).map fun i : Nat => (i : Int), ())) ?_ (v := ([], 0, ())) ⟨by simp, by simpa using hm0, rfl⟩
  rintro ⟨l, i, ⟨⟩⟩ ⟨k1, k2, k3⟩
  simp only at k1 k2 k3
  subst k3
  unfold g3_s0
  simp only [e1, e2, e3, e4]
  generalize hM : (y4.1 + 1) * (y1.1 + y2.1 + y3.1) = M at *
  by_cases hi : i < M
  · right
    have e5 : IntKind.wrap .i64 (i + 1) = i + 1 := wi64 (by omega) (by omega)
    simp only [hi, e5, decide_true, cond_true]
    rw [ble_t (by simp; omega), cond_true]
    refine ⟨_, rfl, ⟨by simp only; omega, by simp only; omega, ?_⟩, by simp only; omega, trivial⟩
    simp only
    rw [show (i + 1).toNat = i.toNat + 1 by omega, List.range_succ, List.map_append]
    simp only [List.map_cons, List.map_nil, Int.toNat_of_nonneg k1]
  · left
    have : i = M := by omega
    subst this
    simp only [hi, decide_false, cond_false]

theorem g3_ok (a0 : (List Int)) (r0 : (Ty.sl (.int .i64)).ok a0) : g3 a0 = some (true, ()) := by
  unfold g3
  have w0 := tape_wf a0
  have w1 := range_wf (a := 1) (b := 5) w0
  have r1 := range_in (t := Sp37.tape a0) (a := 1) (b := 5) (by omega)
  generalize hy1 : range (Sp37.tape a0) 1 5 = y1 at w1 r1
  have w2 := range_wf (a := 1) (b := y1.1) w1
  have r2 := range_in (t := y1.2) (a := 1) (b := y1.1) (by omega)
  generalize hy2 : range y1.2 1 y1.1 = y2 at w2 r2
  have w3 := next_wf (n := 12) w2
  have r3 := next_range (t := y2.2) (n := 12) (by omega)
  generalize hy3 : next y2.2 12 = y3 at w3 r3
  have w4 := range_wf (a := 1) (b := 4) w3
  have r4 := range_in (t := y3.2) (a := 1) (b := 4) (by omega)
  generalize hy4 : range y3.2 1 4 = y4 at w4 r4
  have s1 : small 1 = true := rfl
  have s5 : small 5 = true := rfl
  have s4 : small 4 = true := rfl
  have sy : small y1.1 = true := small_iff.2 (by omega)
  have e1 : IntKind.wrap .i64 (y1.1 + y2.1) = y1.1 + y2.1 := wi64 (by omega) (by omega)
  have e2 : IntKind.wrap .i64 (y1.1 + y2.1 + y3.1) = y1.1 + y2.1 + y3.1 := wi64 (by omega) (by omega)
  have hbp : 0 < y1.1 + y2.1 + y3.1 := by omega
  have hm0 : 0 ≤ (y4.1 + 1) * (y1.1 + y2.1 + y3.1) := Int.mul_nonneg (by omega) (by omega)
  have hm1 : (y4.1 + 1) * (y1.1 + y2.1 + y3.1) ≤ 5 * 22 := Int.le_trans (Int.mul_le_mul_of_nonneg_right (show y4.1 + 1 ≤ 5 by omega) (by omega)) (Int.mul_le_mul_of_nonneg_left (by omega) (by omega))
  have hlast : y4.1 = ((y4.1.toNat : Nat) : Int) := by omega
  have hok := start_ok (b := y1.1 + y2.1 + y3.1) (least := y1.1 + y2.1) (last := y4.1.toNat) hbp (by omega) ((y4.1 + 1) * (y1.1 + y2.1 + y3.1)).toNat (by rw [← hlast]; omega)
  have hin : inBlocks ((List.range ((y4.1 + 1) * (y1.1 + y2.1 + y3.1)).toNat).map fun i : Nat => (i : Int)) (y1.1 + y2.1 + y3.1) y4.1 = true := by
    have h := inBlocks_of hok.1
    rw [← hlast] at h
    exact h
  have c4 : (0 : Int) ≤ y4.1 := by omega
  have c5 : y4.1 ≤ 100000 := by omega
  obtain ⟨e, l2, rfl⟩ := path2 y1 y2 y3 y4 y4.1.toNat r1 r2 (by omega) hlast (by omega) _ y4.2 w4 (by simp; omega) hok
  rw [← hlast] at l2
  simp only [w0, s1, s5, s4, sy, Bool.and_self, on_true, Option.bind_some, hy1, w1, hy2, w2, hy3, w3, hy4, path0 y1 y2 y3 y4 r1 r2 (by omega) r4, e1, e2, hbp, c4, c5, hin, decide_true, l2, cond_false]
end Go.Abs.C37

/- Chapter 37: the law CountPath keeps the contract. -/
namespace Go.Abs.C37
open Go Go.Proofs
theorem ok3 : FunOk Try.prog B 3 c3 := glue L18 all18 plan3 Try.func3 (by kernel_rfl) (by
  rintro ⟨⟨⟩, a0, ⟨⟩⟩ y r h
  exact (g3_eq a0).trans ((g3_ok a0 r.2.1).trans h))
end Go.Abs.C37
