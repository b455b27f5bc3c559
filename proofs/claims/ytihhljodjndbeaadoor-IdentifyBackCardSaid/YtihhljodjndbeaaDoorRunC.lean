/- Chapter 10 (sets): proved is that functions that the laws reach keep their contracts (tapes, counts, plans, resolutions, bits); no conditions but those that each theorem states. -/
import Derived.Test.YtihhljodjndbeaaDoorRunB
import Derived.Sort.AssemblyPlain
import Derived.Lib.TrailingZeros
set_option linter.unusedVariables false
set_option linter.unusedSimpArgs false
namespace Go.Abs.C1D
open Go Go.Proofs Sp1D
set_option maxRecDepth 100000

theorem take_tw {α : Type} (p : α → Bool) : ∀ l : List α, l.take (l.takeWhile p).length = l.takeWhile p
  | [] => rfl
  | x :: r => by
    rw [List.takeWhile_cons]
    cases p x with
    | true => 
      simp only [if_true, List.length_cons, List.take_succ_cons]
      rw [take_tw p r]
    | false => rfl
theorem drop_tw {α : Type} (p : α → Bool) : ∀ l : List α, l.drop (l.takeWhile p).length = l.dropWhile p
  | [] => rfl
  | x :: r => by
    rw [List.takeWhile_cons, List.dropWhile_cons]
    cases p x with
    | true =>
      simp only [if_true, List.length_cons, List.drop_succ_cons]
      rw [drop_tw p r]
    | false => rfl
theorem tw_le {α : Type} (p : α → Bool) (l : List α) : (l.takeWhile p).length ≤ l.length := by
  have := congrArg List.length (take_tw p l)
  rw [List.length_take] at this
  omega
theorem at_loop (a0 : List Lk) (i : Nat) (hi : i < a0.length) (out : List Lk) (ho : out.length ≤ 20000) (z : List Lk × Unit) : ∀ j k, k + j = out.length →
    Loop (g23_s0 a0 ((i : Int), z)) ((k : Int), (out, ())) = some (((k + ((out.drop k).takeWhile (fun y => lessL y (a0.getD i zL))).length : Nat) : Int), (out, ()))
  | 0, k, hk => by
    have hk : k = out.length := by omega
    subst hk
    rw [Loop_step, List.drop_length]
    unfold g23_s0
    simp only [Int.ofNat_eq_natCast]
    rw [decide_eq_false (show ¬ (out.length : Int) < (out.length : Int) by omega)]
    rfl
  | j + 1, k, hk => by
    have hlt : k < out.length := by omega
    have e2 : IntKind.wrap .i64 ((k : Int) + 1) = ((k + 1 : Nat) : Int) := by rw [wi64 (by omega) (by omega)]; omega
    have hs : g23_s0 a0 ((i : Int), z) ((k : Int), (out, ())) = bif lessL (out.getD k zL) (a0.getD i zL) then some (.inl (((k + 1 : Nat) : Int), (out, ()))) else some (.inr ((k : Int), (out, ()))) := by
      unfold g23_s0 lessL
      simp only [Int.ofNat_eq_natCast, Int.toNat_natCast, e2]
      rw [decide_eq_true (show (k : Int) < (out.length : Int) by omega), decide_eq_true (show (0 : Int) ≤ (k : Int) by omega), decide_eq_true (show (0 : Int) ≤ (i : Int) by omega), decide_eq_true (show (i : Int) < (a0.length : Int) by omega), show Nat.blt k out.length = true from Nat.ble_eq_true_of_le hlt]
      have d1 : decide ((out.getD k (0, 0, 0, 0, 0, ())).1 < (a0.getD i (0, 0, 0, 0, 0, ())).1) = decide ((out.getD k zL).1 < (a0.getD i zL).1) := rfl
      have d2 : decide ((out.getD k (0, 0, 0, 0, 0, ())).1 = (a0.getD i (0, 0, 0, 0, 0, ())).1) = decide ((out.getD k zL).1 = (a0.getD i zL).1) := rfl
      have d3 : decide ((out.getD k (0, 0, 0, 0, 0, ())).2.1 < (a0.getD i (0, 0, 0, 0, 0, ())).2.1) = decide ((out.getD k zL).2.1 < (a0.getD i zL).2.1) := rfl
      rw [d1, d2, d3]
      cases decide ((out.getD k zL).1 < (a0.getD i zL).1) with
      | true => rfl
      | false =>
        cases decide ((out.getD k zL).1 = (a0.getD i zL).1) with
        | false => rfl
        | true => cases decide ((out.getD k zL).2.1 < (a0.getD i zL).2.1) <;> rfl
    rw [Loop_step, hs, List.drop_eq_getElem_cons hlt, List.takeWhile_cons, getD_ix hlt]
    cases lessL out[k] (a0.getD i zL) with
    | false => rfl
    | true =>
      have ih := at_loop a0 i hi out ho z j (k + 1) (by omega)
      simp only [cond_true, if_true, List.length_cons]
      rw [ih]
      congr 2
      omega
theorem ins_len (x : Lk) (l : List Lk) : (ins x l).length = l.length + 1 := by
  unfold ins
  rw [List.length_append, List.length_cons, ← take_tw, ← drop_tw, List.length_take, List.length_drop]
  have := tw_le (fun y => lessL y x) l
  omega
theorem ordN_len (l : List Lk) : ∀ k, (ordN l k).length = k
  | 0 => rfl
  | k + 1 => by rw [ordN, ins_len, ordN_len l k]
theorem ord_len (l : List Lk) : (ord l).length = l.length := ordN_len l _
theorem g23_ok (a0 : (List (Int × (Int × (Int × (Int × (Int × Unit))))))) (r0 : (Ty.sl (lkT)).ok a0) (h : (decide (a0.length ≤ 10000)) = true) : g23 a0 = some (Sp1D.ord a0, ()) := by
  have hl : a0.length ≤ 10000 := of_decide_eq_true h
  have key : ∀ j k, k + j = a0.length → Loop (g23_s1 a0) ((k : Int), (ordN a0 k, ())) = some (ord a0, ()) := by
    intro j
    induction j with
    | zero =>
      intro k hk
      have hk : k = a0.length := by omega
      subst hk
      rw [Loop_step]
      unfold g23_s1
      simp only [Int.ofNat_eq_natCast]
      rw [decide_eq_false (show ¬ (a0.length : Int) < (a0.length : Int) by omega)]
      rfl
    | succ j ih =>
      intro k hk
      have hlt : k < a0.length := by omega
      have e2 : IntKind.wrap .i64 ((k : Int) + 1) = ((k + 1 : Nat) : Int) := by rw [wi64 (by omega) (by omega)]; omega
      have hol := ordN_len a0 k
      have hs : g23_s1 a0 ((k : Int), (ordN a0 k, ())) = some (.inl (((k + 1 : Nat) : Int), (ordN a0 (k + 1), ()))) := by
        have hat := at_loop a0 k hlt (ordN a0 k) (by omega) (ordN a0 k, ()) (ordN a0 k).length 0 (by omega)
        have hat : Loop (g23_s0 a0 ((k : Int), (ordN a0 k, ()))) ((0 : Int), (ordN a0 k, ())) = some ((((((ordN a0 k).drop 0).takeWhile (fun y => lessL y (a0.getD k zL))).length + 0 : Nat) : Int), (ordN a0 k, ())) := by
          rw [Nat.add_comm]; exact hat
        rw [List.drop_zero, Nat.add_zero] at hat
        have hle := tw_le (fun y => lessL y (a0.getD k zL)) (ordN a0 k)
        have ht := take_tw (fun y => lessL y (a0.getD k zL)) (ordN a0 k)
        have hd := drop_tw (fun y => lessL y (a0.getD k zL)) (ordN a0 k)
        rw [ordN]
        unfold ins
        rw [← ht, ← hd]
        generalize ((ordN a0 k).takeWhile (fun y => lessL y (a0.getD k zL))).length = m at hat hle
        generalize ordN a0 k = out at hat hle hol ⊢
        unfold g23_s1
        simp only [Int.ofNat_eq_natCast, Int.toNat_natCast, e2]
        rw [decide_eq_true (show (k : Int) < (a0.length : Int) by omega), hat]
        simp only [Option.bind_some, Int.toNat_natCast, List.drop_zero, List.take_length, List.nil_append]
        rw [decide_eq_true (show (0 : Int) ≤ (m : Int) by omega), decide_eq_true (show (m : Int) ≤ (out.length : Int) by omega), decide_eq_true (show (0 : Int) ≤ (k : Int) by omega), decide_eq_true (show (out.length : Int) ≤ (out.length : Int) from Int.le_refl _),
          show Nat.ble ((0 + (out.take m).length) * 40) 140737488355328 = true from Nat.ble_eq_true_of_le (by rw [List.length_take]; omega), show Nat.ble (((out.take m).length + 1) * 40) 140737488355328 = true from Nat.ble_eq_true_of_le (by rw [List.length_take]; omega),
          show Nat.ble (((out.take m ++ [a0.getD k (0, 0, 0, 0, 0, ())]).length + (out.drop m).length) * 40) 140737488355328 = true from Nat.ble_eq_true_of_le (by rw [List.length_append, List.length_take, List.length_drop]; show (min m out.length + 1 + (out.length - m)) * 40 ≤ _; omega)]
        simp only [Bool.and_self, cond_true, List.append_assoc]
        rfl
      rw [Loop_step, hs]
      exact ih (k + 1) (by omega)
  have hk := key a0.length 0 (by omega)
  have hk : Loop (g23_s1 a0) (0, ([], ())) = _ := hk
  unfold g23
  rw [hk]
  rfl
theorem lkIn_wf {cost tree : Int} {skip : Bool} {b a : Int} {s : List Lk × Tp} (h : wf s.2 = true) : wf (linkIn cost tree skip b a s).2 = true ∧ (linkIn cost tree skip b a s).1.length ≤ s.1.length + 1 := by
  unfold linkIn
  simp only
  have hc : wf (bif decide (a = tree) && !skip then (true, s.2) else one s.2 3).2 = true := by
    cases (decide (a = tree) && !skip) with
    | true => exact h
    | false => exact one_wf (n := 3) h
  generalize (bif decide (a = tree) && !skip then (true, s.2) else one s.2 3) = c at hc ⊢
  cases c.1 with
  | true => exact ⟨next_wf (n := 4) (range_wf (a := 1) (b := cost) (range_wf (a := 1) (b := cost) hc)), by simp only [cond_true, List.length_append, List.length_cons, List.length_nil]; omega⟩
  | false => exact ⟨hc, by simp only [cond_false]; omega⟩
theorem row_wf {cost tree : Int} {skip : Bool} {b : Int} {s : List Lk × Tp} (h : wf s.2 = true) : ∀ k, wf (linksRow cost tree skip b s k).2 = true ∧ (linksRow cost tree skip b s k).1.length ≤ s.1.length + k
  | 0 => ⟨h, Nat.le_refl _⟩
  | k + 1 => by
    obtain ⟨h1, h2⟩ := row_wf (cost := cost) (tree := tree) (skip := skip) (b := b) h k
    obtain ⟨h3, h4⟩ := lkIn_wf (cost := cost) (tree := tree) (skip := skip) (b := b) (a := (k : Int) + 1) h1
    exact ⟨h3, Nat.le_trans h4 (by omega)⟩
theorem all_wf {cost : Int} {t : Tp} (h : wf t = true) : ∀ k, wf (linksAll cost t k).2 = true ∧ (linksAll cost t k).1.length ≤ k * (k + 1)
  | 0 => ⟨h, Nat.le_refl _⟩
  | k + 1 => by
    obtain ⟨h1, h2⟩ := all_wf (cost := cost) h k
    rw [linksAll]
    have h3 := one_wf (n := 9) (range_wf (a := 1) (b := (k : Int) + 1) h1)
    obtain ⟨h4, h5⟩ := row_wf (cost := cost) (tree := (range (linksAll cost t k).2 1 ((k : Int) + 1)).1) (skip := (one (range (linksAll cost t k).2 1 ((k : Int) + 1)).2 9).1) (b := (k : Int) + 2) (s := ((linksAll cost t k).1, (one (range (linksAll cost t k).2 1 ((k : Int) + 1)).2 9).2)) h3 (k + 1)
    refine ⟨h4, Nat.le_trans h5 ?_⟩
    simp only
    have : (k + 1) * (k + 1 + 1) = k * (k + 1) + 2 * (k + 1) := by rw [Nat.add_mul, Nat.mul_add k (k + 1) 1]; omega
    omega
end Go.Abs.C1D

namespace Go.Abs.C1D
open Go Go.Proofs Sp1D
set_option maxRecDepth 100000

theorem on_w {α : Type} {t : Tp} (h : wf t = true) (x : α) : Sp1D.on (wf t) x = some x := on_true h
theorem on_ws {α : Type} {t : Tp} (h : wf t = true) {n : Int} (hn : -2305843009213693952 ≤ n ∧ n ≤ 2305843009213693952) (x : α) : Sp1D.on (wf t && small n) x = some x := on_true (by rw [h, small_iff.2 hn]; rfl)
theorem on_wss {α : Type} {t : Tp} (h : wf t = true) {a n : Int} (ha : -2305843009213693952 ≤ a ∧ a ≤ 2305843009213693952) (hn : -2305843009213693952 ≤ n ∧ n ≤ 2305843009213693952) (x : α) : Sp1D.on (wf t && small a && small n) x = some x := on_true (by rw [h, small_iff.2 ha, small_iff.2 hn]; rfl)
theorem pick_mem (t : Tp) {l : List Int} (hl : 0 < l.length) : (Sp1D.pick t l).1 ∈ l := by
  have hb := next_range (t := t) (n := (l.length : Int)) (by omega)
  show l.getD (next t l.length).1.toNat 0 ∈ l
  exact getD_mem (by omega)
theorem pick_cost (t : Tp) : 1 ≤ (Sp1D.pick t [1, 2, 2, 5]).1 ∧ (Sp1D.pick t [1, 2, 2, 5]).1 ≤ 5 := by
  have h := pick_mem t (l := [1, 2, 2, 5]) (by decide)
  simp only [List.mem_cons, List.not_mem_nil, or_false] at h
  omega
theorem routersN_succ (k : Nat) : routersN (k + 1) = routersN k ++ [((k : Int) + 1, true, ())] := by
  unfold routersN
  rw [List.range_succ, List.map_append]
  rfl
theorem routersN_len (k : Nat) : (routersN k).length = k := by
  unfold routersN; rw [List.length_map, List.length_range]

theorem loop30_0 (y4 : Int × Tp) (N : Nat) (hN : y4.1 = (N : Int)) (hle : N ≤ 50) (ls : List Lk × Unit) : ∀ j k, k + j = N →
    Loop (g7_s0 y4) ((routersN k, ls), (k : Int) + 1, ()) = some ((routersN N, ls), ())
  | 0, k, hk => by
    have hk : k = N := by omega
    subst hk
    rw [Loop_step]
    unfold g7_s0
    simp only [hN]
    rw [decide_eq_false (show ¬ (k : Int) + 1 ≤ (k : Int) by omega)]
    rfl
  | j + 1, k, hk => by
    have ih := loop30_0 y4 N hN hle ls j (k + 1) (by omega)
    have e2 : IntKind.wrap .i64 ((k : Int) + 1 + 1) = ((k + 1 : Nat) : Int) + 1 := by rw [wi64 (by omega) (by omega)]; omega
    rw [routersN_succ] at ih
    have hs : g7_s0 y4 ((routersN k, ls), (k : Int) + 1, ()) = some (.inl ((routersN k ++ [((k : Int) + 1, true, ())], ls), ((k + 1 : Nat) : Int) + 1, ())) := by
      unfold g7_s0
      simp only [hN, e2, routersN_len]
      rw [decide_eq_true (show (k : Int) + 1 ≤ (N : Int) by omega), show Nat.ble ((k + 1) * 16) 140737488355328 = true from Nat.ble_eq_true_of_le (by omega)]
      rfl
    rw [Loop_step, hs]
    exact ih

theorem step30_1 (c : Int × Tp) (st : Int × Tp × To × Unit) (tr : Int × Tp) (sk : Bool × Tp) (rs : List Rt) (hc : 1 ≤ c.1 ∧ c.1 ≤ 5) {a : Int} (ha : 0 ≤ a) (hab : a < st.1) (hb : st.1 ≤ 100)
    (s : List Lk × Tp) (hs : wf s.2 = true) (hl : s.1.length ≤ 20000) :
    g7_s1 c st tr sk (a, s.2, (rs, s.1, ()), ()) = some (.inl (a + 1, (linkIn c.1 tr.1 sk.1 st.1 a s).2, (rs, (linkIn c.1 tr.1 sk.1 st.1 a s).1, ()), ())) := by
  have e2 : IntKind.wrap .i64 (a + 1) = a + 1 := wi64 (by omega) (by omega)
  unfold g7_s1 linkIn
  simp only [e2]
  rw [decide_eq_true hab, on_ws hs (by decide)]
  have key : ∀ o : Bool × Tp, wf o.2 = true → (Option.bind (bif o.1 then (Option.bind (Sp1D.on (wf o.2 && small 1 && small c.1) (range o.2 1 c.1)) fun y6 =>
        Option.bind (Sp1D.on (wf y6.2 && small 1 && small c.1) (range y6.2 1 c.1)) fun y7 => Option.bind (Sp1D.on (wf y7.2) (next y7.2 4)) fun y8 =>
        bif Nat.ble ((s.1.length + 1) * 40) 140737488355328 then some (y8.2, (rs, s.1 ++ [(a, st.1, y6.1, y7.1, y8.1, ())], ()), ()) else none) else some (o.2, (rs, s.1, ()), ()))
        fun y6 : Tp × To × Unit => some (Sum.inl (a + 1, y6)) : Option (Sum (Int × Tp × To × Unit) (Tp × To × Unit))) =
      some (.inl (a + 1, (bif o.1 then (s.1 ++ [(a, st.1, (range o.2 1 c.1).1, (range (range o.2 1 c.1).2 1 c.1).1, (next (range (range o.2 1 c.1).2 1 c.1).2 4).1, ())], (next (range (range o.2 1 c.1).2 1 c.1).2 4).2) else (s.1, o.2)).2,
        (rs, (bif o.1 then (s.1 ++ [(a, st.1, (range o.2 1 c.1).1, (range (range o.2 1 c.1).2 1 c.1).1, (next (range (range o.2 1 c.1).2 1 c.1).2 4).1, ())], (next (range (range o.2 1 c.1).2 1 c.1).2 4).2) else (s.1, o.2)).1, ()), ())) := by
    intro o ho
    have w1 := range_wf (a := 1) (b := c.1) ho
    have w2 := range_wf (a := 1) (b := c.1) w1
    cases o.1 with
    | false => rfl
    | true =>
      rw [on_wss ho (by decide) (by omega)]
      simp only [Option.bind_some, cond_true]
      rw [on_wss w1 (by decide) (by omega)]
      simp only [Option.bind_some, cond_true]
      rw [on_w w2, show Nat.ble ((s.1.length + 1) * 40) 140737488355328 = true from Nat.ble_eq_true_of_le (by omega)]
      rfl
  cases decide (a = tr.1) with
  | false => 
    have := key (one s.2 3) (one_wf (n := 3) hs)
    exact this
  | true =>
    cases sk.1 with
    | true =>
      have := key (one s.2 3) (one_wf (n := 3) hs)
      exact this
    | false =>
      have := key (true, s.2) hs
      exact this
theorem loop30_1 (c : Int × Tp) (st : Int × Tp × To × Unit) (tr : Int × Tp) (sk : Bool × Tp) (rs : List Rt) (hc : 1 ≤ c.1 ∧ c.1 ≤ 5) (m : Nat) (hm : st.1 = (m : Int) + 1) (hb : m ≤ 99)
    (s : List Lk × Tp) (hs : wf s.2 = true) (hl : s.1.length ≤ 10000) : ∀ j k, k + j = m →
    Loop (g7_s1 c st tr sk) ((k : Int) + 1, (linksRow c.1 tr.1 sk.1 st.1 s k).2, (rs, (linksRow c.1 tr.1 sk.1 st.1 s k).1, ()), ()) = some ((linksRow c.1 tr.1 sk.1 st.1 s m).2, (rs, (linksRow c.1 tr.1 sk.1 st.1 s m).1, ()), ())
  | 0, k, hk => by
    have hk : k = m := by omega
    subst hk
    rw [Loop_step]
    unfold g7_s1
    simp only
    rw [decide_eq_false (show ¬ (k : Int) + 1 < st.1 by omega)]
    rfl
  | j + 1, k, hk => by
    obtain ⟨w, l⟩ := row_wf (cost := c.1) (tree := tr.1) (skip := sk.1) (b := st.1) hs k
    rw [Loop_step, step30_1 c st tr sk rs hc (a := (k : Int) + 1) (by omega) (by omega) (by omega) _ w (by omega)]
    exact loop30_1 c st tr sk rs hc m hm hb s hs hl j (k + 1) (by omega)
theorem loop30_2 (y4 y6 : Int × Tp) (rs : List Rt) (hc : 1 ≤ y6.1 ∧ y6.1 ≤ 5) (N : Nat) (hN : y4.1 = (N : Int) + 1) (hle : N ≤ 49) (t : Tp) (ht : wf t = true) : ∀ j k, k + j = N →
    Loop (g7_s2 y4 y6) ((k : Int) + 2, (linksAll y6.1 t k).2, (rs, (linksAll y6.1 t k).1, ()), ()) = some ((linksAll y6.1 t N).2, (rs, (linksAll y6.1 t N).1, ()), ())
  | 0, k, hk => by
    have hk : k = N := by omega
    subst hk
    rw [Loop_step]
    unfold g7_s2
    simp only
    rw [decide_eq_false (show ¬ (k : Int) + 2 ≤ y4.1 by omega)]
    rfl
  | j + 1, k, hk => by
    have ih := loop30_2 y4 y6 rs hc N hN hle t ht j (k + 1) (by omega)
    obtain ⟨w, l⟩ := all_wf (cost := y6.1) ht k
    have hk2 : k * (k + 1) ≤ 49 * 50 := Nat.mul_le_mul (by omega) (by omega)
    have e1 : IntKind.wrap .i64 ((k : Int) + 2 - 1) = (k : Int) + 1 := by rw [wi64 (by omega) (by omega)]; omega
    have e2 : IntKind.wrap .i64 ((k : Int) + 2 + 1) = ((k + 1 : Nat) : Int) + 2 := by rw [wi64 (by omega) (by omega)]; omega
    have w1 := range_wf (a := 1) (b := (k : Int) + 1) w
    have w2 := one_wf (n := 9) w1
    have h1 := loop30_1 y6 ((k : Int) + 2, (linksAll y6.1 t k).2, (rs, (linksAll y6.1 t k).1, ()), ()) (range (linksAll y6.1 t k).2 1 ((k : Int) + 1)) (one (range (linksAll y6.1 t k).2 1 ((k : Int) + 1)).2 9) rs hc (k + 1) (by simp only; omega) (by omega)
      ((linksAll y6.1 t k).1, (one (range (linksAll y6.1 t k).2 1 ((k : Int) + 1)).2 9).2) w2 (by simp only; omega) (k + 1) 0 (by omega)
    rw [linksRow] at h1
    have h1' : Loop _ ((1 : Int), _) = _ := h1
    have hs : g7_s2 y4 y6 ((k : Int) + 2, (linksAll y6.1 t k).2, (rs, (linksAll y6.1 t k).1, ()), ()) = some (.inl (((k + 1 : Nat) : Int) + 2, (linksAll y6.1 t (k + 1)).2, (rs, (linksAll y6.1 t (k + 1)).1, ()), ())) := by
      unfold g7_s2
      simp only [e1, e2]
      rw [decide_eq_true (show (k : Int) + 2 ≤ y4.1 by omega), on_wss w (by decide) (by omega)]
      simp only [Option.bind_some, cond_true]
      rw [on_ws w1 (by decide)]
      simp only [Option.bind_some]
      rw [h1']
      rfl
    rw [Loop_step, hs]
    exact ih
end Go.Abs.C1D

namespace Go.Abs.C1D
open Go Go.Proofs Sp1D
set_option maxRecDepth 100000

theorem manyR_len (l : List Rt) : ∀ k, (manyR k l).length = l.length + k
  | 0 => rfl
  | k + 1 => by rw [manyR, List.length_append, manyR_len l k]; rfl
theorem loop30_3 (l : List Rt) (hl : l.length ≤ 1000) (ls : List Lk × Unit) : ∀ j k, k + j = 25 →
    Loop g7_s3 ((manyR k l, ls), (50 : Int) + k, ()) = some ((manyR 25 l, ls), ())
  | 0, k, hk => by
    have hk : k = 25 := by omega
    subst hk
    rw [Loop_step]
    rfl
  | j + 1, k, hk => by
    have ih := loop30_3 l hl ls j (k + 1) (by omega)
    have e2 : IntKind.wrap .i64 ((50 : Int) + k + 1) = (50 : Int) + ((k + 1 : Nat) : Int) := by rw [wi64 (by omega) (by omega)]; omega
    have hs : g7_s3 ((manyR k l, ls), (50 : Int) + k, ()) = some (.inl ((manyR (k + 1) l, ls), (50 : Int) + ((k + 1 : Nat) : Int), ())) := by
      unfold g7_s3
      simp only [e2, manyR_len]
      rw [decide_eq_true (show (50 : Int) + k < 75 by omega), show Nat.ble ((l.length + k + 1) * 16) 140737488355328 = true from Nat.ble_eq_true_of_le (by omega)]
      rfl
    rw [Loop_step, hs]
    exact ih
theorem g7_ok (a0 : (List Int)) (a1 : Int) (a2 : Int) (a3 : Int) (r0 : (Ty.sl (.int .i64)).ok a0) (r1 : IntKind.i64.has a1) (r2 : IntKind.i64.has a2) (r3 : IntKind.i64.has a3) (h : (Sp1D.wf (a0, a1, ()) && Sp1D.inside a2 1 50 && Sp1D.small a3) = true) : g7 a0 a1 a2 a3 = some (Sp1D.topo (a0, a1, ()) a2 a3) := by
  simp only [Bool.and_eq_true, inside_iff, small_iff] at h
  obtain ⟨⟨hw, h1, h2⟩, hs1, hs2⟩ := h
  have w1 := range_wf (a := 1) (b := a2) hw
  have b1 := range_in (t := (a0, a1, ())) (a := 1) (b := a2) h1
  unfold g7 topo
  rw [on_wss hw (by decide) (by omega)]
  simp only [Option.bind_some]
  generalize range (a0, a1, ()) 1 a2 = k at w1 b1 ⊢
  obtain ⟨N, hN⟩ : ∃ N : Nat, k.1 = (N : Int) + 1 := ⟨(k.1 - 1).toNat, by omega⟩
  have h0 : Loop (g7_s0 k) (([], [], ()), (1 : Int), ()) = some ((routersN (N + 1), [], ()), ()) := loop30_0 k (N + 1) (by omega) (by omega) ([], ()) (N + 1) 0 (by omega)
  rw [h0]
  simp only [Option.bind_some]
  rw [on_true (show (wf k.2 && decide (0 < 4) && decide (4 ≤ 1000)) = true by rw [w1]; rfl)]
  simp only [Option.bind_some]
  have w2 := pick_wf (l := [1, 2, 2, 5]) w1
  have b2 := pick_cost k.2
  generalize Sp1D.pick k.2 [1, 2, 2, 5] = c at w2 b2 ⊢
  have h2 : Loop (g7_s2 k c) ((2 : Int), c.2, (routersN (N + 1), [], ()), ()) = some ((linksAll c.1 c.2 N).2, (routersN (N + 1), (linksAll c.1 c.2 N).1, ()), ()) := loop30_2 k c (routersN (N + 1)) b2 N hN (by omega) c.2 w2 N 0 (by omega)
  rw [h2]
  simp only [Option.bind_some]
  obtain ⟨w3, l3⟩ := all_wf (cost := c.1) w2 N
  have hN2 : N * (N + 1) ≤ 49 * 50 := Nat.mul_le_mul (by omega) (by omega)
  rw [show k.1.toNat - 1 = N by omega, show k.1.toNat = N + 1 by omega]
  generalize linksAll c.1 c.2 N = s at w3 l3 ⊢
  rw [on_true (decide_eq_true (show s.1.length ≤ 10000 by omega))]
  simp only [Option.bind_some]
  have lo := ord_len s.1
  have lr := routersN_len (N + 1)
  generalize ord s.1 = ls at lo ⊢
  generalize routersN (N + 1) = rs at lr ⊢
  by_cases ha : 0 < a3
  · rw [decide_eq_true (show a3 > 0 from ha)]
    simp only [cond_true]
    rw [on_ws w3 (by omega)]
    simp only [Option.bind_some]
    have w4 := one_wf (n := a3) w3
    generalize one s.2 a3 = o at w4 ⊢
    cases o.1 with
    | false => rfl
    | true =>
      simp only [cond_true]
      rw [on_w w4]
      simp only [Option.bind_some]
      unfold spoilT
      simp only
      have w5 := next_wf (n := 7) w4
      generalize next o.2 7 = m at w5 ⊢
      have b16 : Nat.ble ((rs.length + 1) * 16) 140737488355328 = true := Nat.ble_eq_true_of_le (by omega)
      have b40 : Nat.ble ((ls.length + 1) * 40) 140737488355328 = true := Nat.ble_eq_true_of_le (by omega)
      have gt : decide ((Int.ofNat ls.length) > (0 : Int)) = decide (0 < ls.length) := by
        by_cases hz : 0 < ls.length
        · rw [decide_eq_true hz]; exact decide_eq_true (by show (0 : Int) < (ls.length : Int); omega)
        · rw [decide_eq_false hz]; exact decide_eq_false (by show ¬ (0 : Int) < (ls.length : Int); omega)
      have nb := next_range (t := m.2) (n := (ls.length : Int))
      have w6 := next_wf (n := (ls.length : Int)) w5
      by_cases m0 : m.1 = 0
      · simp only [decide_eq_true m0, cond_true]
        rw [on_true (show (wf m.2 && decide (0 < 5) && decide (5 ≤ 1000)) = true by rw [w5]; rfl)]
        simp only [Option.bind_some, b16]
        rfl
      · simp only [decide_eq_false m0, cond_false]
        by_cases m1 : m.1 = 1
        · simp only [decide_eq_true m1, cond_true]
          rw [on_w w5]
          simp only [Option.bind_some]
          rw [on_w (next_wf (n := 4) w5)]
          simp only [Option.bind_some, b40]
          rfl
        · simp only [decide_eq_false m1, cond_false]
          by_cases m6 : m.1 = 2 ∨ m.1 = 3 ∨ m.1 = 4 ∨ m.1 = 5
          · by_cases hz : 0 < ls.length
            · have nb := nb (by omega)
              rw [decide_eq_true hz] at gt
              have gt' : decide ((ls.length : Int) > 0) = true := gt
              have g1 : decide ((0 : Int) ≤ (next m.2 (ls.length : Int)).1) = true := decide_eq_true nb.1
              have g2 : decide ((next m.2 (ls.length : Int)).1 < (ls.length : Int)) = true := decide_eq_true nb.2
              have gX3 : Nat.blt (next m.2 (ls.length : Int)).1.toNat ls.length = true := Nat.ble_eq_true_of_le (show _ + 1 ≤ _ by omega)
              rcases m6 with e | e | e | e
              all_goals
                simp only [e, decide_eq_true hz, gt, gt', decide_true, cond_true, cond_false, Int.ofNat_eq_natCast, Option.bind_some, on_w w5, on_w w6, g1, g2, gX3, b40, Bool.and_self]
                rfl
            · rw [decide_eq_false hz] at gt
              rcases m6 with e | e | e | e
              all_goals
                simp only [e, decide_eq_false hz, gt, decide_true, cond_true, cond_false]
                rfl
          · have l3 := loop30_3 rs (by omega) (ls, ()) 25 0 (by omega)
            have l3 : Loop g7_s3 ((rs, ls, ()), (50 : Int), ()) = some ((manyR 25 rs, ls, ()), ()) := l3
            rw [decide_eq_false (show ¬ m.1 = 2 by omega), decide_eq_false (show ¬ m.1 = 3 by omega), decide_eq_false (show ¬ m.1 = 4 by omega), decide_eq_false (show ¬ m.1 = 5 by omega)]
            simp only [cond_false]
            rw [l3]
            rfl
  · rw [decide_eq_false (show ¬ a3 > 0 from ha)]
    rfl
end Go.Abs.C1D

namespace Go.Abs.C1D
open Go Go.Proofs Sp1D
set_option maxRecDepth 100000

theorem spoilT_wf {g : To} {t : Tp} (h : wf t = true) : wf (spoilT g t).2 = true ∧ (spoilT g t).1.1.length ≤ g.1.length + 25 := by
  have w := next_wf (n := 7) h
  unfold spoilT
  simp only
  generalize next t 7 = m at w ⊢
  cases decide (m.1 = 0) with
  | true => exact ⟨pick_wf (l := [0, 1, 99, 100, -1]) w, by simp only [cond_true, List.length_append, List.length_cons, List.length_nil]; omega⟩
  | false =>
  cases decide (m.1 = 1) with
  | true => exact ⟨next_wf (n := 4) (next_wf (n := 4) w), by simp only [cond_true, cond_false]; omega⟩
  | false =>
  have w6 := next_wf (n := (g.2.1.length : Int)) w
  cases decide (m.1 = 2) with
  | true => cases decide (0 < g.2.1.length) with
    | true => exact ⟨wild_wf w6, by simp only [cond_true, cond_false]; omega⟩
    | false => exact ⟨w, by simp only [cond_true, cond_false]; omega⟩
  | false =>
  cases decide (m.1 = 3) with
  | true => cases decide (0 < g.2.1.length) with
    | true => exact ⟨wild_wf w6, by simp only [cond_true, cond_false]; omega⟩
    | false => exact ⟨w, by simp only [cond_true, cond_false]; omega⟩
  | false =>
  cases decide (m.1 = 4) with
  | true => cases decide (0 < g.2.1.length) with
    | true => exact ⟨wild_wf w6, by simp only [cond_true, cond_false]; omega⟩
    | false => exact ⟨w, by simp only [cond_true, cond_false]; omega⟩
  | false =>
  cases decide (m.1 = 5) with
  | true => cases decide (0 < g.2.1.length) with
    | true => exact ⟨w6, by simp only [cond_true, cond_false]; omega⟩
    | false => exact ⟨w, by simp only [cond_true, cond_false]; omega⟩
  | false => exact ⟨w, by simp only [cond_false, manyR_len]; omega⟩
theorem topo_wf {t : Tp} {a n : Int} (hw : wf t = true) (ha : 1 ≤ a ∧ a ≤ 50) : wf (topo t a n).2 = true ∧ (topo t a n).1.1.length ≤ 75 := by
  have w1 := range_wf (a := 1) (b := a) hw
  have b1 := range_in (t := t) (a := 1) (b := a) ha.1
  have w2 := pick_wf (l := [1, 2, 2, 5]) w1
  have w3 := (all_wf (cost := (Sp1D.pick (range t 1 a).2 [1, 2, 2, 5]).1) w2 ((range t 1 a).1.toNat - 1)).1
  have lr := routersN_len (range t 1 a).1.toNat
  unfold topo
  simp only
  generalize linksAll (Sp1D.pick (range t 1 a).2 [1, 2, 2, 5]).1 (Sp1D.pick (range t 1 a).2 [1, 2, 2, 5]).2 ((range t 1 a).1.toNat - 1) = s at w3 ⊢
  generalize routersN (range t 1 a).1.toNat = rs at lr ⊢
  cases decide (0 < n) with
  | false => exact ⟨w3, by simp only [cond_false]; omega⟩
  | true =>
    have w4 := one_wf (n := n) w3
    simp only [cond_true]
    generalize one s.2 n = o at w4 ⊢
    cases o.1 with
    | false => exact ⟨w4, by simp only [cond_false]; omega⟩
    | true =>
      have h := spoilT_wf (g := (rs, ord s.1, ())) w4
      exact ⟨h.1, Nat.le_trans h.2 (by simp only; omega)⟩
end Go.Abs.C1D

namespace Go.Abs.C1D
open Go Go.Proofs Sp1D
set_option maxRecDepth 100000

theorem chk_0 {l : List Ow} (h : chk l = 0) : l.length ≤ 192 ∧ l.any badO = false ∧ upO l = true := by
  unfold chk at h
  by_cases q : 192 < l.length
  · rw [dT q] at h; cases h
  rw [dF q] at h
  cases hb : l.any badO with
  | true => rw [hb] at h; cases h
  | false =>
    cases hu : upO l with
    | false => rw [hb, hu] at h; cases h
    | true => exact ⟨by omega, rfl, rfl⟩
theorem badO_not {o : Ow} (h : badO o = false) : (1 ≤ o.1 ∧ o.1 ≤ 99) ∧ (0 ≤ subO o ∧ subO o ≤ 7) ∧ (1 ≤ idO o ∧ idO o ≤ 256) ∧ vlen (lenO o) = true := by
  unfold badO at h
  rw [Bool.or_eq_false_iff, Bool.or_eq_false_iff, Bool.or_eq_false_iff, Bool.not_eq_false', Bool.not_eq_false', Bool.not_eq_false', Bool.not_eq_false'] at h
  exact ⟨inside_iff.1 h.1.1.1, inside_iff.1 h.1.1.2, inside_iff.1 h.1.2, h.2⟩
theorem chk_mem {l : List Ow} (h : chk l = 0) {o : Ow} (ho : o ∈ l) : badO o = false := by
  have := (chk_0 h).2.1
  rw [List.any_eq_false] at this
  simpa using this o ho
theorem chk_ids {l : List Ow} (h : chk l = 0) : idsOk l = true := by
  unfold idsOk
  rw [List.all_eq_true]
  intro o ho
  have := badO_not (chk_mem h ho)
  exact inside_iff.2 ⟨by omega, this.2.2.1.2⟩
theorem cnt_le (l : List Ow) (s id : Int) : cntI l s id ≤ l.length := List.countP_le_length
theorem cnt_take (l : List Ow) (s id : Int) (k : Nat) (hk : k < l.length) : cntI (l.take (k + 1)) s id = cntI (l.take k) s id + (bif hit s id (l.getD k zO) then 1 else 0) := by
  unfold cntI
  rw [take_succ_getD l k zO hk, List.countP_append, List.countP_singleton]
  cases hit s id (l.getD k zO) <;> rfl
theorem cnt_takele (l : List Ow) (s id : Int) (k : Nat) : cntI (l.take k) s id ≤ k := by
  have := cnt_le (l.take k) s id
  rw [List.length_take] at this
  omega
def rowN (l : List Ow) (s : Int) (k : Nat) : List Int := (List.range 257).map fun (i : Nat) => ((cntI (l.take k) s i : Nat) : Int)
theorem rowN_len (l : List Ow) (s : Int) (k : Nat) : (rowN l s k).length = 257 := by unfold rowN; rw [List.length_map, List.length_range]
theorem rowN_get (l : List Ow) (s : Int) (k i : Nat) (hi : i < 257) : (rowN l s k).getD i 0 = ((cntI (l.take k) s i : Nat) : Int) := by
  unfold rowN
  rw [getD_range_map, if_pos hi]
theorem rowN_set (l : List Ow) (s : Int) (k : Nat) (hk : k < l.length) (hm : subO (l.getD k zO) = s) (h0 : 0 ≤ idO (l.getD k zO)) (h1 : idO (l.getD k zO) < 257) :
    (rowN l s k).set (idO (l.getD k zO)).toNat (((cntI (l.take k) s (idO (l.getD k zO)) + 1 : Nat) : Int)) = rowN l s (k + 1) := by
  refine list_getD_ext 0 (by rw [List.length_set, rowN_len, rowN_len]) fun i hi => ?_
  rw [List.length_set, rowN_len] at hi
  rw [getD_set (by rw [rowN_len]; omega), rowN_get _ _ _ _ hi, rowN_get _ _ _ _ hi, cnt_take l s i k hk]
  unfold hit
  rw [dT hm]
  by_cases q : (idO (l.getD k zO)).toNat = i
  · rw [if_pos q, dT (show idO (l.getD k zO) = (i : Int) by omega), show idO (l.getD k zO) = (i : Int) by omega]
    rfl
  · rw [if_neg q, dF (show ¬ idO (l.getD k zO) = (i : Int) by omega)]
    rfl
theorem rowN_skip (l : List Ow) (s : Int) (k : Nat) (hk : k < l.length) (hm : ¬ subO (l.getD k zO) = s) : rowN l s (k + 1) = rowN l s k := by
  unfold rowN
  refine List.map_congr_left fun i _ => ?_
  rw [cnt_take l s i k hk]
  unfold hit
  rw [dF hm]
  rfl
theorem rowN_zero (l : List Ow) (s : Int) : rowN l s 0 = List.replicate 257 0 := by
  unfold rowN
  rw [List.take_zero]
  rfl
theorem rowN_all (l : List Ow) (s : Int) : rowN l s l.length = counts l s := by
  unfold rowN counts
  rw [List.take_length]
theorem ids_at {l : List Ow} (h : idsOk l = true) {k : Nat} (hk : k < l.length) : 0 ≤ idO (l.getD k zO) ∧ idO (l.getD k zO) ≤ 256 := by
  unfold idsOk at h
  rw [List.all_eq_true] at h
  exact inside_iff.1 (h _ (getD_mem hk))
theorem counts_len (l : List Ow) (s : Int) : (counts l s).length = 257 := by unfold counts; rw [List.length_map, List.length_range]
theorem g55_ok (a0 : (List (Int × ((Int × (Int × (Int × Unit))) × Unit)))) (a1 : Int) (r0 : (Ty.sl (owT)).ok a0) (r1 : IntKind.i64.has a1) (h : (Sp1D.idsOk a0) = true) : g55 a0 a1 = some (Sp1D.counts a0 a1, ()) := by
  have hl := len_ow r0
  have hL : Loop (g55_s0 a0 a1) (List.replicate 257 (0 : Int), ((0 : Int), ())) = some (counts a0 a1, ()) := by
    have hh := Loop_seq (step := g55_s0 a0 a1) (fun k => (rowN a0 a1 k, ((k : Int), ()))) a0.length ((counts a0 a1, ()) : List Int × Unit) (fun k hk => ?_) ?_ 0 (Nat.zero_le _)
    · rw [rowN_zero] at hh; exact hh
    · obtain ⟨h0, h1⟩ := ids_at h hk
      have hc := cnt_takele a0 a1 (idO (a0.getD k zO)) k
      by_cases q : subO (a0.getD k zO) = a1
      · rw [← rowN_set a0 a1 k hk q h0 (by omega)]
        have hg := rowN_get a0 a1 k (idO (a0.getD k zO)).toNat (by omega)
        rw [show (((idO (a0.getD k zO)).toNat : Nat) : Int) = idO (a0.getD k zO) by omega] at hg
        unfold g55_s0
        unfold idO subO at *
        simp only [Int.ofNat_eq_natCast, Int.toNat_natCast, Nat.mul_one]
        rw [dT (show (k : Int) < (a0.length : Int) by omega), dT (show (0 : Int) ≤ (k : Int) by omega), dT q, dT h0, dT (show (a0.getD k zO).2.1.2.1 < 257 by omega), rowN_len, blt_t (show (a0.getD k zO).2.1.2.1.toNat < 257 by omega), hg, wi64n (by omega), wi64n (by omega)]
        rfl
      · rw [rowN_skip a0 a1 k hk q]
        unfold g55_s0
        unfold subO at q
        simp only [Int.ofNat_eq_natCast, Int.toNat_natCast]
        rw [dT (show (k : Int) < (a0.length : Int) by omega), dT (show (0 : Int) ≤ (k : Int) by omega), dF q, wi64n (by omega)]
        rfl
    · unfold g55_s0
      simp only [Int.ofNat_eq_natCast]
      rw [dF (show ¬ (a0.length : Int) < (a0.length : Int) by omega), rowN_all]
      rfl
  unfold g55
  rw [hL]
  simp only [Option.bind]
  rw [counts_len, fixN_eq (counts_len a0 a1)]
  rfl
theorem freeP_eq (p : Int → Bool) : ((List.range 256).findSome? (fun i : Nat => bif p ((i : Int) + 1) then some ((true, ((true, ((i : Int) + 1, ())), ())) : Bool × (Bool × Int × Unit) × Unit) else none)).getD (false, ((false, (0, ())), ())) = (bif (freeP p).2.1 then (true, ((true, ((freeP p).1, ())), ())) else (false, ((false, (0, ())), ()))) ∧ (bif (freeP p).2.1 then ((freeP p).1, true, ()) else (0, false, ())) = freeP p := by
  rw [findSome_find (List.range 256) (fun i : Nat => p ((i : Int) + 1)) (fun i : Nat => ((true, ((true, ((i : Int) + 1, ())), ())) : Bool × (Bool × Int × Unit) × Unit))]
  unfold freeP
  cases (List.range 256).find? (fun i : Nat => p ((i : Int) + 1)) <;> exact ⟨rfl, rfl⟩
theorem g60_ok (a0 : (List Int))  (h : (decide (a0.length = 257)) = true) : g60 a0 = some (Sp1D.freeL a0, ()) := by
  have hlen : a0.length = 257 := of_decide_eq_true h
  have hL : Loop (g60_s0 a0) ((1 : Int), ()) = some (bif (freeL a0).2.1 then (true, ((true, ((freeL a0).1, ())), ())) else (false, ((false, (0, ())), ()))) := by
    unfold freeL
    rw [← (freeP_eq _).1]
    refine Loop_seqE (step := g60_s0 a0) (fun k => (((k : Int) + 1), ())) 256 _ _ (fun k hk => ?_) ?_
    · unfold g60_s0
      have e : ((k : Int) + 1).toNat = k + 1 := by omega
      simp only [e]
      rw [dT (show (k : Int) + 1 < 257 by omega), dT (show (0 : Int) ≤ (k : Int) + 1 by omega), hlen, blt_t (show k + 1 < 257 by omega), wi64 (n := (k : Int) + 1 + 1) (by omega) (by omega)]
      cases decide (a0.getD (k + 1) 0 = 0) <;> rfl
    · unfold g60_s0
      rfl
  unfold g60
  rw [hL]
  have := (freeP_eq (fun id => decide (a0.getD id.toNat 0 = 0))).2
  change _ = freeL a0 at this
  conv => rhs; rw [← this]
  change Option.bind (some (bif (freeL a0).2.1 then _ else _)) _ = some ((bif (freeL a0).2.1 then _ else _), ())
  cases (freeL a0).2.1 <;> rfl
theorem freeP_congr {p q : Int → Bool} (h : ∀ i : Nat, i < 256 → p ((i : Int) + 1) = q ((i : Int) + 1)) : freeP p = freeP q := by
  unfold freeP
  have : (List.range 256).find? (fun i : Nat => p ((i : Int) + 1)) = (List.range 256).find? (fun i : Nat => q ((i : Int) + 1)) := by
    have key : ∀ l : List Nat, (∀ x ∈ l, x < 256) → l.find? (fun i : Nat => p ((i : Int) + 1)) = l.find? (fun i : Nat => q ((i : Int) + 1)) := by
      intro l
      induction l with
      | nil => intro _; rfl
      | cons a r ih =>
        intro hl
        rw [List.find?_cons, List.find?_cons, h a (hl a (List.mem_cons_self ..)), ih fun x hx => hl x (List.mem_cons_of_mem _ hx)]
    exact key _ fun x hx => List.mem_range.1 hx
  rw [this]
theorem counts_get (l : List Ow) (s : Int) (i : Nat) (hi : i < 257) : (counts l s).getD i 0 = ((cntI l s i : Nat) : Int) := by
  unfold counts
  rw [getD_range_map, if_pos hi]
end Go.Abs.C1D

namespace Go.Abs.C1D
open Go Go.Proofs Sp1D
set_option maxRecDepth 100000

def lnF (s : Int) (out : Int) (o : Ow) : Int := bif mine s o && (decide (out = 0) || decide (lenO o < out)) then lenO o else out
theorem lenM_eq {l : List Ow} (h : chk l = 0) (s : Int) : lenM l s = l.foldl (lnF s) 0 := by
  unfold lenM
  rw [dT h]
  rfl
theorem fold_take {α β : Type} (f : β → α → β) (b : β) (l : List α) (d : α) (k : Nat) (hk : k < l.length) : (l.take (k + 1)).foldl f b = f ((l.take k).foldl f b) (l.getD k d) := by
  rw [take_succ_getD l k d hk, List.foldl_append]
  rfl
theorem g54_ok (a0 : (List (Int × ((Int × (Int × (Int × Unit))) × Unit)))) (a1 : Int) (r0 : (Ty.sl (owT)).ok a0) (r1 : IntKind.i64.has a1) : g54 a0 a1 = some (Sp1D.lenM a0 a1, ()) := by
  have hl := len_ow r0
  unfold g54
  by_cases q : chk a0 = 0
  · rw [dT q, lenM_eq q]
    have hL : Loop (g54_s0 a0 a1) ((0 : Int), ((0 : Int), ())) = some (a0.foldl (lnF a1) 0, ()) := by
      refine Loop_seq (step := g54_s0 a0 a1) (fun k => ((a0.take k).foldl (lnF a1) 0, ((k : Int), ()))) a0.length (a0.foldl (lnF a1) 0, ()) (fun k hk => ?_) ?_ 0 (Nat.zero_le _)
      · rw [fold_take (lnF a1) 0 a0 zO k hk]
        generalize (a0.take k).foldl (lnF a1) 0 = z
        unfold g54_s0 lnF mine subO lenO
        simp only [Int.ofNat_eq_natCast, Int.toNat_natCast]
        rw [dT (show (k : Int) < (a0.length : Int) by omega), dT (show (0 : Int) ≤ (k : Int) by omega), wi64n (by omega)]
        cases decide ((a0.getD k (0, (0, 0, 0, ()), ())).2.1.1 = a1) <;> cases decide (z = 0) <;> cases decide ((a0.getD k (0, (0, 0, 0, ()), ())).2.1.2.2.1 < z) <;> rfl
      · unfold g54_s0
        simp only [Int.ofNat_eq_natCast]
        rw [dF (show ¬ (a0.length : Int) < (a0.length : Int) by omega), List.take_length]
        rfl
    rw [hL]
    rfl
  · rw [dF q]
    unfold lenM
    rw [dF q]
    rfl
end Go.Abs.C1D

namespace Go.Abs.C1D
open Go Go.Proofs Sp1D
set_option maxRecDepth 100000

theorem order_wf {t : Tp} (h : wf t = true) : ∀ k, wf (orderN t k).2 = true ∧ (orderN t k).1.length = k ∧ ∀ x ∈ (orderN t k).1, 0 ≤ x ∧ x < (k : Int)
  | 0 => ⟨h, rfl, fun x hx => by cases hx⟩
  | k + 1 => by
    obtain ⟨h1, h2, h3⟩ := order_wf h k
    have hb := next_range (t := (orderN t k).2) (n := (k : Int) + 1) (by omega)
    refine ⟨next_wf (n := (k : Int) + 1) h1, ?_, ?_⟩
    · simp only [orderN, List.length_append, List.length_cons, List.length_take, List.length_drop]
      omega
    · intro x hx
      simp only [orderN, List.mem_append, List.mem_cons] at hx
      rcases hx with hx | rfl | hx
      · have := h3 x (List.mem_of_mem_take hx); omega
      · omega
      · have := h3 x (List.mem_of_mem_drop hx); omega
theorem g20_ok (a0 : (List Int)) (a1 : Int) (a2 : Int) (r0 : (Ty.sl (.int .i64)).ok a0) (r1 : IntKind.i64.has a1) (r2 : IntKind.i64.has a2) (h : (Sp1D.wf (a0, a1, ()) && Sp1D.inside a2 0 1000) = true) : g20 a0 a1 a2 = some (Sp1D.order (a0, a1, ()) a2.toNat) := by
  simp only [Bool.and_eq_true, inside_iff] at h
  obtain ⟨hw, h1, h2⟩ := h
  obtain ⟨n, rfl⟩ : ∃ n : Nat, a2 = (n : Int) := ⟨a2.toNat, by omega⟩
  have hL : Loop (g20_s0 (n : Int)) ((a0, (a1, ())), (([] : List Int), ((0 : Int), ()))) = some ((orderN (a0, a1, ()) n).2, ((orderN (a0, a1, ()) n).1, ())) := by
    refine Loop_seq (step := g20_s0 (n : Int)) (fun k => ((orderN (a0, a1, ()) k).2, ((orderN (a0, a1, ()) k).1, ((k : Int), ())))) n _ (fun k hk => ?_) ?_ 0 (Nat.zero_le _)
    · obtain ⟨w, hl, -⟩ := order_wf hw k
      rw [orderN]
      generalize orderN (a0, a1, ()) k = s at w hl ⊢
      have hb := next_range (t := s.2) (n := (k : Int) + 1) (by omega)
      unfold g20_s0
      simp only [Int.ofNat_eq_natCast, Int.toNat_natCast, List.nil_append, List.drop_zero]
      rw [dT (show (k : Int) < (n : Int) by omega), wi64 (n := (k : Int) + 1) (by omega) (by omega), on_w w]
      simp only [Option.bind_some]
      have e : ((k + 1 : Nat) : Int) = (k : Int) + 1 := by omega
      generalize next s.2 ((k : Int) + 1) = a at hb ⊢
      have l1 : (List.take a.1.toNat s.1).length ≤ 1000 := by rw [List.length_take]; omega
      have l2 : (List.drop a.1.toNat (List.take s.1.length s.1)).length ≤ 1000 := by rw [List.length_drop, List.length_take]; omega
      rw [dT hb.1, dT (show a.1 ≤ (s.1.length : Int) by omega), dT (Int.le_refl _), ble_t (show (0 + (List.take a.1.toNat s.1).length) * 8 ≤ 140737488355328 by omega), ble_t (show ((List.take a.1.toNat s.1).length + 1) * 8 ≤ 140737488355328 by omega), ble_t (show ((List.take a.1.toNat s.1 ++ [(k : Int)]).length + (List.drop a.1.toNat (List.take s.1.length s.1)).length) * 8 ≤ 140737488355328 by rw [List.length_append, List.length_singleton]; omega), List.take_length, List.append_assoc, e]
      rfl
    · unfold g20_s0
      rw [dF (show ¬ (n : Int) < (n : Int) by omega)]
      rfl
  unfold g20
  rw [hL]
  rfl
theorem len_in (t : Tp) : (Sp1D.length t).1 = 8 ∨ (Sp1D.length t).1 = 16 ∨ (Sp1D.length t).1 = 32 ∨ (Sp1D.length t).1 = 64 := by
  have h := pick_mem t (l := [8, 8, 16, 32, 64]) (by decide)
  simp only [List.mem_cons, List.not_mem_nil, or_false] at h
  unfold Sp1D.length
  omega
theorem on_pk {t : Tp} (h : wf t = true) (n : Nat) (h1 : 0 < n) (h2 : n ≤ 1000) {α : Type} (x : α) : Sp1D.on (wf t && decide (0 < n) && decide (n ≤ 1000)) x = some x := on_true (by rw [h, dT h1, dT h2]; rfl)
theorem edges_wf (g : To) (len : Int) (hl : 8 ≤ len ∧ len ≤ 64) (t : Tp) (h : wf t = true) (o : List Int) : ∀ k, k ≤ o.length →
    wf (edgesN g len ([], 0, t) (o.take k)).2.2 = true ∧ 0 ≤ (edgesN g len ([], 0, t) (o.take k)).2.1 ∧ (edgesN g len ([], 0, t) (o.take k)).2.1 ≤ 63 * (k : Int) ∧ (edgesN g len ([], 0, t) (o.take k)).1.length ≤ k
  | 0, _ => ⟨h, Int.le_refl _, Int.le_refl _, Nat.le_refl _⟩
  | k + 1, hk => by
    obtain ⟨h1, h2, h3, h4⟩ := edges_wf g len hl t h o k (by omega)
    unfold edgesN at *
    rw [fold_take (edgeS g len) _ o 0 k (by omega)]
    generalize (o.take k).foldl (edgeS g len) ([], 0, t) = s at h1 h2 h3 h4 ⊢
    have w1 := next_wf (n := 4) h1
    unfold edgeS
    simp only
    generalize next s.2.2 4 = c at w1 ⊢
    cases decide (c.1 = 0) with
    | true => exact ⟨w1, h2, by simp only [cond_true]; omega, by simp only [cond_true]; omega⟩
    | false =>
      simp only [cond_false]
      have w2 := pick_wf (l := [1, 1, 1, 2, len - 1]) w1
      have m2 := pick_mem c.2 (l := [1, 1, 1, 2, len - 1]) (by simp)
      simp only [List.mem_cons, List.not_mem_nil, or_false] at m2
      generalize Sp1D.pick c.2 [1, 1, 1, 2, len - 1] = p at w2 m2 ⊢
      cases decide (s.2.1 + p.1 ≤ 256) with
      | true => exact ⟨w2, by simp only [cond_true]; omega, by simp only [cond_true]; omega, by simp only [cond_true, List.length_append, List.length_cons, List.length_nil]; omega⟩
      | false => exact ⟨w2, by simp only [cond_false]; omega, by simp only [cond_false]; omega, by simp only [cond_false]; omega⟩
theorem g6_ok (a0 : (List Int)) (a1 : Int) (a2 : (List (Int × (Bool × Unit)))) (a3 : (List (Int × (Int × (Int × (Int × (Int × Unit))))))) (a4 : Int) (r0 : (Ty.sl (.int .i64)).ok a0) (r1 : IntKind.i64.has a1) (r2 : (Ty.sl (rtT)).ok a2) (r3 : (Ty.sl (lkT)).ok a3) (r4 : IntKind.i64.has a4) (h : (Sp1D.wf (a0, a1, ()) && Sp1D.small a4 && decide (a2.length ≤ 1000)) = true) : g6 a0 a1 a2 a3 a4 = some (Sp1D.planT (a0, a1, ()) (a2, a3, ()) a4) := by
  simp only [Bool.and_eq_true, decide_eq_true_eq, small_iff] at h
  obtain ⟨⟨hw, hs⟩, hg⟩ := h
  unfold g6 planT
  simp only
  have w1 := next_wf (n := 3) hw
  rw [on_w hw]
  simp only [Option.bind_some]
  generalize next (a0, a1, ()) 3 = x at w1 ⊢
  have w2 := length_wf w1
  have l2 := len_in x.2
  rw [on_w w1]
  simp only [Option.bind_some]
  generalize Sp1D.length x.2 = b at w2 l2 ⊢
  rw [on_true (show (wf b.2 && Sp1D.inside (Int.ofNat a2.length) 0 1000) = true by rw [w2, inside_iff.2 (by simp only [Int.ofNat_eq_natCast]; omega)]; rfl)]
  simp only [Option.bind_some, Int.ofNat_eq_natCast, Int.toNat_natCast]
  obtain ⟨w3, l3, m3⟩ := order_wf w2 a2.length
  change wf (order b.2 a2.length).2 = true at w3
  change (order b.2 a2.length).1.length = _ at l3
  change ∀ x ∈ (order b.2 a2.length).1, _ at m3
  generalize order b.2 a2.length = o at w3 l3 m3 ⊢
  have hL : Loop (g6_s0 a2) ((0 : Int), ((x.1, (b.1, (([] : List Ed), ()))), ((0 : Int), (o.2, (o.1, ()))))) = some ((x.1, (b.1, ((edgesN (a2, a3, ()) b.1 ([], 0, o.2) o.1).1, ()))), ((edgesN (a2, a3, ()) b.1 ([], 0, o.2) o.1).2.1, ((edgesN (a2, a3, ()) b.1 ([], 0, o.2) o.1).2.2, ()))) := by
    refine Loop_seq (step := g6_s0 a2) (fun k => ((k : Int), ((x.1, (b.1, ((edgesN (a2, a3, ()) b.1 ([], 0, o.2) (o.1.take k)).1, ()))), ((edgesN (a2, a3, ()) b.1 ([], 0, o.2) (o.1.take k)).2.1, ((edgesN (a2, a3, ()) b.1 ([], 0, o.2) (o.1.take k)).2.2, (o.1, ())))))) o.1.length _ (fun k hk => ?_) ?_ 0 (Nat.zero_le _)
    · obtain ⟨h1, h2, h3, h4⟩ := edges_wf (a2, a3, ()) b.1 (by omega) o.2 w3 o.1 k (by omega)
      have hm := m3 _ (getD_mem (d := 0) hk)
      unfold edgesN at *
      rw [fold_take (edgeS (a2, a3, ()) b.1) _ o.1 0 k hk]
      generalize (o.1.take k).foldl (edgeS (a2, a3, ()) b.1) ([], 0, o.2) = s at h1 h2 h3 h4 ⊢
      unfold g6_s0
      simp only [Int.ofNat_eq_natCast, Int.toNat_natCast]
      rw [dT (show (k : Int) < (o.1.length : Int) by omega), on_w h1, wi64n (by omega)]
      simp only [Option.bind_some, cond_true]
      have w4 := next_wf (n := 4) h1
      conv => rhs; unfold edgeS
      simp only
      generalize next s.2.2 4 = c at w4 ⊢
      cases decide (c.1 = 0) with
      | true => rfl
      | false =>
        simp only [cond_false]
        rw [wi64 (n := b.1 - 1) (by omega) (by omega), on_true (show (wf c.2 && decide (0 < [1, 1, 1, 2, b.1 - 1].length) && decide ([1, 1, 1, 2, b.1 - 1].length ≤ 1000)) = true by rw [w4]; rfl)]
        simp only [Option.bind_some]
        have m2 := pick_mem c.2 (l := [1, 1, 1, 2, b.1 - 1]) (by simp)
        simp only [List.mem_cons, List.not_mem_nil, or_false] at m2
        generalize Sp1D.pick c.2 [1, 1, 1, 2, b.1 - 1] = p at m2 ⊢
        rw [wi64 (n := s.2.1 + p.1) (by omega) (by omega)]
        cases decide (s.2.1 + p.1 ≤ 256) with
        | false => rfl
        | true =>
          rw [dT (show (0 : Int) ≤ (k : Int) by omega), blt_t hk, dT hm.1, dT (show o.1.getD k 0 < (a2.length : Int) by omega), ble_t (show (s.1.length + 1) * 16 ≤ 140737488355328 by omega)]
          rfl
    · unfold g6_s0
      simp only [Int.ofNat_eq_natCast]
      rw [dF (show ¬ (o.1.length : Int) < (o.1.length : Int) by omega), List.take_length]
      rfl
  rw [hL]
  simp only [Option.bind_some]
  obtain ⟨w4, i1, i2, l4⟩ := edges_wf (a2, a3, ()) b.1 (by omega) o.2 w3 o.1 o.1.length (Nat.le_refl _)
  rw [List.take_length] at w4 i1 i2 l4
  generalize edgesN (a2, a3, ()) b.1 ([], 0, o.2) o.1 = e at w4 i1 i2 l4 ⊢
  by_cases ha : 0 < a4
  · rw [dT (show a4 > 0 from ha)]
    first | rw [dT ha] | skip
    simp only [cond_true]
    rw [on_ws w4 hs]
    simp only [Option.bind_some]
    have w5 := one_wf (n := a4) w4
    generalize one e.2.2 a4 = q at w5 ⊢
    cases q.1 with
    | false => rfl
    | true =>
      simp only [cond_true]
      rw [on_w w5]
      simp only [Option.bind_some]
      unfold spoilP
      simp only
      have w6 := next_wf (n := 5) w5
      generalize next q.2 5 = m at w6 ⊢
      have b16 : Nat.ble ((e.1.length + 1) * 16) 140737488355328 = true := ble_t (by omega)
      by_cases m0 : m.1 = 0
      · simp only [decide_eq_true m0, cond_true]
        rw [on_w w6]
        rfl
      · simp only [decide_eq_false m0, cond_false]
        by_cases m1 : m.1 = 1
        · simp only [decide_eq_true m1, cond_true]
          rw [on_pk w6 5 (by decide) (by decide)]
          rfl
        · simp only [decide_eq_false m1, cond_false]
          by_cases m2 : m.1 = 2
          · simp only [decide_eq_true m2, cond_true]
            rw [on_pk w6 4 (by decide) (by decide)]
            simp only [Option.bind_some]
            rw [on_pk (pick_wf (l := [0, 1, 99, 100]) w6) 4 (by decide) (by decide)]
            simp only [Option.bind_some, b16]
            rfl
          · simp only [decide_eq_false m2, cond_false]
            by_cases m3 : m.1 = 3
            · simp only [decide_eq_true m3, cond_true]
              by_cases hz : 0 < e.1.length
              · rw [dT (show (e.1.length : Int) > 0 by omega), dT hz, on_w w6]
                simp only [Option.bind_some, cond_true]
                rw [blt_t hz]
                rfl
              · rw [dF (show ¬ (e.1.length : Int) > 0 by omega), dF hz]
                rfl
            · simp only [decide_eq_false m3, cond_false]
              rw [b16, wi64 (n := e.2.1 + 1) (by omega) (by omega)]
              rfl
  · rw [dF (show ¬ a4 > 0 from ha)]
    first | rfl | (rw [dF ha]; rfl)
end Go.Abs.C1D

namespace Go.Abs.C1D
open Go Go.Proofs Sp1D
set_option maxRecDepth 100000

theorem swoE : Go.Sort.SWO ltE where
  irrefl x := by unfold ltE; exact decide_eq_false (by omega)
  trans x y z h1 h2 := by unfold ltE at *; rw [decide_eq_true_eq] at *; omega
  ntrans x y z h1 h2 := by unfold ltE at *; rw [decide_eq_false_iff_not] at *; omega
theorem uniq_of_lt : ∀ {m : List Ed}, m.Pairwise (fun a b => a.2.1 < b.2.1) → ∀ a ∈ m, ∀ b ∈ m, a.2.1 = b.2.1 → a = b
  | [], _, a, ha, _, _, _ => by cases ha
  | x :: r, h, a, ha, b, hb, e => by
    obtain ⟨h1, h2⟩ := List.pairwise_cons.1 h
    rcases List.mem_cons.1 ha with ea | ha2
    · rcases List.mem_cons.1 hb with eb | hb2
      · rw [ea, eb]
      · have := h1 b hb2; rw [← ea] at this; omega
    · rcases List.mem_cons.1 hb with eb | hb2
      · have := h1 a ha2; rw [← eb] at this; omega
      · exact uniq_of_lt h2 a ha2 b hb2 e
theorem sortE_eq {l m : List Ed} (hp : l.Perm m) (hs : m.Pairwise (fun a b => a.2.1 < b.2.1)) : sortE l = m := by
  obtain ⟨⟨k1, -, k2⟩, k3⟩ := Go.Sort.pdq_sorts ltE swoE l.toArray 0 l.length (Go.Lib.bitLen l.length) true true (Nat.zero_le _) (by simp) (.inl rfl)
  have hd : sortE l = (Go.Sort.pdq ltE l.toArray 0 l.length (Go.Lib.bitLen l.length) true true).toList := rfl
  generalize Go.Sort.pdq ltE l.toArray 0 l.length (Go.Lib.bitLen l.length) true true = d at k1 k2 k3 hd
  have hsz : d.size = l.length := by simpa using k1
  have kp : d.toList.Perm l := by
    have e1 : (d.extract 0 l.length).toList = d.toList := by rw [← hsz]; simp
    have e2 : (l.toArray.extract 0 l.length).toList = l := by simp
    rw [e1, e2] at k2
    exact k2
  have ks : d.toList.Pairwise (fun a b => a.2.1 ≤ b.2.1) := by
    rw [List.pairwise_iff_getElem]
    intro i j hi hj hij
    have hi' : i < d.size := by simpa using hi
    have hj' : j < d.size := by simpa using hj
    have := k3 i j (Nat.zero_le _) hij (by omega)
    rw [getElem!_pos d j hj', getElem!_pos d i hi'] at this
    unfold ltE at this
    rw [decide_eq_false_iff_not] at this
    have h : d[i].2.1 ≤ d[j].2.1 := by omega
    simpa using h
  rw [hd]
  refine List.Perm.eq_of_pairwise (le := fun a b => a.2.1 ≤ b.2.1) (fun a b ha hb h1 h2 => ?_) ks (hs.imp fun h => by omega) (kp.trans hp)
  exact uniq_of_lt hs a ((kp.trans hp).subset ha) b hb (by omega)
theorem flat_ins {α : Type} (x : α) (F : Nat → List α) (k : Nat) : ∀ n, k < n → ((List.range n).flatMap fun i => if k = i then x :: F i else F i).Perm (x :: (List.range n).flatMap F)
  | 0, h => absurd h (by omega)
  | n + 1, h => by
    rw [List.range_succ, List.flatMap_append, List.flatMap_append]
    simp only [List.flatMap_cons, List.flatMap_nil, List.append_nil]
    by_cases hk : k = n
    · rw [if_pos hk]
      have : ((List.range n).flatMap fun i => if k = i then x :: F i else F i) = (List.range n).flatMap F := by
        rw [List.flatMap_def, List.flatMap_def]
        congr 1
        refine List.map_congr_left fun i hi => ?_
        rw [if_neg (by have := List.mem_range.1 hi; omega)]
      rw [this]
      exact List.perm_middle
    · rw [if_neg hk]
      exact ((flat_ins x F k n (by omega)).append_right _)
theorem flat_key {α : Type} (key : α → Nat) (p : α → Bool) (n : Nat) : ∀ l : List α, (∀ x ∈ l, p x = true → key x < n) → (l.filter p).Perm ((List.range n).flatMap fun i => l.filter fun o => p o && decide (key o = i))
  | [], _ => by
    have : ((List.range n).flatMap fun i => ([] : List α).filter fun o => p o && decide (key o = i)) = [] := by
      rw [List.flatMap_eq_nil_iff]
      intro i _
      rfl
    rw [this]
    exact List.Perm.refl _
  | x :: r, h => by
    have ih := flat_key key p n r fun y hy => h y (List.mem_cons_of_mem _ hy)
    cases hp : p x with
    | false =>
      rw [List.filter_cons_of_neg (by rw [hp]; exact Bool.false_ne_true)]
      have : (fun i => (x :: r).filter fun o => p o && decide (key o = i)) = fun i => r.filter fun o => p o && decide (key o = i) := by
        funext i
        rw [List.filter_cons_of_neg]
        rw [hp]
        exact Bool.false_ne_true
      rw [this]
      exact ih
    | true =>
      rw [List.filter_cons_of_pos hp]
      have : (fun i => (x :: r).filter fun o => p o && decide (key o = i)) = fun i => if key x = i then x :: (r.filter fun o => p o && decide (key o = i)) else r.filter fun o => p o && decide (key o = i) := by
        funext i
        by_cases hk : key x = i
        · rw [if_pos hk, List.filter_cons_of_pos (by rw [hp, dT hk]; rfl)]
        · rw [if_neg hk, List.filter_cons_of_neg (by rw [hp, dF hk]; exact Bool.false_ne_true)]
      rw [this]
      exact (List.Perm.cons x ih).trans (flat_ins x _ (key x) n (h x (List.mem_cons_self ..) hp)).symm
def one1 (l : List Ow) (s : Int) (o : Ow) : Bool := mine s o && decide (cntI l s (idO o) = 1)
def edF1 (l : List Ow) (s : Int) (i : Nat) : List Ed := bif decide (cntI l s ((i : Int) + 1) = 1) then (l.filter (hit s ((i : Int) + 1))).map edge else []
theorem edges_def (l : List Ow) (s : Int) : edges l s = (List.range 256).flatMap (edF1 l s) := rfl
theorem edF1_eq {l : List Ow} (h : chk l = 0) (s : Int) (i : Nat) : edF1 l s i = (l.filter fun o => one1 l s o && decide ((idO o - 1).toNat = i)).map edge := by
  unfold edF1
  by_cases q : cntI l s ((i : Int) + 1) = 1
  · rw [dT q]
    show List.map edge _ = _
    congr 1
    refine List.filter_congr fun o ho => ?_
    have hb := badO_not (chk_mem h ho)
    unfold hit one1 mine
    by_cases h1 : subO o = s
    · by_cases h2 : idO o = (i : Int) + 1
      · rw [dT h1, dT h2, h2, dT q, dT (show ((i : Int) + 1 - 1).toNat = i by omega)]; rfl
      · rw [dT h1, dF h2, dF (show ¬ (idO o - 1).toNat = i by omega), Bool.and_false, Bool.and_false]
    · rw [dF h1]; rfl
  · rw [dF q]
    have : (l.filter fun o => one1 l s o && decide ((idO o - 1).toNat = i)) = [] := by
      rw [List.filter_eq_nil_iff]
      intro o ho hh
      have hb := badO_not (chk_mem h ho)
      rw [Bool.and_eq_true, decide_eq_true_eq] at hh
      unfold one1 at hh
      rw [Bool.and_eq_true, decide_eq_true_eq] at hh
      rw [show idO o = (i : Int) + 1 by omega] at hh
      exact q hh.1.2
    rw [this]
    rfl
theorem edges_perm {l : List Ow} (h : chk l = 0) (s : Int) : ((l.filter (one1 l s)).map edge).Perm (edges l s) := by
  rw [edges_def]
  have e : (List.range 256).flatMap (edF1 l s) = ((List.range 256).flatMap fun i => l.filter fun o => one1 l s o && decide ((idO o - 1).toNat = i)).map edge := by
    rw [List.map_flatMap]
    congr 1
    funext i
    exact edF1_eq h s i
  rw [e]
  refine List.Perm.map _ (flat_key (fun o => (idO o - 1).toNat) (one1 l s) 256 l fun o ho _ => ?_)
  have := badO_not (chk_mem h ho)
  omega
theorem edF1_id {l : List Ow} {s : Int} {i : Nat} {e : Ed} (he : e ∈ edF1 l s i) : e.2.1 = (i : Int) + 1 := by
  unfold edF1 at he
  cases hq : decide (cntI l s ((i : Int) + 1) = 1) with
  | false => rw [hq] at he; cases he
  | true =>
    rw [hq] at he
    obtain ⟨o, ho, rfl⟩ := List.mem_map.1 he
    have := (List.mem_filter.1 ho).2
    unfold hit at this
    rw [Bool.and_eq_true, decide_eq_true_eq, decide_eq_true_eq] at this
    exact this.2
theorem edF1_len (l : List Ow) (s : Int) (i : Nat) : (edF1 l s i).length ≤ 1 := by
  unfold edF1
  by_cases q : cntI l s ((i : Int) + 1) = 1
  · rw [dT q]
    show (List.map edge _).length ≤ 1
    rw [List.length_map, ← List.countP_eq_length_filter]
    exact Nat.le_of_eq q
  · rw [dF q]; exact Nat.zero_le _
theorem edges_up (l : List Ow) (s : Int) : (edges l s).Pairwise (fun a b => a.2.1 < b.2.1) := by
  rw [edges_def, List.pairwise_flatMap]
  refine ⟨fun i _ => ?_, ?_⟩
  · have := edF1_len l s i
    match h : edF1 l s i with
    | [] => exact List.Pairwise.nil
    | [x] => exact List.pairwise_singleton _ _
    | _ :: _ :: _ => rw [h] at this; simp at this
  · rw [List.pairwise_iff_getElem]
    intro i j hi hj hij x hx y hy
    have e1 := edF1_id hx
    have e2 := edF1_id hy
    simp only [List.getElem_range] at e1 e2
    omega
theorem sort_edges {l : List Ow} (h : chk l = 0) (s : Int) : sortE ((l.filter (one1 l s)).map edge) = edges l s := sortE_eq (edges_perm h s) (edges_up l s)
theorem edges_len {l : List Ow} (h : chk l = 0) (s : Int) : ((l.filter (one1 l s)).map edge).length = (edges l s).length := (edges_perm h s).length_eq
def prE (l : List Ow) (s : Int) (k : Nat) : List Ed := ((l.take k).filter (one1 l s)).map edge
theorem prE_len (l : List Ow) (s : Int) (k : Nat) : (prE l s k).length ≤ k := by
  unfold prE
  rw [List.length_map]
  have := List.length_filter_le (one1 l s) (l.take k)
  rw [List.length_take] at this
  omega
theorem prE_succ (l : List Ow) (s : Int) (k : Nat) (hk : k < l.length) : prE l s (k + 1) = bif one1 l s (l.getD k zO) then prE l s k ++ [edge (l.getD k zO)] else prE l s k := by
  unfold prE
  rw [take_succ_getD l k zO hk, List.filter_append, List.map_append]
  cases h : one1 l s (l.getD k zO) with
  | true => rw [List.filter_cons_of_pos h]; rfl
  | false => rw [List.filter_cons_of_neg (by rw [h]; exact Bool.false_ne_true)]; simp
theorem g40_ok (a0 : (List (Int × ((Int × (Int × (Int × Unit))) × Unit)))) (a1 : Int) (r0 : (Ty.sl (owT)).ok a0) (r1 : IntKind.i64.has a1) : g40 a0 a1 = some (Sp1D.plan a0 a1, ()) := by
  have hl := len_ow r0
  unfold g40 Sp1D.plan
  by_cases q : chk a0 = 0
  · rw [dT q]
    cases hi : Sp1D.inside a1 0 7 with
    | false => rfl
    | true =>
      simp only [Bool.not_true, cond_false]
      rw [on_true (chk_ids q)]
      simp only [Option.bind_some, Bool.true_and]
      rw [counts_len]
      have hL : Loop (g40_s0 a0 a1 (counts a0 a1, ())) ((a1, (lenM a0 a1, (([] : List Ed), ()))), ((0 : Int), ())) = some ((a1, (lenM a0 a1, (prE a0 a1 a0.length, ()))), ()) := by
        refine Loop_seq (step := g40_s0 a0 a1 (counts a0 a1, ())) (fun k => ((a1, (lenM a0 a1, (prE a0 a1 k, ()))), ((k : Int), ()))) a0.length _ (fun k hk => ?_) ?_ 0 (Nat.zero_le _)
        · have hp := prE_len a0 a1 k
          rw [prE_succ a0 a1 k hk]
          generalize prE a0 a1 k = z at hp ⊢
          obtain ⟨h0, h1⟩ := ids_at (chk_ids q) hk
          have hg := counts_get a0 a1 (idO (a0.getD k zO)).toNat (by omega)
          rw [show (((idO (a0.getD k zO)).toNat : Nat) : Int) = idO (a0.getD k zO) by omega] at hg
          unfold g40_s0 one1 mine edge
          unfold idO subO at *
          simp only [Int.ofNat_eq_natCast, Int.toNat_natCast, Nat.mul_one]
          rw [fixN_eq (counts_len a0 a1), counts_len, dT (show (k : Int) < (a0.length : Int) by omega), dT (show (0 : Int) ≤ (k : Int) by omega), wi64n (by omega), dT h0, dT (show (a0.getD k zO).2.1.2.1 < 257 by omega), blt_t (show (a0.getD k zO).2.1.2.1.toNat < 257 by omega), hg, ble_t (show (z.length + 1) * 16 ≤ 140737488355328 by omega)]
          by_cases q1 : (a0.getD k zO).2.1.1 = a1
          · rw [dT q1]
            by_cases q2 : cntI a0 a1 (a0.getD k zO).2.1.2.1 = 1
            · rw [dT q2, q2]; rfl
            · rw [dF q2, dF (show ¬ ((cntI a0 a1 (a0.getD k zO).2.1.2.1 : Nat) : Int) = 1 by omega)]; rfl
          · rw [dF q1]; rfl
        · unfold g40_s0
          simp only [Int.ofNat_eq_natCast]
          rw [dF (show ¬ (a0.length : Int) < (a0.length : Int) by omega)]
          rfl
      have he : prE a0 a1 a0.length = (a0.filter (one1 a0 a1)).map edge := by unfold prE; rw [List.take_length]
      rw [show Nat.beq 257 257 = true from rfl]
      simp only [cond_true]
      rw [hL]
      simp only [Option.bind_some, Int.ofNat_eq_natCast]
      rw [he, sort_edges q, edges_len q]
      by_cases q3 : 24 < (edges a0 a1).length
      · rw [dT q3, dT (show ((edges a0 a1).length : Int) > 24 by omega)]; rfl
      · rw [dF q3, dF (show ¬ ((edges a0 a1).length : Int) > 24 by omega)]; rfl
  · rw [dF q]
    rfl
end Go.Abs.C1D

namespace Go.Abs.C1D
open Go Go.Proofs Sp1D
set_option maxRecDepth 100000

theorem flat_len (l : List Ow) (s : Int) : ∀ k, ((List.range k).flatMap (edF1 l s)).length ≤ k
  | 0 => Nat.le_refl _
  | k + 1 => by
    rw [List.range_succ, List.flatMap_append, List.length_append]
    have h1 := flat_len l s k
    have h2 := edF1_len l s k
    simp only [List.flatMap_cons, List.flatMap_nil, List.append_nil]
    omega
def okId (l : List Ow) (s : Int) (g : List Int) (id : Int) : Bool := decide (cntI l s id = 0) && !g.any (fun y => decide (y = id))
theorem resN_succ (l : List Ow) (s : Int) (k : Nat) (r : List Ow × List Int) (hr : resN l s k = some r) : resN l s (k + 1) =
    bif mine s (l.getD k zO) && decide (0 < (l.take k).countP (hit s (idO (l.getD k zO)))) then
      (bif (freeP (okId l s r.2)).2.1 then some (r.1 ++ [setId (l.getD k zO) (freeP (okId l s r.2)).1], r.2 ++ [(freeP (okId l s r.2)).1]) else none)
    else some (r.1 ++ [l.getD k zO], r.2) := by
  rw [resN, hr]
  rfl
theorem resN_none (l : List Ow) (s : Int) (k : Nat) (h : resN l s k = none) : resN l s (k + 1) = none := by
  rw [resN, h]
theorem resN_none_le (l : List Ow) (s : Int) (k : Nat) (h : resN l s k = none) : ∀ j, resN l s (k + j) = none
  | 0 => h
  | j + 1 => resN_none l s (k + j) (resN_none_le l s k h j)
theorem resN_len {l : List Ow} {s : Int} : ∀ {k : Nat} {r : List Ow × List Int}, resN l s k = some r → r.1.length = k ∧ r.2.length ≤ k
  | 0, r, h => by
    have : r = ([], []) := (Option.some.inj h).symm
    subst this
    exact ⟨rfl, Nat.le_refl _⟩
  | k + 1, r, h => by
    match hk : resN l s k, h with
    | none, h => rw [resN_none l s k hk] at h; cases h
    | some r', h =>
      obtain ⟨h1, h2⟩ := resN_len hk
      rw [resN_succ l s k r' hk] at h
      cases hc : (mine s (l.getD k zO) && decide (0 < (l.take k).countP (hit s (idO (l.getD k zO))))) with
      | false =>
        rw [hc] at h
        have := (Option.some.inj h).symm
        subst this
        exact ⟨by simp only [List.length_append, List.length_cons, List.length_nil]; omega, by simp only; omega⟩
      | true =>
        rw [hc] at h
        simp only [cond_true] at h
        cases hf : (freeP (okId l s r'.2)).2.1 with
        | false => rw [hf] at h; cases h
        | true =>
          rw [hf] at h
          have := (Option.some.inj h).symm
          subst this
          exact ⟨by simp only [List.length_append, List.length_cons, List.length_nil]; omega, by simp only [List.length_append, List.length_cons, List.length_nil]; omega⟩
theorem res_first {ε : Type} (l : List Ow) (s : Int) (x : ε) (n : Nat) : (List.range n).findSome? (fun k => bif (resN l s (k + 1)).isSome then none else some x) = bif (resN l s n).isSome then none else some x := by
  have e : (fun k => bif (resN l s (k + 1)).isSome then none else some x) = fun k => bif !(resN l s (k + 1)).isSome then some x else none := by
    funext k; cases (resN l s (k + 1)).isSome <;> rfl
  rw [e, findSome_bif]
  cases h : resN l s n with
  | none =>
    have : (List.range n).any (fun k => !(resN l s (k + 1)).isSome) = true := by
      cases n with
      | zero => cases h
      | succ n => exact any_range_up (k := n) (by omega) (by rw [h]; rfl)
    rw [this]
    rfl
  | some r =>
    have : (List.range n).any (fun k => !(resN l s (k + 1)).isSome) = false := by
      rw [Bool.eq_false_iff]
      intro hh
      obtain ⟨k, hk, hb⟩ := List.any_eq_true.1 hh
      have hk := List.mem_range.1 hk
      cases hs : resN l s (k + 1) with
      | some _ => rw [hs] at hb; cases hb
      | none =>
        have := resN_none_le l s (k + 1) hs (n - (k + 1))
        rw [show k + 1 + (n - (k + 1)) = n by omega, h] at this
        cases this
    rw [this]
    rfl
theorem resN_some {ε : Type} {l : List Ow} {s : Int} {x : ε} (k : Nat) (h : ∀ i, i < k → (bif (resN l s (i + 1)).isSome then none else some x) = none) : ∃ r, resN l s k = some r := by
  cases k with
  | zero => exact ⟨_, rfl⟩
  | succ k =>
    have := h k (by omega)
    cases hs : resN l s (k + 1) with
    | some r => exact ⟨r, rfl⟩
    | none => rw [hs] at this; cases this
end Go.Abs.C1D

namespace Go.Abs.C1D
open Go Go.Proofs Sp1D
set_option maxRecDepth 100000

def nRow (l : List Ow) (s : Int) (g : List Int) : List Int := (List.range 257).map fun (i : Nat) => bif g.any (fun y => decide (y = (i : Int))) then 1 else ((cntI l s i : Nat) : Int)
theorem nRow_len (l : List Ow) (s : Int) (g : List Int) : (nRow l s g).length = 257 := by unfold nRow; rw [List.length_map, List.length_range]
theorem nRow_get (l : List Ow) (s : Int) (g : List Int) (i : Nat) (hi : i < 257) : (nRow l s g).getD i 0 = bif g.any (fun y => decide (y = (i : Int))) then 1 else ((cntI l s i : Nat) : Int) := by
  unfold nRow
  rw [getD_range_map, if_pos hi]
theorem nRow_set (l : List Ow) (s : Int) (g : List Int) (id : Int) (h0 : 0 ≤ id) (h1 : id < 257) : (nRow l s g).set id.toNat 1 = nRow l s (g ++ [id]) := by
  refine list_getD_ext 0 (by rw [List.length_set, nRow_len, nRow_len]) fun i hi => ?_
  rw [List.length_set, nRow_len] at hi
  rw [getD_set (by rw [nRow_len]; omega), nRow_get _ _ _ _ hi, nRow_get _ _ _ _ hi, List.any_append]
  by_cases q : id.toNat = i
  · rw [if_pos q]
    have : ([id].any fun y => decide (y = (i : Int))) = true := by
      show (decide (id = (i : Int)) || false) = true
      rw [dT (show id = (i : Int) by omega)]
      rfl
    rw [this, Bool.or_true]
    rfl
  · rw [if_neg q]
    have : ([id].any fun y => decide (y = (i : Int))) = false := by
      show (decide (id = (i : Int)) || false) = false
      rw [dF (show ¬ id = (i : Int) by omega)]
      rfl
    rw [this, Bool.or_false]
theorem free_nRow (l : List Ow) (s : Int) (g : List Int) : freeL (nRow l s g) = freeP (okId l s g) := by
  unfold freeL
  refine freeP_congr fun i hi => ?_
  rw [show ((i : Int) + 1).toNat = i + 1 by omega, nRow_get l s g (i + 1) (by omega), show ((i + 1 : Nat) : Int) = (i : Int) + 1 by omega]
  unfold okId
  cases g.any (fun y => decide (y = (i : Int) + 1)) with
  | true => rw [Bool.not_true, Bool.and_false]; rfl
  | false =>
    rw [Bool.not_false, Bool.and_true, cond_false, Bool.eq_iff_iff, decide_eq_true_eq, decide_eq_true_eq]
    omega
theorem freeP_in (p : Int → Bool) (hp : (freeP p).2.1 = true) : 1 ≤ (freeP p).1 ∧ (freeP p).1 ≤ 256 := by
  unfold freeP at hp ⊢
  cases hf : (List.range 256).find? (fun i : Nat => p ((i : Int) + 1)) with
  | none => rw [hf] at hp; cases hp
  | some i =>
    have := List.mem_range.1 (List.mem_of_find?_eq_some hf)
    simp only
    omega
theorem out_skip (a : List Ow) (l : List Ow) (k : Nat) (hk : k < l.length) : a ++ l.drop k = (a ++ [l.getD k zO]) ++ l.drop (k + 1) := by
  rw [drop_getD l k zO hk, List.append_assoc]
  rfl
theorem out_get (a : List Ow) (l : List Ow) (k : Nat) (ha : a.length = k) (hk : k < l.length) : (a ++ l.drop k).getD k zO = l.getD k zO := by
  rw [getD_app, if_neg (by omega), drop_getD l k zO hk, ha, Nat.sub_self]
  rfl
theorem out_set (a : List Ow) (l : List Ow) (k : Nat) (x : Ow) (ha : a.length = k) (hk : k < l.length) : (a ++ l.drop k).set k x = (a ++ [x]) ++ l.drop (k + 1) := by
  rw [drop_getD l k zO hk, List.append_assoc, List.set_append_right _ _ (by omega), ha, Nat.sub_self]
  rfl
theorem out_len (a : List Ow) (l : List Ow) (k : Nat) (ha : a.length = k) (hk : k ≤ l.length) : (a ++ l.drop k).length = l.length := by
  rw [List.length_append, List.length_drop]
  omega
theorem g41_ok (a0 : (List (Int × ((Int × (Int × (Int × Unit))) × Unit)))) (a1 : Int) (r0 : (Ty.sl (owT)).ok a0) (r1 : IntKind.i64.has a1) : g41 a0 a1 = some (Sp1D.res a0 a1, ()) := by
  have hl := len_ow r0
  unfold g41 Sp1D.res
  by_cases q : chk a0 = 0
  · rw [dT q]
    have hl2 := (chk_0 q).1
    simp only [Bool.not_true, cond_false]
    rw [on_true (chk_ids q)]
    simp only [Option.bind_some, Bool.true_and]
    rw [counts_len, fixN_eq (counts_len a0 a1), show Nat.beq 257 257 = true from rfl]
    simp only [cond_true]
    have hL : Loop (g41_s0 a0 a1) (List.replicate 257 (0 : Int), (counts a0 a1, (a0, ((0 : Int), ())))) = some (((List.range a0.length).findSome? (fun k => bif (resN a0 a1 (k + 1)).isSome then none else some ((true, ((9, ([], ())), ([], ()))) : Bool × (Int × List Ow × Unit) × List Ow × Unit))).getD (false, ((0, ([], ())), ((((resN a0 a1 a0.length).getD ([], [])).1, ()))))) := by
      have hh := Loop_seqI (step := g41_s0 a0 a1) (fun k => (rowN a0 a1 k, (nRow a0 a1 ((resN a0 a1 k).getD ([], [])).2, (((resN a0 a1 k).getD ([], [])).1 ++ a0.drop k, ((k : Int), ()))))) a0.length (false, ((0, ([], ())), ((((resN a0 a1 a0.length).getD ([], [])).1, ())))) (fun k => bif (resN a0 a1 (k + 1)).isSome then none else some ((true, ((9, ([], ())), ([], ()))) : Bool × (Int × List Ow × Unit) × List Ow × Unit)) (fun k hk hn => ?_) (fun _ => ?_)
      · rw [rowN_zero] at hh
        exact hh
      · obtain ⟨r, hr⟩ := resN_some k hn
        obtain ⟨l1, l2⟩ := resN_len hr
        rw [resN_succ a0 a1 k r hr, hr]
        simp only [Option.getD_some]
        obtain ⟨h0, h1⟩ := ids_at (chk_ids q) hk
        by_cases hm : subO (a0.getD k zO) = a1
        · have hset := rowN_set a0 a1 k hk hm h0 (by omega)
          have hg := rowN_get a0 a1 k (idO (a0.getD k zO)).toNat (by omega)
          rw [show (((idO (a0.getD k zO)).toNat : Nat) : Int) = idO (a0.getD k zO) by omega] at hg
          have hc := cnt_takele a0 a1 (idO (a0.getD k zO)) k
          have hg2 := rowN_get a0 a1 (k + 1) (idO (a0.getD k zO)).toNat (by omega)
          rw [show (((idO (a0.getD k zO)).toNat : Nat) : Int) = idO (a0.getD k zO) by omega, cnt_take a0 a1 _ k hk] at hg2
          have hh : hit a1 (idO (a0.getD k zO)) (a0.getD k zO) = true := by unfold hit; rw [dT hm, dT rfl]; rfl
          rw [hh] at hg2
          have hcc : (a0.take k).countP (hit a1 (idO (a0.getD k zO))) = cntI (a0.take k) a1 (idO (a0.getD k zO)) := rfl
          have hmine : mine a1 (a0.getD k zO) = true := dT hm
          rw [hmine, hcc]
          have hrl := rowN_len a0 a1 (k + 1)
          have hfree := free_nRow a0 a1 r.2
          have hnl := nRow_len a0 a1 r.2
          unfold g41_s0
          unfold idO subO at *
          simp only [Int.ofNat_eq_natCast, Int.toNat_natCast, Nat.mul_one]
          rw [dT (show (k : Int) < (a0.length : Int) by omega), dT (show (0 : Int) ≤ (k : Int) by omega), wi64n (by omega), dT hm, dT h0, dT (show (a0.getD k zO).2.1.2.1 < 257 by omega), rowN_len, blt_t (show (a0.getD k zO).2.1.2.1.toNat < 257 by omega), hg, wi64n (by omega), hset, hrl, blt_t (show (a0.getD k zO).2.1.2.1.toNat < 257 by omega), hg2]
          simp only [Bool.not_true, cond_false, cond_true, Bool.and_self, Bool.true_and]
          generalize cntI (a0.take k) a1 (a0.getD k zO).2.1.2.1 = c at hc ⊢
          by_cases hz : 0 < c
          · rw [dT hz, dF (show ¬ ((c + 1 : Nat) : Int) = 1 by omega), hnl, on_true (dT rfl), hfree]
            simp only [Option.bind_some, cond_false, cond_true]
            cases hf : (freeP (okId a0 a1 r.2)).2.1 with
            | false => rfl
            | true =>
              have hb := freeP_in _ hf
              have hset2 := nRow_set a0 a1 r.2 (freeP (okId a0 a1 r.2)).1 (by omega) (by omega)
              simp only [Bool.not_true, cond_false, cond_true]
              rw [dT (show 0 ≤ (freeP (okId a0 a1 r.2)).1 by omega), dT (show (freeP (okId a0 a1 r.2)).1 < 257 by omega), blt_t (show (freeP (okId a0 a1 r.2)).1.toNat < 257 by omega), out_len r.1 a0 k l1 (by omega), dT (show (k : Int) < (a0.length : Int) by omega), blt_t hk, out_get r.1 a0 k l1 hk, out_set r.1 a0 k _ l1 hk, hset2]
              rfl
          · have : c = 0 := by omega
            subst this
            rw [dF hz]
            simp only [cond_false, Option.getD_some]
            rw [out_skip r.1 a0 k hk]
            rfl
        · have hskip := rowN_skip a0 a1 k hk hm
          have hmine : mine a1 (a0.getD k zO) = false := dF hm
          rw [hmine, hskip]
          unfold subO at hm
          unfold g41_s0
          simp only [Int.ofNat_eq_natCast, Int.toNat_natCast]
          rw [dT (show (k : Int) < (a0.length : Int) by omega), dT (show (0 : Int) ≤ (k : Int) by omega), wi64n (by omega), dF hm, out_skip r.1 a0 k hk]
          rfl
      · unfold g41_s0
        simp only [Int.ofNat_eq_natCast]
        rw [dF (show ¬ (a0.length : Int) < (a0.length : Int) by omega), List.drop_length, List.append_nil]
        rfl
    rw [hL, res_first]
    cases resN a0 a1 a0.length <;> rfl
  · rw [dF q]
    rfl
end Go.Abs.C1D

namespace Go.Abs.C1D
open Go Go.Proofs Sp1D Sp1D.Bt
set_option maxRecDepth 100000

def U (b : Int) : Prop := 0 ≤ b ∧ b < 18446744073709551616
theorem nat_of {b : Int} (h : U b) : ∃ m : Nat, b = m ∧ m < 2 ^ 64 := ⟨b.toNat, by have := h.1; omega, by have := h.2; omega⟩

theorem rankN_le (b : Int) (k : Nat) : rankN b k ≤ k := by
  unfold rankN
  have := List.length_filter_le (tb b) (List.range k)
  simpa using this
theorem ofN (n : Nat) : Int.ofNat n = (n : Int) := rfl
theorem uh {x : Int} (h : IntKind.u64.has x) : U x := has_u64 h
theorem utn {x : Int} (h : U x) : x.toNat < 2 ^ 64 := by have := h.1; have := h.2; omega
theorem band {x y : Int} (hx : U x) (hy : U y) : IntKind.wrap .u64 (Int.ofNat (BitVec.and (BitVec.ofInt 64 x) (BitVec.ofInt 64 y)).toNat) = ((x.toNat &&& y.toNat : Nat) : Int) := by
  have h : x.toNat &&& y.toNat < 2 ^ 64 := Nat.and_lt_two_pow _ (utn hy)
  rw [bvand hx.1 (by have := hx.2; omega) hy.1 (by have := hy.2; omega), ofN]
  exact wu64 (by omega) (by omega)
theorem bor {x y : Int} (hx : U x) (hy : U y) : IntKind.wrap .u64 (Int.ofNat (BitVec.or (BitVec.ofInt 64 x) (BitVec.ofInt 64 y)).toNat) = ((x.toNat ||| y.toNat : Nat) : Int) := by
  have h : x.toNat ||| y.toNat < 2 ^ 64 := Nat.or_lt_two_pow (utn hx) (utn hy)
  rw [bvor hx.1 (by have := hx.2; omega) hy.1 (by have := hy.2; omega), ofN]
  exact wu64 (by omega) (by omega)
theorem bxor {x y : Int} (hx : U x) (hy : U y) : IntKind.wrap .u64 (Int.ofNat (BitVec.xor (BitVec.ofInt 64 x) (BitVec.ofInt 64 y)).toNat) = ((x.toNat ^^^ y.toNat : Nat) : Int) := by
  have h : x.toNat ^^^ y.toNat < 2 ^ 64 := Nat.xor_lt_two_pow (utn hx) (utn hy)
  rw [bvxor hx.1 (by have := hx.2; omega) hy.1 (by have := hy.2; omega), ofN]
  exact wu64 (by omega) (by omega)
theorem ucast {n : Nat} (h : n < 2 ^ 64) : U (n : Int) := ⟨by omega, by omega⟩


theorem pow_U {k : Nat} (h : k < 64) : U ((2 : Int) ^ k) := by
  rw [pow_cast]
  exact ucast (Nat.pow_lt_pow_right (by decide) h)
theorem bit1_U (k : Int) : U (bit1 k) := by
  unfold bit1
  by_cases h1 : k < 0
  · simp [h1, U]
  · by_cases h2 : 63 < k
    · simp [h2, U]
    · rw [decide_eq_false h1, decide_eq_false h2]
      exact pow_U (by omega)

theorem g14_ok (a0 : Int) (r0 : IntKind.i64.has a0) : g14 a0 = some (Sp1D.Bt.bit1 a0, ()) := by
  unfold g14 Sp1D.Bt.bit1
  simp only [gt_iff_lt]
  by_cases h1 : a0 < 0
  · rw [decide_eq_true h1]; rfl
  · by_cases h2 : 63 < a0
    · rw [decide_eq_false h1, decide_eq_true h2]; rfl
    · have e1 : IntKind.wrap .u64 a0 = a0 := wu64 (by omega) (by omega)
      have hp := pow_U (k := a0.toNat) (by omega)
      have e2 : IntKind.wrap .u64 ((2 : Int) ^ a0.toNat) = 2 ^ a0.toNat := wu64 hp.1 hp.2
      rw [decide_eq_false h1, decide_eq_false h2, e1, decide_eq_true (show (0 : Int) ≤ a0 by omega), show min a0.toNat 64 = a0.toNat by omega, pow2, Int.one_mul, e2]
      rfl

theorem or_full (i : Nat) : (2 ^ i - 1) ||| 2 ^ i = 2 ^ (i + 1) - 1 := by
  refine Nat.eq_of_testBit_eq fun j => ?_
  rw [Nat.testBit_or, Nat.testBit_two_pow_sub_one, Nat.testBit_two_pow, Nat.testBit_two_pow_sub_one]
  by_cases h1 : j < i
  · simp [h1]; omega
  · by_cases h2 : i = j
    · simp [h2]
    · have : ¬ j < i + 1 := by omega
      simp [h1, h2, this]
theorem full_loop (n : Nat) (hn : n ≤ 64) : Loop (g34_s0 (n : Int)) ((0 : Int), (0 : Int), ()) = some (((2 ^ n - 1 : Nat) : Int), ()) := by
  have key : ∀ k, k ≤ n → Loop (g34_s0 (n : Int)) (((n - k : Nat) : Int), ((2 ^ (n - k) - 1 : Nat) : Int), ()) = some (((2 ^ n - 1 : Nat) : Int), ()) := by
    intro k
    induction k with
    | zero =>
      intro _
      have c : ¬ ((n - 0 : Nat) : Int) < (n : Int) := by omega
      have hs : g34_s0 (n : Int) (((n - 0 : Nat) : Int), ((2 ^ (n - 0) - 1 : Nat) : Int), ()) = some (.inr (((2 ^ (n - 0) - 1 : Nat) : Int), ())) := by
        unfold g34_s0
        simp only [c, decide_false, cond_false]
      rw [Loop_step, hs]
      rfl
    | succ k ih =>
      intro hk
      have c : ((n - (k + 1) : Nat) : Int) < (n : Int) := by omega
      have e : IntKind.wrap .i64 (((n - (k + 1) : Nat) : Int) + 1) = ((n - k : Nat) : Int) := by rw [wi64 (by omega) (by omega)]; omega
      have hb : bit1 ((n - (k + 1) : Nat) : Int) = ((2 ^ (n - (k + 1)) : Nat) : Int) := by
        unfold bit1
        rw [decide_eq_false (by omega), decide_eq_false (by omega)]
        simp only [Bool.or_self, cond_false, Int.toNat_natCast]
        exact pow_cast _
      have hlt : 2 ^ (n - (k + 1)) < 2 ^ 64 := Nat.pow_lt_pow_right (by decide) (by omega)
      have hpos := Nat.two_pow_pos (n - (k + 1))
      have hs : g34_s0 (n : Int) (((n - (k + 1) : Nat) : Int), ((2 ^ (n - (k + 1)) - 1 : Nat) : Int), ()) = some (.inl (((n - k : Nat) : Int), ((2 ^ (n - k) - 1 : Nat) : Int), ())) := by
        unfold g34_s0
        simp only [c, decide_true, cond_true, e, hb]
        rw [bor (ucast (by omega)) (ucast hlt), Int.toNat_natCast, Int.toNat_natCast, or_full, show n - (k + 1) + 1 = n - k by omega]
      rw [Loop_step, hs]
      exact ih (by omega)
  have := key n (Nat.le_refl _)
  rw [Nat.sub_self] at this
  exact this
theorem full_nat {n : Int} (h : vlen n = true) : full n = ((2 ^ n.toNat - 1 : Nat) : Int) := by
  rcases vlen_iff.1 h with rfl | rfl | rfl | rfl <;> rfl

theorem g34_ok (a0 : Int) (r0 : IntKind.i64.has a0) : g34 a0 = some (Sp1D.Bt.full a0, ()) := by
  unfold g34
  cases hv : vlen a0 with
  | false => unfold Sp1D.Bt.full; rw [hv]; rfl
  | true =>
    have h1 := vlen_iff.1 hv
    rw [full_nat hv]
    obtain ⟨n, rfl⟩ : ∃ n : Nat, a0 = (n : Int) := ⟨a0.toNat, by omega⟩
    rw [full_loop n (by omega)]
    rfl

theorem U0 : U 0 := ⟨by decide, by decide⟩
theorem Um : U 18446744073709551615 := ⟨by decide, by decide⟩
theorem full_U (n : Int) : U (full n) := by
  cases hv : vlen n with
  | false => unfold full; rw [hv]; exact U0
  | true => rcases vlen_iff.1 hv with rfl | rfl | rfl | rfl <;> exact ⟨by decide, by decide⟩
theorem wu_mod (x : Int) : IntKind.wrap .u64 x = x.emod 18446744073709551616 := wu64m x
theorem emod_U (x : Int) : U (x.emod 18446744073709551616) := ⟨Int.emod_nonneg x (by decide), Int.emod_lt_of_pos x (by decide)⟩
theorem mod_U (x : Int) : U (x % 18446744073709551616) := emod_U x
theorem bitsV_U (t : Tp) (n : Int) : U (bitsV t n).1 := by
  unfold bitsV
  simp only
  cases decide ((next (raw (raw t).2).2 6).1 = 0) with
  | true => exact U0
  | false =>
    cases decide ((next (raw (raw t).2).2 6).1 = 1) with
    | true => exact bit1_U _
    | false =>
      cases decide ((next (raw (raw t).2).2 6).1 = 2) with
      | true => exact Um
      | false => exact ucast (Nat.xor_lt_two_pow (utn (mod_U _)) (utn (emod_U _)))

theorem g13_ok (a0 : (List Int)) (a1 : Int) (a2 : Int) (r0 : (Ty.sl (.int .i64)).ok a0) (r1 : IntKind.i64.has a1) (r2 : IntKind.i64.has a2) (h : (Sp1D.wf (a0, a1, ())) = true) : g13 a0 a1 a2 = some (Sp1D.Bt.bits (a0, a1, ()) a2) := by
  have w1 := raw_wf h
  have w2 := raw_wf w1
  have w3 := next_wf (n := 6) w2
  have hu := bitsV_U (a0, a1, ()) a2
  unfold g13 Sp1D.Bt.bits
  rw [on_true h]
  simp only [Option.bind_some]
  rw [on_true w1]
  simp only [Option.bind_some]
  rw [on_true w2]
  simp only [Option.bind_some]
  rw [on_true w3]
  have hx : IntKind.wrap .u64 (Int.ofNat (BitVec.xor (BitVec.ofInt 64 (IntKind.wrap .u64 (IntKind.wrap .u64 (raw (a0, a1, ())).1 * 11400714819323198485))) (BitVec.ofInt 64 (IntKind.wrap .u64 (raw (raw (a0, a1, ())).2).1))).toNat) = (((Nat.xor ((raw (a0, a1, ())).1.emod 18446744073709551616 * 11400714819323198485 % 18446744073709551616).toNat ((raw (raw (a0, a1, ())).2).1.emod 18446744073709551616).toNat : Nat) : Int)) := by
    rw [wu_mod (raw (a0, a1, ())).1, wu_mod (raw (raw (a0, a1, ())).2).1, wu_mod (_ * 11400714819323198485), bxor (emod_U _) (emod_U _)]
    rfl
  rw [hx]
  have hs : ∀ v : Int, U v → IntKind.wrap .u64 (Int.ofNat (BitVec.and (BitVec.ofInt 64 v) (BitVec.ofInt 64 (full a2))).toNat) = Sp1D.Bt.and v (full a2) := fun v hv => band hv (full_U a2)
  have hv : bitsV (a0, a1, ()) a2 = bif decide ((next (raw (raw (a0, a1, ())).2).2 6).1 = 0) then (0, (next (raw (raw (a0, a1, ())).2).2 6).2) else
      bif decide ((next (raw (raw (a0, a1, ())).2).2 6).1 = 1) then (bit1 (next (next (raw (raw (a0, a1, ())).2).2 6).2 a2).1, (next (next (raw (raw (a0, a1, ())).2).2 6).2 a2).2) else
      bif decide ((next (raw (raw (a0, a1, ())).2).2 6).1 = 2) then (18446744073709551615, (next (raw (raw (a0, a1, ())).2).2 6).2) else
      ((((Nat.xor ((raw (a0, a1, ())).1.emod 18446744073709551616 * 11400714819323198485 % 18446744073709551616).toNat ((raw (raw (a0, a1, ())).2).1.emod 18446744073709551616).toNat : Nat) : Int)), (next (raw (raw (a0, a1, ())).2).2 6).2) := rfl
  rw [hv] at hu ⊢
  revert hu
  cases decide ((next (raw (raw (a0, a1, ())).2).2 6).1 = 0) with
  | true => intro hu; simp only [cond_true, Option.bind_some] at hu ⊢; rw [hs _ hu]
  | false =>
    cases decide ((next (raw (raw (a0, a1, ())).2).2 6).1 = 1) with
    | true => intro hu; simp only [cond_true, cond_false, Option.bind_some] at hu ⊢; rw [hs _ hu]
    | false =>
      cases decide ((next (raw (raw (a0, a1, ())).2).2 6).1 = 2) with
      | true => intro hu; simp only [cond_true, cond_false, Option.bind_some] at hu ⊢; rw [hs _ hu]
      | false => intro hu; simp only [cond_false, Option.bind_some] at hu ⊢; rw [hs _ hu]
theorem clr_bit (k m i : Nat) : (2 ^ k * (2 * m + 1) &&& (2 ^ k * (2 * m + 1) - 1)).testBit i = ((2 ^ k * (2 * m + 1)).testBit i && decide (i ≠ k)) := by
  have hp := Nat.two_pow_pos k
  have e : 2 ^ k * (2 * m + 1) - 1 = 2 ^ k * (2 * m) + (2 ^ k - 1) := by
    rw [Nat.mul_add, Nat.mul_one]
    omega
  rw [Nat.testBit_and, e, Nat.testBit_two_pow_mul_add _ (by omega), Nat.testBit_two_pow_mul]
  by_cases h1 : i < k
  · have : ¬ i ≥ k := by omega
    simp [this]
  · rw [if_neg h1]
    by_cases h2 : i = k
    · subst h2; simp
    · obtain ⟨j, rfl⟩ : ∃ j, i = k + (j + 1) := ⟨i - k - 1, by omega⟩
      have e1 : k + (j + 1) - k = j + 1 := by omega
      have e2 : (2 * m + 1).testBit (j + 1) = m.testBit j := by rw [Nat.testBit_succ]; congr 1; omega
      have e3 : (2 * m).testBit (j + 1) = m.testBit j := by rw [Nat.testBit_succ]; congr 1; omega
      rw [e1, e2, e3]
      have : k + (j + 1) ≠ k := by omega
      simp [this]
theorem low_bit (k m i : Nat) : (2 ^ k * (2 * m + 1)).testBit i = true → k ≤ i := by
  rw [Nat.testBit_two_pow_mul]
  intro h
  simp at h
  exact h.1
theorem low_self (k m : Nat) : (2 ^ k * (2 * m + 1)).testBit k = true := by
  rw [Nat.testBit_two_pow_mul]
  simp
theorem filter_cut {p q : Nat → Bool} {k : Nat} (hp : p k = true) (hlt : ∀ i, i < k → p i = false) (hq : ∀ i, q i = (p i && decide (i ≠ k))) : ∀ m, k < m → (List.range m).filter p = k :: (List.range m).filter q
  | 0, h => by omega
  | m + 1, h => by
    rw [List.range_succ, List.filter_append, List.filter_append]
    by_cases hk : k = m
    · subst hk
      have e1 : (List.range k).filter p = [] := by
        rw [List.filter_eq_nil_iff]
        intro i hi
        rw [List.mem_range] at hi
        simp [hlt i hi]
      have e2 : (List.range k).filter q = [] := by
        rw [List.filter_eq_nil_iff]
        intro i hi
        rw [List.mem_range] at hi
        simp [hq, hlt i hi]
      rw [e1, e2]
      simp [hp, hq]
    · rw [filter_cut hp hlt hq m (by omega), List.cons_append]
      congr 2
      have : m ≠ k := fun h => hk h.symm
      by_cases hm : p m = true
      · simp [hm, hq, this]
      · simp [hm, hq]
def clr (b : Int) : Int := Sp1D.Bt.and b (b - 1)
theorem ones_cons {b : Int} (hb : U b) (h : b ≠ 0) : ones b = Lib.ctz 64 b.toNat :: ones (clr b) ∧ Lib.ctz 64 b.toNat < 64 := by
  obtain ⟨n, rfl, hn⟩ := nat_of hb
  have h0 : 0 < n := by omega
  obtain ⟨m, h1, h2⟩ := Lib.ctzFrom_spec 64 n h0 hn
  have hc : Lib.ctz 64 n = Lib.ctzFrom 64 n := by unfold Lib.ctz; rw [if_neg (by omega)]
  simp only [Int.toNat_natCast]
  rw [hc]
  refine ⟨?_, h2⟩
  unfold ones
  refine filter_cut (k := Lib.ctzFrom 64 n) ?_ ?_ (fun i => ?_) 64 h2
  · show n.testBit _ = true
    conv => lhs; arg 1; rw [h1]
    exact low_self _ _
  · intro i hi
    show n.testBit i = false
    cases hq : n.testBit i with
    | false => rfl
    | true =>
      rw [h1] at hq
      have := low_bit _ _ _ hq
      omega
  · show (clr (n : Int)).toNat.testBit i = (n.testBit i && _)
    unfold clr Sp1D.Bt.and
    rw [Int.toNat_natCast, Int.toNat_natCast, show ((n : Int) - 1).toNat = n - 1 by omega]
    have := clr_bit (Lib.ctzFrom 64 n) m i
    rw [← h1] at this
    exact this
theorem clr_run {b : Int} (hb : U b) (h : b ≠ 0) : IntKind.wrap .u64 (Int.ofNat (BitVec.and (BitVec.ofInt 64 b) (BitVec.ofInt 64 (IntKind.wrap .u64 (b - 1)))).toNat) = clr b ∧ U (clr b) := by
  have h1 := hb.1
  have h2 := hb.2
  have e : IntKind.wrap .u64 (b - 1) = b - 1 := wu64 (by omega) (by omega)
  have hu : U (b - 1) := ⟨by omega, by omega⟩
  rw [e, band hb hu]
  exact ⟨rfl, ucast (Nat.and_lt_two_pow _ (utn hu))⟩
theorem ones_zero : ones 0 = [] := by decide
theorem ones_len (b : Int) : (ones b).length ≤ 64 := rankN_le b 64
theorem list_get (b : Int) (i : Nat) (h : i < (ones b).length) : (list b).getD i 0 = (((ones b).getD i 0 : Nat) : Int) := by
  unfold list
  rw [List.getD_eq_getElem?_getD, List.getElem?_map, List.getD_eq_getElem?_getD, List.getElem?_eq_getElem h]
  rfl
theorem list_len (b : Int) : (list b).length = (ones b).length := by simp [list]
theorem nth0 {b : Int} (hb : U b) (h : b ≠ 0) : Sp1D.Bt.nth b 0 = ((Lib.ctz 64 b.toNat : Nat) : Int) := by
  obtain ⟨h1, _⟩ := ones_cons hb h
  have hl : 0 < (ones b).length := by rw [h1]; simp
  unfold Sp1D.Bt.nth
  have c : ¬ (((list b).length : Nat) : Int) ≤ 0 := by rw [list_len]; omega
  rw [decide_eq_false (show ¬ (0 : Int) < 0 by omega), decide_eq_false c]
  show (list b).getD 0 0 = _
  rw [list_get b 0 hl, h1]
  rfl

theorem tab_nat : ∀ i : Fin 64, ([0,1,56,2,57,49,28,3,61,58,42,50,38,29,17,4,62,47,59,36,45,43,51,22,53,39,33,30,24,18,12,5,63,55,48,27,60,41,37,16,46,35,44,21,52,32,23,11,54,26,40,15,34,20,31,10,25,14,19,9,13,8,7,6] : List Int).getD i.val 0 = ((Lib.deBruijn64tab.getD i.val 0 : Nat) : Int) := by decide +kernel

def tabL : List Int := [0,1,56,2,57,49,28,3,61,58,42,50,38,29,17,4,62,47,59,36,45,43,51,22,53,39,33,30,24,18,12,5,63,55,48,27,60,41,37,16,46,35,44,21,52,32,23,11,54,26,40,15,34,20,31,10,25,14,19,9,13,8,7,6]
def tz (q : Int) : Option (Int × Unit) := bif (decide (0 ≤ q)) && (decide (q < 64)) then (bif Nat.blt (0 + (Int.toNat q) * 1) 64 then some (IntKind.wrap .i64 (List.getD tabL (0 + (Int.toNat q) * 1) 0), ()) else none) else none
theorem tz_at {q : Nat} (h : q < 64) : tz (q : Int) = some (((Lib.deBruijn64tab.getD q 0 : Nat) : Int), ()) := by
  have ht : tabL.getD q 0 = ((Lib.deBruijn64tab.getD q 0 : Nat) : Int) := tab_nat ⟨q, h⟩
  have hb : ∀ i : Fin 64, Lib.deBruijn64tab.getD i.val 0 < 64 := by decide +kernel
  have hb := hb ⟨q, h⟩
  simp only at hb
  unfold tz
  rw [decide_eq_true (show (0 : Int) ≤ (q : Int) by omega), decide_eq_true (show (q : Int) < 64 by omega), Int.toNat_natCast, Nat.zero_add, Nat.mul_one, blt_t h, ht, wi64 (by omega) (by omega)]
  rfl
theorem tz_low {b : Int} (hb : U b) (h0 : b ≠ 0) : Int.fdiv (IntKind.wrap .u64 (IntKind.wrap .u64 (Int.ofNat (BitVec.and (BitVec.ofInt 64 b) (BitVec.ofInt 64 (IntKind.wrap .u64 (0 - b)))).toNat) * 285870213051353865)) 288230376151711744 = ((2 ^ Lib.ctz 64 b.toNat * 285870213051353865 % 18446744073709551616 / 288230376151711744 : Nat) : Int) := by
  obtain ⟨n, rfl, hn⟩ := nat_of hb
  obtain ⟨q1, q2⟩ := Lib.lowest_bit 64 n (by omega) hn
  have e1 : IntKind.wrap .u64 (0 - (n : Int)) = ((2 ^ 64 - n : Nat) : Int) := by rw [wu64m]; omega
  rw [e1, band hb (ucast (by omega)), Int.toNat_natCast, Int.toNat_natCast, q1, wu64m, Int.fdiv_eq_ediv_of_nonneg _ (by decide)]
  generalize 2 ^ Lib.ctz 64 n = q
  omega
theorem g62_short (a0 : Int) : g62 a0 = bif decide (a0 = 0) then some (64, ()) else tz (Int.fdiv (IntKind.wrap .u64 (IntKind.wrap .u64 (Int.ofNat (BitVec.and (BitVec.ofInt 64 a0) (BitVec.ofInt 64 (IntKind.wrap .u64 (0 - a0)))).toNat) * 285870213051353865)) 288230376151711744) := rfl

theorem g62_ok (a0 : Int) (r0 : IntKind.u64.has a0) (h : (!decide (a0 = 0)) = true) : g62 a0 = some (Sp1D.Bt.nth a0 0, ()) := by
  have hb := uh r0
  have h0 : a0 ≠ 0 := by simpa using h
  obtain ⟨q3, q4⟩ := Lib.deBruijn64_at _ (ones_cons hb h0).2
  rw [g62_short, decide_eq_false h0, tz_low hb h0, tz_at q3, q4, nth0 hb h0]
  rfl

theorem g51_ok (a0 : Int) (r0 : IntKind.u64.has a0) : g51 a0 = some (Sp1D.Bt.nth a0 0, ()) := by
  unfold g51
  by_cases h : a0 = 0
  · subst h
    rfl
  · rw [decide_eq_false h]
    rfl

theorem room64 {n : Nat} (h : n ≤ 64) : Nat.ble ((n + 1) * 8) 140737488355328 = true := ble_t (by omega)
theorem list_cons {b : Int} (hb : U b) (h : b ≠ 0) : list b = Sp1D.Bt.nth b 0 :: list (clr b) := by
  rw [nth0 hb h]
  unfold list
  rw [(ones_cons hb h).1, List.map_cons]
theorem list_loop : ∀ (n : Nat) (acc : List Int) (b : Int), U b → (ones b).length = n → acc.length + n ≤ 64 → Loop g35_s0 (acc, b, ()) = some (acc ++ list b, ())
  | 0, acc, b, hb, hn, _ => by
    have h0 : b = 0 := by
      by_cases h : b = 0
      · exact h
      · have := (ones_cons hb h).1
        rw [this] at hn
        simp at hn
    subst h0
    rw [Loop_step]
    show some (acc, ()) = some (acc ++ list 0, ())
    unfold list
    rw [ones_zero]
    simp
  | n + 1, acc, b, hb, hn, hl => by
    have h0 : b ≠ 0 := by
      intro h
      subst h
      rw [ones_zero] at hn
      simp at hn
    obtain ⟨q1, q2⟩ := clr_run hb h0
    have hn2 : (ones (clr b)).length = n := by
      rw [(ones_cons hb h0).1, List.length_cons] at hn
      omega
    have hs : g35_s0 (acc, b, ()) = some (.inl (acc ++ [Sp1D.Bt.nth b 0], clr b, ())) := by
      unfold g35_s0
      simp only [h0, decide_false, Bool.not_false, cond_true, room64 (n := acc.length) (by omega), q1]
    rw [Loop_step, hs]
    simp only
    rw [list_loop n _ _ q2 hn2 (by simp only [List.length_append, List.length_singleton]; omega), list_cons hb h0, List.append_assoc]
    rfl

theorem g35_ok (a0 : Int) (r0 : IntKind.u64.has a0) : g35 a0 = some (Sp1D.Bt.list a0, ()) := by
  unfold g35
  rw [list_loop _ [] a0 (uh r0) rfl (by have := ones_len a0; simp only [List.length_nil]; omega)]
  rfl

theorem has_tb {b : Int} {k : Nat} (h : k < 64) : Bt.has b (k : Int) = tb b k := by
  unfold Bt.has
  rw [decide_eq_true (show (0 : Int) ≤ (k : Int) by omega), decide_eq_true (show (k : Int) < 64 by omega)]
  rfl
def listN (b : Int) (k : Nat) : List Int := ((List.range k).filter (tb b)).map fun (k : Nat) => (k : Int)
theorem listN_succ (b : Int) (k : Nat) : listN b (k + 1) = listN b k ++ (if tb b k then [(k : Int)] else []) := by
  unfold listN
  rw [List.range_succ, List.filter_append, List.map_append]
  congr 1
  by_cases h : tb b k = true <;> simp [h]
theorem listN_len (b : Int) (k : Nat) : (listN b k).length ≤ k := by
  unfold listN
  rw [List.length_map]
  exact rankN_le b k

theorem g37_ok (a0 : Int) (r0 : IntKind.u64.has a0) : g37 a0 = some (Sp1D.Bt.list a0, ()) := by
  have key : ∀ k, k ≤ 64 → Loop (g37_s0 a0) (((64 - k : Nat) : Int), listN a0 (64 - k), ()) = some (listN a0 64, ()) := by
    intro k
    induction k with
    | zero => intro _; rw [Loop_step]; rfl
    | succ k ih =>
      intro hk
      have c : ((64 - (k + 1) : Nat) : Int) < 64 := by omega
      have e : IntKind.wrap .i64 (((64 - (k + 1) : Nat) : Int) + 1) = ((64 - k : Nat) : Int) := by rw [wi64 (by omega) (by omega)]; omega
      have hl := listN_len a0 (64 - (k + 1))
      have hs : g37_s0 a0 (((64 - (k + 1) : Nat) : Int), listN a0 (64 - (k + 1)), ()) = some (.inl (((64 - k : Nat) : Int), listN a0 (64 - k), ())) := by
        have e2 : 64 - k = 64 - (k + 1) + 1 := by omega
        unfold g37_s0
        rw [e2, listN_succ, ← e2]
        simp only [c, decide_true, cond_true, has_tb (b := a0) (show 64 - (k + 1) < 64 by omega), room64 (n := (listN a0 (64 - (k + 1))).length) (by omega), e]
        cases tb a0 (64 - (k + 1)) <;> simp
      rw [Loop_step, hs]
      exact ih (by omega)
  have h := key 64 (Nat.le_refl _)
  unfold g37
  have h' : Loop (g37_s0 a0) ((0 : Int), [], ()) = some (listN a0 64, ()) := h
  rw [h']
  rfl

def wa (x y : Int) : Int := IntKind.wrap .u64 (Int.ofNat (BitVec.and (BitVec.ofInt 64 x) (BitVec.ofInt 64 y)).toNat)
theorem wa_nat {x y : Nat} (hx : x < 2 ^ 64) (hy : y < 2 ^ 64) : wa (x : Int) (y : Int) = ((x &&& y : Nat) : Int) := band (ucast hx) (ucast hy)
theorem fd (x d : Nat) : Int.fdiv (x : Int) (d : Int) = ((x / d : Nat) : Int) := by
  rw [Int.fdiv_eq_ediv_of_nonneg _ (by omega), ← Int.natCast_ediv]
theorem bit_and {x : Int} (hx : U x) (i : Nat) : IntKind.wrap .u64 (Int.ofNat (BitVec.and (BitVec.ofInt 64 (Int.fdiv x (2 ^ i))) (BitVec.ofInt 64 1)).toNat) = (((tb x i).toNat : Nat) : Int) := by
  obtain ⟨n, rfl, hn⟩ := nat_of hx
  have h1 : n / 2 ^ i < 2 ^ 64 := Nat.lt_of_le_of_lt (Nat.div_le_self _ _) hn
  have e : Int.fdiv (n : Int) (2 ^ i) = ((n / 2 ^ i : Nat) : Int) := by rw [pow_cast, fd]
  have a1 := wa_nat (x := n / 2 ^ i) (y := 1) h1 (by decide)
  simp only [Int.cast_ofNat_Int] at a1
  unfold wa at a1
  rw [e, a1, Nat.and_one_is_mod]
  unfold tb
  rw [Int.toNat_natCast, Nat.testBit_eq_decide_div_mod_eq]
  by_cases h : n / 2 ^ i % 2 = 1
  · rw [h]; rfl
  · have : n / 2 ^ i % 2 = 0 := by omega
    rw [this]; rfl
theorem g52_ok (a0 : Int) (a1 : Int) (r0 : IntKind.u64.has a0) (r1 : IntKind.i64.has a1) : g52 a0 a1 = some (Sp1D.Bt.has a0 a1, ()) := by
  have hx := uh r0
  unfold g52 Sp1D.Bt.has
  simp only [ge_iff_le]
  by_cases h1 : 0 ≤ a1
  · by_cases h2 : a1 < 64
    · obtain ⟨k, rfl⟩ : ∃ k : Nat, a1 = (k : Int) := ⟨a1.toNat, by omega⟩
      have e : IntKind.wrap .u64 (k : Int) = (k : Int) := wu64 (by omega) (by omega)
      rw [decide_eq_true h1, decide_eq_true h2, e, decide_eq_true h1, Int.toNat_natCast, show min k 64 = k by omega, pow2, bit_and hx]
      simp only [cond_true, Option.bind_some, Bool.true_and]
      cases tb a0 k <;> rfl
    · rw [decide_eq_true h1, decide_eq_false h2]
      rfl
  · rw [decide_eq_false h1]
    rfl

end Go.Abs.C1D
