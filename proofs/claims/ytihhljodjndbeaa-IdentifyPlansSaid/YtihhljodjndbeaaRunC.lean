/- Chapter 10: proved is that functions that the laws reach keep their contracts (tapes, counts, plans, resolutions); no conditions but those that each theorem states. -/
import Derived.Test.YtihhljodjndbeaaRunB
import Derived.Sort.AssemblyPlain
set_option linter.unusedVariables false
set_option linter.unusedSimpArgs false
namespace Go.Abs.C10
open Go Go.Proofs Sp10
set_option maxRecDepth 100000

theorem take_tw {α : Type} (p : α → Bool) : ∀ l : List α, l.take (l.takeWhile p).length = l.takeWhile p
  | [] => rfl
  | x :: r => by
    rw [List.takeWhile_cons]
    cases p x with
    | true => 
      simp only [if_true, List.length_cons, List.take_succ_cons]
      rw [take_tw p r]
    | false => rfl
theorem drop_tw {α : Type} (p : α → Bool) : ∀ l : List α, l.drop (l.takeWhile p).length = l.dropWhile p
  | [] => rfl
  | x :: r => by
    rw [List.takeWhile_cons, List.dropWhile_cons]
    cases p x with
    | true =>
      simp only [if_true, List.length_cons, List.drop_succ_cons]
      rw [drop_tw p r]
    | false => rfl
theorem tw_le {α : Type} (p : α → Bool) (l : List α) : (l.takeWhile p).length ≤ l.length := by
  have := congrArg List.length (take_tw p l)
  rw [List.length_take] at this
  omega
theorem at_loop (a0 : List Lk) (i : Nat) (hi : i < a0.length) (out : List Lk) (ho : out.length ≤ 20000) (z : List Lk × Unit) : ∀ j k, k + j = out.length →
    Loop (g57_s0 a0 ((i : Int), z)) ((k : Int), (out, ())) = some (((k + ((out.drop k).takeWhile (fun y => lessL y (a0.getD i zL))).length : Nat) : Int), (out, ()))
  | 0, k, hk => by
    have hk : k = out.length := by omega
    subst hk
    rw [Loop_step, List.drop_length]
    unfold g57_s0
    simp only [Int.ofNat_eq_natCast]
    rw [decide_eq_false (show ¬ (out.length : Int) < (out.length : Int) by omega)]
    rfl
  | j + 1, k, hk => by
    have hlt : k < out.length := by omega
    have e2 : IntKind.wrap .i64 ((k : Int) + 1) = ((k + 1 : Nat) : Int) := by rw [wi64 (by omega) (by omega)]; omega
    have hs : g57_s0 a0 ((i : Int), z) ((k : Int), (out, ())) = bif lessL (out.getD k zL) (a0.getD i zL) then some (.inl (((k + 1 : Nat) : Int), (out, ()))) else some (.inr ((k : Int), (out, ()))) := by
      unfold g57_s0 lessL
      simp only [Int.ofNat_eq_natCast, Int.toNat_natCast, e2]
      rw [decide_eq_true (show (k : Int) < (out.length : Int) by omega), decide_eq_true (show (0 : Int) ≤ (k : Int) by omega), decide_eq_true (show (0 : Int) ≤ (i : Int) by omega), decide_eq_true (show (i : Int) < (a0.length : Int) by omega), show Nat.blt k out.length = true from Nat.ble_eq_true_of_le hlt]
      have d1 : decide ((out.getD k (0, 0, 0, 0, 0, ())).1 < (a0.getD i (0, 0, 0, 0, 0, ())).1) = decide ((out.getD k zL).1 < (a0.getD i zL).1) := rfl
      have d2 : decide ((out.getD k (0, 0, 0, 0, 0, ())).1 = (a0.getD i (0, 0, 0, 0, 0, ())).1) = decide ((out.getD k zL).1 = (a0.getD i zL).1) := rfl
      have d3 : decide ((out.getD k (0, 0, 0, 0, 0, ())).2.1 < (a0.getD i (0, 0, 0, 0, 0, ())).2.1) = decide ((out.getD k zL).2.1 < (a0.getD i zL).2.1) := rfl
      rw [d1, d2, d3]
      cases decide ((out.getD k zL).1 < (a0.getD i zL).1) with
      | true => rfl
      | false =>
        cases decide ((out.getD k zL).1 = (a0.getD i zL).1) with
        | false => rfl
        | true => cases decide ((out.getD k zL).2.1 < (a0.getD i zL).2.1) <;> rfl
    rw [Loop_step, hs, List.drop_eq_getElem_cons hlt, List.takeWhile_cons, getD_ix hlt]
    cases lessL out[k] (a0.getD i zL) with
    | false => rfl
    | true =>
      have ih := at_loop a0 i hi out ho z j (k + 1) (by omega)
      simp only [cond_true, if_true, List.length_cons]
      rw [ih]
      congr 2
      omega
theorem ins_len (x : Lk) (l : List Lk) : (ins x l).length = l.length + 1 := by
  unfold ins
  rw [List.length_append, List.length_cons, ← take_tw, ← drop_tw, List.length_take, List.length_drop]
  have := tw_le (fun y => lessL y x) l
  omega
theorem ordN_len (l : List Lk) : ∀ k, (ordN l k).length = k
  | 0 => rfl
  | k + 1 => by rw [ordN, ins_len, ordN_len l k]
theorem ord_len (l : List Lk) : (ord l).length = l.length := ordN_len l _
theorem g57_ok (a0 : (List (Int × (Int × (Int × (Int × (Int × Unit))))))) (r0 : (Ty.sl (lkT)).ok a0) (h : (decide (a0.length ≤ 10000)) = true) : g57 a0 = some (Sp10.ord a0, ()) := by
  have hl : a0.length ≤ 10000 := of_decide_eq_true h
  have key : ∀ j k, k + j = a0.length → Loop (g57_s1 a0) ((k : Int), (ordN a0 k, ())) = some (ord a0, ()) := by
    intro j
    induction j with
    | zero =>
      intro k hk
      have hk : k = a0.length := by omega
      subst hk
      rw [Loop_step]
      unfold g57_s1
      simp only [Int.ofNat_eq_natCast]
      rw [decide_eq_false (show ¬ (a0.length : Int) < (a0.length : Int) by omega)]
      rfl
    | succ j ih =>
      intro k hk
      have hlt : k < a0.length := by omega
      have e2 : IntKind.wrap .i64 ((k : Int) + 1) = ((k + 1 : Nat) : Int) := by rw [wi64 (by omega) (by omega)]; omega
      have hol := ordN_len a0 k
      have hs : g57_s1 a0 ((k : Int), (ordN a0 k, ())) = some (.inl (((k + 1 : Nat) : Int), (ordN a0 (k + 1), ()))) := by
        have hat := at_loop a0 k hlt (ordN a0 k) (by omega) (ordN a0 k, ()) (ordN a0 k).length 0 (by omega)
        have hat : Loop (g57_s0 a0 ((k : Int), (ordN a0 k, ()))) ((0 : Int), (ordN a0 k, ())) = some ((((((ordN a0 k).drop 0).takeWhile (fun y => lessL y (a0.getD k zL))).length + 0 : Nat) : Int), (ordN a0 k, ())) := by
          rw [Nat.add_comm]; exact hat
        rw [List.drop_zero, Nat.add_zero] at hat
        have hle := tw_le (fun y => lessL y (a0.getD k zL)) (ordN a0 k)
        have ht := take_tw (fun y => lessL y (a0.getD k zL)) (ordN a0 k)
        have hd := drop_tw (fun y => lessL y (a0.getD k zL)) (ordN a0 k)
        rw [ordN]
        unfold ins
        rw [← ht, ← hd]
        generalize ((ordN a0 k).takeWhile (fun y => lessL y (a0.getD k zL))).length = m at hat hle
        generalize ordN a0 k = out at hat hle hol ⊢
        unfold g57_s1
        simp only [Int.ofNat_eq_natCast, Int.toNat_natCast, e2]
        rw [decide_eq_true (show (k : Int) < (a0.length : Int) by omega), hat]
        simp only [Option.bind_some, Int.toNat_natCast, List.drop_zero, List.take_length, List.nil_append]
        rw [decide_eq_true (show (0 : Int) ≤ (m : Int) by omega), decide_eq_true (show (m : Int) ≤ (out.length : Int) by omega), decide_eq_true (show (0 : Int) ≤ (k : Int) by omega), decide_eq_true (show (out.length : Int) ≤ (out.length : Int) from Int.le_refl _),
          show Nat.ble ((0 + (out.take m).length) * 40) 140737488355328 = true from Nat.ble_eq_true_of_le (by rw [List.length_take]; omega), show Nat.ble (((out.take m).length + 1) * 40) 140737488355328 = true from Nat.ble_eq_true_of_le (by rw [List.length_take]; omega),
          show Nat.ble (((out.take m ++ [a0.getD k (0, 0, 0, 0, 0, ())]).length + (out.drop m).length) * 40) 140737488355328 = true from Nat.ble_eq_true_of_le (by rw [List.length_append, List.length_take, List.length_drop]; show (min m out.length + 1 + (out.length - m)) * 40 ≤ _; omega)]
        simp only [Bool.and_self, cond_true, List.append_assoc]
        rfl
      rw [Loop_step, hs]
      exact ih (k + 1) (by omega)
  have hk := key a0.length 0 (by omega)
  have hk : Loop (g57_s1 a0) (0, ([], ())) = _ := hk
  unfold g57
  rw [hk]
  rfl
theorem lkIn_wf {cost tree : Int} {skip : Bool} {b a : Int} {s : List Lk × Tp} (h : wf s.2 = true) : wf (linkIn cost tree skip b a s).2 = true ∧ (linkIn cost tree skip b a s).1.length ≤ s.1.length + 1 := by
  unfold linkIn
  simp only
  have hc : wf (bif decide (a = tree) && !skip then (true, s.2) else one s.2 3).2 = true := by
    cases (decide (a = tree) && !skip) with
    | true => exact h
    | false => exact one_wf (n := 3) h
  generalize (bif decide (a = tree) && !skip then (true, s.2) else one s.2 3) = c at hc ⊢
  cases c.1 with
  | true => exact ⟨next_wf (n := 4) (range_wf (a := 1) (b := cost) (range_wf (a := 1) (b := cost) hc)), by simp only [cond_true, List.length_append, List.length_cons, List.length_nil]; omega⟩
  | false => exact ⟨hc, by simp only [cond_false]; omega⟩
theorem row_wf {cost tree : Int} {skip : Bool} {b : Int} {s : List Lk × Tp} (h : wf s.2 = true) : ∀ k, wf (linksRow cost tree skip b s k).2 = true ∧ (linksRow cost tree skip b s k).1.length ≤ s.1.length + k
  | 0 => ⟨h, Nat.le_refl _⟩
  | k + 1 => by
    obtain ⟨h1, h2⟩ := row_wf (cost := cost) (tree := tree) (skip := skip) (b := b) h k
    obtain ⟨h3, h4⟩ := lkIn_wf (cost := cost) (tree := tree) (skip := skip) (b := b) (a := (k : Int) + 1) h1
    exact ⟨h3, Nat.le_trans h4 (by omega)⟩
theorem all_wf {cost : Int} {t : Tp} (h : wf t = true) : ∀ k, wf (linksAll cost t k).2 = true ∧ (linksAll cost t k).1.length ≤ k * (k + 1)
  | 0 => ⟨h, Nat.le_refl _⟩
  | k + 1 => by
    obtain ⟨h1, h2⟩ := all_wf (cost := cost) h k
    rw [linksAll]
    have h3 := one_wf (n := 9) (range_wf (a := 1) (b := (k : Int) + 1) h1)
    obtain ⟨h4, h5⟩ := row_wf (cost := cost) (tree := (range (linksAll cost t k).2 1 ((k : Int) + 1)).1) (skip := (one (range (linksAll cost t k).2 1 ((k : Int) + 1)).2 9).1) (b := (k : Int) + 2) (s := ((linksAll cost t k).1, (one (range (linksAll cost t k).2 1 ((k : Int) + 1)).2 9).2)) h3 (k + 1)
    refine ⟨h4, Nat.le_trans h5 ?_⟩
    simp only
    have : (k + 1) * (k + 1 + 1) = k * (k + 1) + 2 * (k + 1) := by rw [Nat.add_mul, Nat.mul_add k (k + 1) 1]; omega
    omega
end Go.Abs.C10

namespace Go.Abs.C10
open Go Go.Proofs Sp10
set_option maxRecDepth 100000

theorem on_w {α : Type} {t : Tp} (h : wf t = true) (x : α) : Sp10.on (wf t) x = some x := on_true h
theorem on_ws {α : Type} {t : Tp} (h : wf t = true) {n : Int} (hn : -2305843009213693952 ≤ n ∧ n ≤ 2305843009213693952) (x : α) : Sp10.on (wf t && small n) x = some x := on_true (by rw [h, small_iff.2 hn]; rfl)
theorem on_wss {α : Type} {t : Tp} (h : wf t = true) {a n : Int} (ha : -2305843009213693952 ≤ a ∧ a ≤ 2305843009213693952) (hn : -2305843009213693952 ≤ n ∧ n ≤ 2305843009213693952) (x : α) : Sp10.on (wf t && small a && small n) x = some x := on_true (by rw [h, small_iff.2 ha, small_iff.2 hn]; rfl)
theorem pick_mem (t : Tp) {l : List Int} (hl : 0 < l.length) : (Sp10.pick t l).1 ∈ l := by
  have hb := next_range (t := t) (n := (l.length : Int)) (by omega)
  show l.getD (next t l.length).1.toNat 0 ∈ l
  exact getD_mem (by omega)
theorem pick_cost (t : Tp) : 1 ≤ (Sp10.pick t [1, 2, 2, 5]).1 ∧ (Sp10.pick t [1, 2, 2, 5]).1 ≤ 5 := by
  have h := pick_mem t (l := [1, 2, 2, 5]) (by decide)
  simp only [List.mem_cons, List.not_mem_nil, or_false] at h
  omega
theorem routersN_succ (k : Nat) : routersN (k + 1) = routersN k ++ [((k : Int) + 1, true, ())] := by
  unfold routersN
  rw [List.range_succ, List.map_append]
  rfl
theorem routersN_len (k : Nat) : (routersN k).length = k := by
  unfold routersN; rw [List.length_map, List.length_range]

theorem loop30_0 (y4 : Int × Tp) (N : Nat) (hN : y4.1 = (N : Int)) (hle : N ≤ 50) (ls : List Lk × Unit) : ∀ j k, k + j = N →
    Loop (g27_s0 y4) ((routersN k, ls), (k : Int) + 1, ()) = some ((routersN N, ls), ())
  | 0, k, hk => by
    have hk : k = N := by omega
    subst hk
    rw [Loop_step]
    unfold g27_s0
    simp only [hN]
    rw [decide_eq_false (show ¬ (k : Int) + 1 ≤ (k : Int) by omega)]
    rfl
  | j + 1, k, hk => by
    have ih := loop30_0 y4 N hN hle ls j (k + 1) (by omega)
    have e2 : IntKind.wrap .i64 ((k : Int) + 1 + 1) = ((k + 1 : Nat) : Int) + 1 := by rw [wi64 (by omega) (by omega)]; omega
    rw [routersN_succ] at ih
    have hs : g27_s0 y4 ((routersN k, ls), (k : Int) + 1, ()) = some (.inl ((routersN k ++ [((k : Int) + 1, true, ())], ls), ((k + 1 : Nat) : Int) + 1, ())) := by
      unfold g27_s0
      simp only [hN, e2, routersN_len]
      rw [decide_eq_true (show (k : Int) + 1 ≤ (N : Int) by omega), show Nat.ble ((k + 1) * 16) 140737488355328 = true from Nat.ble_eq_true_of_le (by omega)]
      rfl
    rw [Loop_step, hs]
    exact ih

theorem step30_1 (c : Int × Tp) (st : Int × Tp × To × Unit) (tr : Int × Tp) (sk : Bool × Tp) (rs : List Rt) (hc : 1 ≤ c.1 ∧ c.1 ≤ 5) {a : Int} (ha : 0 ≤ a) (hab : a < st.1) (hb : st.1 ≤ 100)
    (s : List Lk × Tp) (hs : wf s.2 = true) (hl : s.1.length ≤ 20000) :
    g27_s1 c st tr sk (a, s.2, (rs, s.1, ()), ()) = some (.inl (a + 1, (linkIn c.1 tr.1 sk.1 st.1 a s).2, (rs, (linkIn c.1 tr.1 sk.1 st.1 a s).1, ()), ())) := by
  have e2 : IntKind.wrap .i64 (a + 1) = a + 1 := wi64 (by omega) (by omega)
  unfold g27_s1 linkIn
  simp only [e2]
  rw [decide_eq_true hab, on_ws hs (by decide)]
  have key : ∀ o : Bool × Tp, wf o.2 = true → (Option.bind (bif o.1 then (Option.bind (Sp10.on (wf o.2 && small 1 && small c.1) (range o.2 1 c.1)) fun y6 =>
        Option.bind (Sp10.on (wf y6.2 && small 1 && small c.1) (range y6.2 1 c.1)) fun y7 => Option.bind (Sp10.on (wf y7.2) (next y7.2 4)) fun y8 =>
        bif Nat.ble ((s.1.length + 1) * 40) 140737488355328 then some (y8.2, (rs, s.1 ++ [(a, st.1, y6.1, y7.1, y8.1, ())], ()), ()) else none) else some (o.2, (rs, s.1, ()), ()))
        fun y6 : Tp × To × Unit => some (Sum.inl (a + 1, y6)) : Option (Sum (Int × Tp × To × Unit) (Tp × To × Unit))) =
      some (.inl (a + 1, (bif o.1 then (s.1 ++ [(a, st.1, (range o.2 1 c.1).1, (range (range o.2 1 c.1).2 1 c.1).1, (next (range (range o.2 1 c.1).2 1 c.1).2 4).1, ())], (next (range (range o.2 1 c.1).2 1 c.1).2 4).2) else (s.1, o.2)).2,
        (rs, (bif o.1 then (s.1 ++ [(a, st.1, (range o.2 1 c.1).1, (range (range o.2 1 c.1).2 1 c.1).1, (next (range (range o.2 1 c.1).2 1 c.1).2 4).1, ())], (next (range (range o.2 1 c.1).2 1 c.1).2 4).2) else (s.1, o.2)).1, ()), ())) := by
    intro o ho
    have w1 := range_wf (a := 1) (b := c.1) ho
    have w2 := range_wf (a := 1) (b := c.1) w1
    cases o.1 with
    | false => rfl
    | true =>
      rw [on_wss ho (by decide) (by omega)]
      simp only [Option.bind_some, cond_true]
      rw [on_wss w1 (by decide) (by omega)]
      simp only [Option.bind_some, cond_true]
      rw [on_w w2, show Nat.ble ((s.1.length + 1) * 40) 140737488355328 = true from Nat.ble_eq_true_of_le (by omega)]
      rfl
  cases decide (a = tr.1) with
  | false => 
    have := key (one s.2 3) (one_wf (n := 3) hs)
    exact this
  | true =>
    cases sk.1 with
    | true =>
      have := key (one s.2 3) (one_wf (n := 3) hs)
      exact this
    | false =>
      have := key (true, s.2) hs
      exact this
theorem loop30_1 (c : Int × Tp) (st : Int × Tp × To × Unit) (tr : Int × Tp) (sk : Bool × Tp) (rs : List Rt) (hc : 1 ≤ c.1 ∧ c.1 ≤ 5) (m : Nat) (hm : st.1 = (m : Int) + 1) (hb : m ≤ 99)
    (s : List Lk × Tp) (hs : wf s.2 = true) (hl : s.1.length ≤ 10000) : ∀ j k, k + j = m →
    Loop (g27_s1 c st tr sk) ((k : Int) + 1, (linksRow c.1 tr.1 sk.1 st.1 s k).2, (rs, (linksRow c.1 tr.1 sk.1 st.1 s k).1, ()), ()) = some ((linksRow c.1 tr.1 sk.1 st.1 s m).2, (rs, (linksRow c.1 tr.1 sk.1 st.1 s m).1, ()), ())
  | 0, k, hk => by
    have hk : k = m := by omega
    subst hk
    rw [Loop_step]
    unfold g27_s1
    simp only
    rw [decide_eq_false (show ¬ (k : Int) + 1 < st.1 by omega)]
    rfl
  | j + 1, k, hk => by
    obtain ⟨w, l⟩ := row_wf (cost := c.1) (tree := tr.1) (skip := sk.1) (b := st.1) hs k
    rw [Loop_step, step30_1 c st tr sk rs hc (a := (k : Int) + 1) (by omega) (by omega) (by omega) _ w (by omega)]
    exact loop30_1 c st tr sk rs hc m hm hb s hs hl j (k + 1) (by omega)
theorem loop30_2 (y4 y6 : Int × Tp) (rs : List Rt) (hc : 1 ≤ y6.1 ∧ y6.1 ≤ 5) (N : Nat) (hN : y4.1 = (N : Int) + 1) (hle : N ≤ 49) (t : Tp) (ht : wf t = true) : ∀ j k, k + j = N →
    Loop (g27_s2 y4 y6) ((k : Int) + 2, (linksAll y6.1 t k).2, (rs, (linksAll y6.1 t k).1, ()), ()) = some ((linksAll y6.1 t N).2, (rs, (linksAll y6.1 t N).1, ()), ())
  | 0, k, hk => by
    have hk : k = N := by omega
    subst hk
    rw [Loop_step]
    unfold g27_s2
    simp only
    rw [decide_eq_false (show ¬ (k : Int) + 2 ≤ y4.1 by omega)]
    rfl
  | j + 1, k, hk => by
    have ih := loop30_2 y4 y6 rs hc N hN hle t ht j (k + 1) (by omega)
    obtain ⟨w, l⟩ := all_wf (cost := y6.1) ht k
    have hk2 : k * (k + 1) ≤ 49 * 50 := Nat.mul_le_mul (by omega) (by omega)
    have e1 : IntKind.wrap .i64 ((k : Int) + 2 - 1) = (k : Int) + 1 := by rw [wi64 (by omega) (by omega)]; omega
    have e2 : IntKind.wrap .i64 ((k : Int) + 2 + 1) = ((k + 1 : Nat) : Int) + 2 := by rw [wi64 (by omega) (by omega)]; omega
    have w1 := range_wf (a := 1) (b := (k : Int) + 1) w
    have w2 := one_wf (n := 9) w1
    have h1 := loop30_1 y6 ((k : Int) + 2, (linksAll y6.1 t k).2, (rs, (linksAll y6.1 t k).1, ()), ()) (range (linksAll y6.1 t k).2 1 ((k : Int) + 1)) (one (range (linksAll y6.1 t k).2 1 ((k : Int) + 1)).2 9) rs hc (k + 1) (by simp only; omega) (by omega)
      ((linksAll y6.1 t k).1, (one (range (linksAll y6.1 t k).2 1 ((k : Int) + 1)).2 9).2) w2 (by simp only; omega) (k + 1) 0 (by omega)
    rw [linksRow] at h1
    have h1' : Loop _ ((1 : Int), _) = _ := h1
    have hs : g27_s2 y4 y6 ((k : Int) + 2, (linksAll y6.1 t k).2, (rs, (linksAll y6.1 t k).1, ()), ()) = some (.inl (((k + 1 : Nat) : Int) + 2, (linksAll y6.1 t (k + 1)).2, (rs, (linksAll y6.1 t (k + 1)).1, ()), ())) := by
      unfold g27_s2
      simp only [e1, e2]
      rw [decide_eq_true (show (k : Int) + 2 ≤ y4.1 by omega), on_wss w (by decide) (by omega)]
      simp only [Option.bind_some, cond_true]
      rw [on_ws w1 (by decide)]
      simp only [Option.bind_some]
      rw [h1']
      rfl
    rw [Loop_step, hs]
    exact ih
end Go.Abs.C10

namespace Go.Abs.C10
open Go Go.Proofs Sp10
set_option maxRecDepth 100000

theorem manyR_len (l : List Rt) : ∀ k, (manyR k l).length = l.length + k
  | 0 => rfl
  | k + 1 => by rw [manyR, List.length_append, manyR_len l k]; rfl
theorem loop30_3 (l : List Rt) (hl : l.length ≤ 1000) (ls : List Lk × Unit) : ∀ j k, k + j = 25 →
    Loop g27_s3 ((manyR k l, ls), (50 : Int) + k, ()) = some ((manyR 25 l, ls), ())
  | 0, k, hk => by
    have hk : k = 25 := by omega
    subst hk
    rw [Loop_step]
    rfl
  | j + 1, k, hk => by
    have ih := loop30_3 l hl ls j (k + 1) (by omega)
    have e2 : IntKind.wrap .i64 ((50 : Int) + k + 1) = (50 : Int) + ((k + 1 : Nat) : Int) := by rw [wi64 (by omega) (by omega)]; omega
    have hs : g27_s3 ((manyR k l, ls), (50 : Int) + k, ()) = some (.inl ((manyR (k + 1) l, ls), (50 : Int) + ((k + 1 : Nat) : Int), ())) := by
      unfold g27_s3
      simp only [e2, manyR_len]
      rw [decide_eq_true (show (50 : Int) + k < 75 by omega), show Nat.ble ((l.length + k + 1) * 16) 140737488355328 = true from Nat.ble_eq_true_of_le (by omega)]
      rfl
    rw [Loop_step, hs]
    exact ih
theorem g27_ok (a0 : (List Int)) (a1 : Int) (a2 : Int) (a3 : Int) (r0 : (Ty.sl (.int .i64)).ok a0) (r1 : IntKind.i64.has a1) (r2 : IntKind.i64.has a2) (r3 : IntKind.i64.has a3) (h : (Sp10.wf (a0, a1, ()) && Sp10.inside a2 1 50 && Sp10.small a3) = true) : g27 a0 a1 a2 a3 = some (Sp10.topo (a0, a1, ()) a2 a3) := by
  simp only [Bool.and_eq_true, inside_iff, small_iff] at h
  obtain ⟨⟨hw, h1, h2⟩, hs1, hs2⟩ := h
  have w1 := range_wf (a := 1) (b := a2) hw
  have b1 := range_in (t := (a0, a1, ())) (a := 1) (b := a2) h1
  unfold g27 topo
  rw [on_wss hw (by decide) (by omega)]
  simp only [Option.bind_some]
  generalize range (a0, a1, ()) 1 a2 = k at w1 b1 ⊢
  obtain ⟨N, hN⟩ : ∃ N : Nat, k.1 = (N : Int) + 1 := ⟨(k.1 - 1).toNat, by omega⟩
  have h0 : Loop (g27_s0 k) (([], [], ()), (1 : Int), ()) = some ((routersN (N + 1), [], ()), ()) := loop30_0 k (N + 1) (by omega) (by omega) ([], ()) (N + 1) 0 (by omega)
  rw [h0]
  simp only [Option.bind_some]
  rw [on_true (show (wf k.2 && decide (0 < 4) && decide (4 ≤ 1000)) = true by rw [w1]; rfl)]
  simp only [Option.bind_some]
  have w2 := pick_wf (l := [1, 2, 2, 5]) w1
  have b2 := pick_cost k.2
  generalize Sp10.pick k.2 [1, 2, 2, 5] = c at w2 b2 ⊢
  have h2 : Loop (g27_s2 k c) ((2 : Int), c.2, (routersN (N + 1), [], ()), ()) = some ((linksAll c.1 c.2 N).2, (routersN (N + 1), (linksAll c.1 c.2 N).1, ()), ()) := loop30_2 k c (routersN (N + 1)) b2 N hN (by omega) c.2 w2 N 0 (by omega)
  rw [h2]
  simp only [Option.bind_some]
  obtain ⟨w3, l3⟩ := all_wf (cost := c.1) w2 N
  have hN2 : N * (N + 1) ≤ 49 * 50 := Nat.mul_le_mul (by omega) (by omega)
  rw [show k.1.toNat - 1 = N by omega, show k.1.toNat = N + 1 by omega]
  generalize linksAll c.1 c.2 N = s at w3 l3 ⊢
  rw [on_true (decide_eq_true (show s.1.length ≤ 10000 by omega))]
  simp only [Option.bind_some]
  have lo := ord_len s.1
  have lr := routersN_len (N + 1)
  generalize ord s.1 = ls at lo ⊢
  generalize routersN (N + 1) = rs at lr ⊢
  by_cases ha : 0 < a3
  · rw [decide_eq_true (show a3 > 0 from ha)]
    simp only [cond_true]
    rw [on_ws w3 (by omega)]
    simp only [Option.bind_some]
    have w4 := one_wf (n := a3) w3
    generalize one s.2 a3 = o at w4 ⊢
    cases o.1 with
    | false => rfl
    | true =>
      simp only [cond_true]
      rw [on_w w4]
      simp only [Option.bind_some]
      unfold spoilT
      simp only
      have w5 := next_wf (n := 7) w4
      generalize next o.2 7 = m at w5 ⊢
      have b16 : Nat.ble ((rs.length + 1) * 16) 140737488355328 = true := Nat.ble_eq_true_of_le (by omega)
      have b40 : Nat.ble ((ls.length + 1) * 40) 140737488355328 = true := Nat.ble_eq_true_of_le (by omega)
      have gt : decide ((Int.ofNat ls.length) > (0 : Int)) = decide (0 < ls.length) := by
        by_cases hz : 0 < ls.length
        · rw [decide_eq_true hz]; exact decide_eq_true (by show (0 : Int) < (ls.length : Int); omega)
        · rw [decide_eq_false hz]; exact decide_eq_false (by show ¬ (0 : Int) < (ls.length : Int); omega)
      have nb := next_range (t := m.2) (n := (ls.length : Int))
      have w6 := next_wf (n := (ls.length : Int)) w5
      by_cases m0 : m.1 = 0
      · simp only [decide_eq_true m0, cond_true]
        rw [on_true (show (wf m.2 && decide (0 < 5) && decide (5 ≤ 1000)) = true by rw [w5]; rfl)]
        simp only [Option.bind_some, b16]
        rfl
      · simp only [decide_eq_false m0, cond_false]
        by_cases m1 : m.1 = 1
        · simp only [decide_eq_true m1, cond_true]
          rw [on_w w5]
          simp only [Option.bind_some]
          rw [on_w (next_wf (n := 4) w5)]
          simp only [Option.bind_some, b40]
          rfl
        · simp only [decide_eq_false m1, cond_false]
          by_cases m6 : m.1 = 2 ∨ m.1 = 3 ∨ m.1 = 4 ∨ m.1 = 5
          · by_cases hz : 0 < ls.length
            · have nb := nb (by omega)
              rw [decide_eq_true hz] at gt
              have gt' : decide ((ls.length : Int) > 0) = true := gt
              have g1 : decide ((0 : Int) ≤ (next m.2 (ls.length : Int)).1) = true := decide_eq_true nb.1
              have g2 : decide ((next m.2 (ls.length : Int)).1 < (ls.length : Int)) = true := decide_eq_true nb.2
              have g3 : Nat.blt (next m.2 (ls.length : Int)).1.toNat ls.length = true := Nat.ble_eq_true_of_le (show _ + 1 ≤ _ by omega)
              rcases m6 with e | e | e | e
              all_goals
                simp only [e, decide_eq_true hz, gt, gt', decide_true, cond_true, cond_false, Int.ofNat_eq_natCast, Option.bind_some, on_w w5, on_w w6, g1, g2, g3, b40, Bool.and_self]
                rfl
            · rw [decide_eq_false hz] at gt
              rcases m6 with e | e | e | e
              all_goals
                simp only [e, decide_eq_false hz, gt, decide_true, cond_true, cond_false]
                rfl
          · have l3 := loop30_3 rs (by omega) (ls, ()) 25 0 (by omega)
            have l3 : Loop g27_s3 ((rs, ls, ()), (50 : Int), ()) = some ((manyR 25 rs, ls, ()), ()) := l3
            rw [decide_eq_false (show ¬ m.1 = 2 by omega), decide_eq_false (show ¬ m.1 = 3 by omega), decide_eq_false (show ¬ m.1 = 4 by omega), decide_eq_false (show ¬ m.1 = 5 by omega)]
            simp only [cond_false]
            rw [l3]
            rfl
  · rw [decide_eq_false (show ¬ a3 > 0 from ha)]
    rfl
end Go.Abs.C10

namespace Go.Abs.C10
open Go Go.Proofs Sp10
set_option maxRecDepth 100000

theorem spoilT_wf {g : To} {t : Tp} (h : wf t = true) : wf (spoilT g t).2 = true ∧ (spoilT g t).1.1.length ≤ g.1.length + 25 := by
  have w := next_wf (n := 7) h
  unfold spoilT
  simp only
  generalize next t 7 = m at w ⊢
  cases decide (m.1 = 0) with
  | true => exact ⟨pick_wf (l := [0, 1, 99, 100, -1]) w, by simp only [cond_true, List.length_append, List.length_cons, List.length_nil]; omega⟩
  | false =>
  cases decide (m.1 = 1) with
  | true => exact ⟨next_wf (n := 4) (next_wf (n := 4) w), by simp only [cond_true, cond_false]; omega⟩
  | false =>
  have w6 := next_wf (n := (g.2.1.length : Int)) w
  cases decide (m.1 = 2) with
  | true => cases decide (0 < g.2.1.length) with
    | true => exact ⟨wild_wf w6, by simp only [cond_true, cond_false]; omega⟩
    | false => exact ⟨w, by simp only [cond_true, cond_false]; omega⟩
  | false =>
  cases decide (m.1 = 3) with
  | true => cases decide (0 < g.2.1.length) with
    | true => exact ⟨wild_wf w6, by simp only [cond_true, cond_false]; omega⟩
    | false => exact ⟨w, by simp only [cond_true, cond_false]; omega⟩
  | false =>
  cases decide (m.1 = 4) with
  | true => cases decide (0 < g.2.1.length) with
    | true => exact ⟨wild_wf w6, by simp only [cond_true, cond_false]; omega⟩
    | false => exact ⟨w, by simp only [cond_true, cond_false]; omega⟩
  | false =>
  cases decide (m.1 = 5) with
  | true => cases decide (0 < g.2.1.length) with
    | true => exact ⟨w6, by simp only [cond_true, cond_false]; omega⟩
    | false => exact ⟨w, by simp only [cond_true, cond_false]; omega⟩
  | false => exact ⟨w, by simp only [cond_false, manyR_len]; omega⟩
theorem topo_wf {t : Tp} {a n : Int} (hw : wf t = true) (ha : 1 ≤ a ∧ a ≤ 50) : wf (topo t a n).2 = true ∧ (topo t a n).1.1.length ≤ 75 := by
  have w1 := range_wf (a := 1) (b := a) hw
  have b1 := range_in (t := t) (a := 1) (b := a) ha.1
  have w2 := pick_wf (l := [1, 2, 2, 5]) w1
  have w3 := (all_wf (cost := (Sp10.pick (range t 1 a).2 [1, 2, 2, 5]).1) w2 ((range t 1 a).1.toNat - 1)).1
  have lr := routersN_len (range t 1 a).1.toNat
  unfold topo
  simp only
  generalize linksAll (Sp10.pick (range t 1 a).2 [1, 2, 2, 5]).1 (Sp10.pick (range t 1 a).2 [1, 2, 2, 5]).2 ((range t 1 a).1.toNat - 1) = s at w3 ⊢
  generalize routersN (range t 1 a).1.toNat = rs at lr ⊢
  cases decide (0 < n) with
  | false => exact ⟨w3, by simp only [cond_false]; omega⟩
  | true =>
    have w4 := one_wf (n := n) w3
    simp only [cond_true]
    generalize one s.2 n = o at w4 ⊢
    cases o.1 with
    | false => exact ⟨w4, by simp only [cond_false]; omega⟩
    | true =>
      have h := spoilT_wf (g := (rs, ord s.1, ())) w4
      exact ⟨h.1, Nat.le_trans h.2 (by simp only; omega)⟩
end Go.Abs.C10

namespace Go.Abs.C10
open Go Go.Proofs Sp10
set_option maxRecDepth 100000

theorem chk_0 {l : List Ow} (h : chk l = 0) : l.length ≤ 192 ∧ l.any badO = false ∧ upO l = true := by
  unfold chk at h
  by_cases q : 192 < l.length
  · rw [dT q] at h; cases h
  rw [dF q] at h
  cases hb : l.any badO with
  | true => rw [hb] at h; cases h
  | false =>
    cases hu : upO l with
    | false => rw [hb, hu] at h; cases h
    | true => exact ⟨by omega, rfl, rfl⟩
theorem badO_not {o : Ow} (h : badO o = false) : (1 ≤ o.1 ∧ o.1 ≤ 99) ∧ (0 ≤ subO o ∧ subO o ≤ 7) ∧ (1 ≤ idO o ∧ idO o ≤ 256) ∧ vlen (lenO o) = true := by
  unfold badO at h
  rw [Bool.or_eq_false_iff, Bool.or_eq_false_iff, Bool.or_eq_false_iff, Bool.not_eq_false', Bool.not_eq_false', Bool.not_eq_false', Bool.not_eq_false'] at h
  exact ⟨inside_iff.1 h.1.1.1, inside_iff.1 h.1.1.2, inside_iff.1 h.1.2, h.2⟩
theorem chk_mem {l : List Ow} (h : chk l = 0) {o : Ow} (ho : o ∈ l) : badO o = false := by
  have := (chk_0 h).2.1
  rw [List.any_eq_false] at this
  simpa using this o ho
theorem chk_ids {l : List Ow} (h : chk l = 0) : idsOk l = true := by
  unfold idsOk
  rw [List.all_eq_true]
  intro o ho
  have := badO_not (chk_mem h ho)
  exact inside_iff.2 ⟨by omega, this.2.2.1.2⟩
theorem cnt_zero {l : List Ow} (h : chk l = 0) (s : Int) : cntI l s 0 = 0 := by
  unfold cntI
  rw [List.countP_eq_zero]
  intro o ho hh
  have := badO_not (chk_mem h ho)
  unfold hit at hh
  rw [Bool.and_eq_true, decide_eq_true_eq, decide_eq_true_eq] at hh
  omega
theorem cnt_le (l : List Ow) (s id : Int) : cntI l s id ≤ l.length := List.countP_le_length
theorem cnt_take (l : List Ow) (s id : Int) (k : Nat) (hk : k < l.length) : cntI (l.take (k + 1)) s id = cntI (l.take k) s id + (bif hit s id (l.getD k zO) then 1 else 0) := by
  unfold cntI
  rw [take_succ_getD l k zO hk, List.countP_append, List.countP_singleton]
  cases hit s id (l.getD k zO) <;> rfl
theorem cnt_takele (l : List Ow) (s id : Int) (k : Nat) : cntI (l.take k) s id ≤ k := by
  have := cnt_le (l.take k) s id
  rw [List.length_take] at this
  omega
theorem g47_ok (a0 : (List (Int × ((Int × (Int × (Int × Unit))) × Unit)))) (a1 : Int) (a2 : Int) (r0 : (Ty.sl (owT)).ok a0) (r1 : IntKind.i64.has a1) (r2 : IntKind.i64.has a2) : g47 a0 a1 a2 = some (((Sp10.cntI a0 a1 a2 : Nat) : Int), ()) := by
  have hl := len_ow r0
  have hL : Loop (g47_s0 a0 a1 a2) ((0 : Int), ((0 : Int), ())) = some (((cntI a0 a1 a2 : Nat) : Int), ()) := by
    have h := Loop_seq (step := g47_s0 a0 a1 a2) (fun k => ((k : Int), (((cntI (a0.take k) a1 a2 : Nat) : Int), ()))) a0.length ((((cntI a0 a1 a2 : Nat) : Int), ()) : Int × Unit) (fun k hk => ?_) ?_ 0 (Nat.zero_le _)
    · exact h
    · have hc := cnt_takele a0 a1 a2 k
      rw [cnt_take a0 a1 a2 k hk]
      unfold g47_s0 hit subO idO
      simp only [Int.ofNat_eq_natCast, Int.toNat_natCast]
      rw [dT (show (k : Int) < (a0.length : Int) by omega), dT (show (0 : Int) ≤ (k : Int) by omega), wi64n (by omega), wi64n (by omega)]
      cases decide ((a0.getD k (0, (0, 0, 0, ()), ())).2.1.1 = a1) <;> cases decide ((a0.getD k (0, (0, 0, 0, ()), ())).2.1.2.1 = a2) <;> rfl
    · unfold g47_s0
      simp only [Int.ofNat_eq_natCast]
      rw [dF (show ¬ (a0.length : Int) < (a0.length : Int) by omega), List.take_length]
      rfl
  unfold g47
  rw [hL]
  rfl
def rowN (l : List Ow) (s : Int) (k : Nat) : List Int := (List.range 257).map fun (i : Nat) => ((cntI (l.take k) s i : Nat) : Int)
theorem rowN_len (l : List Ow) (s : Int) (k : Nat) : (rowN l s k).length = 257 := by unfold rowN; rw [List.length_map, List.length_range]
theorem rowN_get (l : List Ow) (s : Int) (k i : Nat) (hi : i < 257) : (rowN l s k).getD i 0 = ((cntI (l.take k) s i : Nat) : Int) := by
  unfold rowN
  rw [getD_range_map, if_pos hi]
theorem rowN_set (l : List Ow) (s : Int) (k : Nat) (hk : k < l.length) (hm : subO (l.getD k zO) = s) (h0 : 0 ≤ idO (l.getD k zO)) (h1 : idO (l.getD k zO) < 257) :
    (rowN l s k).set (idO (l.getD k zO)).toNat (((cntI (l.take k) s (idO (l.getD k zO)) + 1 : Nat) : Int)) = rowN l s (k + 1) := by
  refine list_getD_ext 0 (by rw [List.length_set, rowN_len, rowN_len]) fun i hi => ?_
  rw [List.length_set, rowN_len] at hi
  rw [getD_set (by rw [rowN_len]; omega), rowN_get _ _ _ _ hi, rowN_get _ _ _ _ hi, cnt_take l s i k hk]
  unfold hit
  rw [dT hm]
  by_cases q : (idO (l.getD k zO)).toNat = i
  · rw [if_pos q, dT (show idO (l.getD k zO) = (i : Int) by omega), show idO (l.getD k zO) = (i : Int) by omega]
    rfl
  · rw [if_neg q, dF (show ¬ idO (l.getD k zO) = (i : Int) by omega)]
    rfl
theorem rowN_skip (l : List Ow) (s : Int) (k : Nat) (hk : k < l.length) (hm : ¬ subO (l.getD k zO) = s) : rowN l s (k + 1) = rowN l s k := by
  unfold rowN
  refine List.map_congr_left fun i _ => ?_
  rw [cnt_take l s i k hk]
  unfold hit
  rw [dF hm]
  rfl
theorem rowN_zero (l : List Ow) (s : Int) : rowN l s 0 = List.replicate 257 0 := by
  unfold rowN
  rw [List.take_zero]
  rfl
theorem rowN_all (l : List Ow) (s : Int) : rowN l s l.length = counts l s := by
  unfold rowN counts
  rw [List.take_length]
theorem ids_at {l : List Ow} (h : idsOk l = true) {k : Nat} (hk : k < l.length) : 0 ≤ idO (l.getD k zO) ∧ idO (l.getD k zO) ≤ 256 := by
  unfold idsOk at h
  rw [List.all_eq_true] at h
  exact inside_iff.1 (h _ (getD_mem hk))
theorem counts_len (l : List Ow) (s : Int) : (counts l s).length = 257 := by unfold counts; rw [List.length_map, List.length_range]
theorem g45_ok (a0 : (List (Int × ((Int × (Int × (Int × Unit))) × Unit)))) (a1 : Int) (r0 : (Ty.sl (owT)).ok a0) (r1 : IntKind.i64.has a1) (h : (Sp10.idsOk a0) = true) : g45 a0 a1 = some (Sp10.counts a0 a1, ()) := by
  have hl := len_ow r0
  have hL : Loop (g45_s0 a0 a1) (List.replicate 257 (0 : Int), ((0 : Int), ())) = some (counts a0 a1, ()) := by
    have hh := Loop_seq (step := g45_s0 a0 a1) (fun k => (rowN a0 a1 k, ((k : Int), ()))) a0.length ((counts a0 a1, ()) : List Int × Unit) (fun k hk => ?_) ?_ 0 (Nat.zero_le _)
    · rw [rowN_zero] at hh; exact hh
    · obtain ⟨h0, h1⟩ := ids_at h hk
      have hc := cnt_takele a0 a1 (idO (a0.getD k zO)) k
      by_cases q : subO (a0.getD k zO) = a1
      · rw [← rowN_set a0 a1 k hk q h0 (by omega)]
        have hg := rowN_get a0 a1 k (idO (a0.getD k zO)).toNat (by omega)
        rw [show (((idO (a0.getD k zO)).toNat : Nat) : Int) = idO (a0.getD k zO) by omega] at hg
        unfold g45_s0
        unfold idO subO at *
        simp only [Int.ofNat_eq_natCast, Int.toNat_natCast, Nat.mul_one]
        rw [dT (show (k : Int) < (a0.length : Int) by omega), dT (show (0 : Int) ≤ (k : Int) by omega), dT q, dT h0, dT (show (a0.getD k zO).2.1.2.1 < 257 by omega), rowN_len, blt_t (show (a0.getD k zO).2.1.2.1.toNat < 257 by omega), hg, wi64n (by omega), wi64n (by omega)]
        rfl
      · rw [rowN_skip a0 a1 k hk q]
        unfold g45_s0
        unfold subO at q
        simp only [Int.ofNat_eq_natCast, Int.toNat_natCast]
        rw [dT (show (k : Int) < (a0.length : Int) by omega), dT (show (0 : Int) ≤ (k : Int) by omega), dF q, wi64n (by omega)]
        rfl
    · unfold g45_s0
      simp only [Int.ofNat_eq_natCast]
      rw [dF (show ¬ (a0.length : Int) < (a0.length : Int) by omega), rowN_all]
      rfl
  unfold g45
  rw [hL]
  simp only [Option.bind]
  rw [counts_len, fixN_eq (counts_len a0 a1)]
  rfl
theorem freeP_eq (p : Int → Bool) : ((List.range 256).findSome? (fun i : Nat => bif p ((i : Int) + 1) then some ((true, ((true, ((i : Int) + 1, ())), ())) : Bool × (Bool × Int × Unit) × Unit) else none)).getD (false, ((false, (0, ())), ())) = (bif (freeP p).2.1 then (true, ((true, ((freeP p).1, ())), ())) else (false, ((false, (0, ())), ()))) ∧ (bif (freeP p).2.1 then ((freeP p).1, true, ()) else (0, false, ())) = freeP p := by
  rw [findSome_find (List.range 256) (fun i : Nat => p ((i : Int) + 1)) (fun i : Nat => ((true, ((true, ((i : Int) + 1, ())), ())) : Bool × (Bool × Int × Unit) × Unit))]
  unfold freeP
  cases (List.range 256).find? (fun i : Nat => p ((i : Int) + 1)) <;> exact ⟨rfl, rfl⟩
theorem g46_ok (a0 : (List Int))  (h : (decide (a0.length = 257)) = true) : g46 a0 = some (Sp10.freeL a0, ()) := by
  have hlen : a0.length = 257 := of_decide_eq_true h
  have hL : Loop (g46_s0 a0) ((1 : Int), ()) = some (bif (freeL a0).2.1 then (true, ((true, ((freeL a0).1, ())), ())) else (false, ((false, (0, ())), ()))) := by
    unfold freeL
    rw [← (freeP_eq _).1]
    refine Loop_seqE (step := g46_s0 a0) (fun k => (((k : Int) + 1), ())) 256 _ _ (fun k hk => ?_) ?_
    · unfold g46_s0
      have e : ((k : Int) + 1).toNat = k + 1 := by omega
      simp only [e]
      rw [dT (show (k : Int) + 1 < 257 by omega), dT (show (0 : Int) ≤ (k : Int) + 1 by omega), hlen, blt_t (show k + 1 < 257 by omega), wi64 (n := (k : Int) + 1 + 1) (by omega) (by omega)]
      cases decide (a0.getD (k + 1) 0 = 0) <;> rfl
    · unfold g46_s0
      rfl
  unfold g46
  rw [hL]
  have := (freeP_eq (fun id => decide (a0.getD id.toNat 0 = 0))).2
  change _ = freeL a0 at this
  conv => rhs; rw [← this]
  change Option.bind (some (bif (freeL a0).2.1 then _ else _)) _ = some ((bif (freeL a0).2.1 then _ else _), ())
  cases (freeL a0).2.1 <;> rfl
theorem freeP_congr {p q : Int → Bool} (h : ∀ i : Nat, i < 256 → p ((i : Int) + 1) = q ((i : Int) + 1)) : freeP p = freeP q := by
  unfold freeP
  have : (List.range 256).find? (fun i : Nat => p ((i : Int) + 1)) = (List.range 256).find? (fun i : Nat => q ((i : Int) + 1)) := by
    have key : ∀ l : List Nat, (∀ x ∈ l, x < 256) → l.find? (fun i : Nat => p ((i : Int) + 1)) = l.find? (fun i : Nat => q ((i : Int) + 1)) := by
      intro l
      induction l with
      | nil => intro _; rfl
      | cons a r ih =>
        intro hl
        rw [List.find?_cons, List.find?_cons, h a (hl a (List.mem_cons_self ..)), ih fun x hx => hl x (List.mem_cons_of_mem _ hx)]
    exact key _ fun x hx => List.mem_range.1 hx
  rw [this]
theorem counts_get (l : List Ow) (s : Int) (i : Nat) (hi : i < 257) : (counts l s).getD i 0 = ((cntI l s i : Nat) : Int) := by
  unfold counts
  rw [getD_range_map, if_pos hi]
theorem freeL_counts (l : List Ow) (s : Int) : freeL (counts l s) = freeP (fun id => decide (cntI l s id = 0)) := by
  unfold freeL
  refine freeP_congr fun i hi => ?_
  rw [show ((i : Int) + 1).toNat = i + 1 by omega, counts_get l s (i + 1) (by omega)]
  rw [Bool.eq_iff_iff, decide_eq_true_eq, decide_eq_true_eq, show ((i + 1 : Nat) : Int) = (i : Int) + 1 by omega]
  omega
theorem g17_ok (a0 : (List (Int × ((Int × (Int × (Int × Unit))) × Unit)))) (a1 : Int) (r0 : (Ty.sl (owT)).ok a0) (r1 : IntKind.i64.has a1) : g17 a0 a1 = some (Sp10.free a0 a1, ()) := by
  unfold g17 Sp10.free
  by_cases q : chk a0 = 0
  · rw [dT q, on_true (chk_ids q)]
    simp only [Option.bind, Bool.not_true, cond_false, cond_true]
    rw [counts_len, fixN_eq (counts_len a0 a1), counts_len, freeL_counts]
    rfl
  · rw [dF q]
    rfl
theorem g35_ok (a0 : (List (Int × ((Int × (Int × (Int × Unit))) × Unit)))) (a1 : Int) (r0 : (Ty.sl (owT)).ok a0) (r1 : IntKind.i64.has a1) : g35 a0 a1 = some (Sp10.free a0 a1, ()) := by
  unfold g35 Sp10.free
  by_cases q : chk a0 = 0
  · rw [dT q]
    have hL : Loop (g35_s0 a0 a1) ((1 : Int), ()) = some (bif (freeP (fun id => decide (cntI a0 a1 id = 0))).2.1 then (true, (((freeP (fun id => decide (cntI a0 a1 id = 0))).1, (true, ())), ())) else (false, ((0, (false, ())), ()))) := by
      have e : ((List.range 256).findSome? (fun i : Nat => bif decide (cntI a0 a1 ((i : Int) + 1) = 0) then some ((true, (((i : Int) + 1, (true, ())), ())) : Bool × (Int × Bool × Unit) × Unit) else none)).getD (false, ((0, (false, ())), ())) = (bif (freeP (fun id => decide (cntI a0 a1 id = 0))).2.1 then (true, (((freeP (fun id => decide (cntI a0 a1 id = 0))).1, (true, ())), ())) else (false, ((0, (false, ())), ()))) := by
        rw [findSome_find (List.range 256) (fun i : Nat => decide (cntI a0 a1 ((i : Int) + 1) = 0)) (fun i : Nat => ((true, (((i : Int) + 1, (true, ())), ())) : Bool × (Int × Bool × Unit) × Unit))]
        unfold freeP
        cases (List.range 256).find? (fun i : Nat => decide (cntI a0 a1 ((i : Int) + 1) = 0)) <;> rfl
      rw [← e]
      refine Loop_seqE (step := g35_s0 a0 a1) (fun k => (((k : Int) + 1), ())) 256 _ _ (fun k hk => ?_) ?_
      · unfold g35_s0
        simp only
        rw [dT (show (k : Int) + 1 ≤ 256 by omega), wi64 (n := (k : Int) + 1 + 1) (by omega) (by omega)]
        by_cases hc : cntI a0 a1 ((k : Int) + 1) = 0
        · rw [dT hc, dT (show Int.ofNat (cntI a0 a1 ((k : Int) + 1)) = 0 by rw [hc]; rfl)]; rfl
        · rw [dF hc, dF (show ¬ Int.ofNat (cntI a0 a1 ((k : Int) + 1)) = 0 by simp only [Int.ofNat_eq_natCast]; omega)]; rfl
      · unfold g35_s0
        rfl
    rw [hL]
    have h2 := (freeP_eq (fun id => decide (cntI a0 a1 id = 0))).2
    simp only [Bool.not_true, cond_false, cond_true]
    conv => rhs; rw [← h2]
    cases (freeP (fun id => decide (cntI a0 a1 id = 0))).2.1 <;> rfl
  · rw [dF q]
    rfl
end Go.Abs.C10

namespace Go.Abs.C10
open Go Go.Proofs Sp10
set_option maxRecDepth 100000

def cfN (l : List Ow) (s : Int) (k : Nat) : List Int := ((List.range k).filter fun (i : Nat) => decide (1 < cntI l s ((i : Int) + 1))).map fun (i : Nat) => (i : Int) + 1
theorem cfN_len (l : List Ow) (s : Int) (k : Nat) : (cfN l s k).length ≤ k := by
  unfold cfN
  rw [List.length_map]
  have := List.length_filter_le (fun (i : Nat) => decide (1 < cntI l s ((i : Int) + 1))) (List.range k)
  rw [List.length_range] at this
  exact this
theorem cfN_succ (l : List Ow) (s : Int) (k : Nat) : cfN l s (k + 1) = bif decide (1 < cntI l s ((k : Int) + 1)) then cfN l s k ++ [(k : Int) + 1] else cfN l s k := by
  unfold cfN
  rw [List.range_succ, List.filter_append, List.map_append]
  cases h : decide (1 < cntI l s ((k : Int) + 1)) with
  | true => simp [h]
  | false => simp [h]
theorem conf_eq {l : List Ow} (h : chk l = 0) (s : Int) : Sp10.conf l s = cfN l s 256 := by
  unfold Sp10.conf cfN
  rw [dT h]
  rfl
theorem g37_ok (a0 : (List (Int × ((Int × (Int × (Int × Unit))) × Unit)))) (a1 : Int) (r0 : (Ty.sl (owT)).ok a0) (r1 : IntKind.i64.has a1) : g37 a0 a1 = some (Sp10.conf a0 a1, ()) := by
  unfold g37
  by_cases q : chk a0 = 0
  · rw [dT q, conf_eq q]
    have hL : Loop (g37_s0 a0 a1) ((1 : Int), (([] : List Int), ())) = some (cfN a0 a1 256, ()) := by
      refine Loop_seq (step := g37_s0 a0 a1) (fun k => (((k : Int) + 1), (cfN a0 a1 k, ()))) 256 (cfN a0 a1 256, ()) (fun k hk => ?_) ?_ 0 (Nat.zero_le _)
      · have hc := cfN_len a0 a1 k
        rw [cfN_succ]
        unfold g37_s0
        simp only
        rw [dT (show (k : Int) + 1 ≤ 256 by omega), wi64 (n := (k : Int) + 1 + 1) (by omega) (by omega), ble_t (show ((cfN a0 a1 k).length + 1) * 8 ≤ 140737488355328 by omega)]
        by_cases hc : 1 < cntI a0 a1 ((k : Int) + 1)
        · rw [dT hc, dT (show Int.ofNat (cntI a0 a1 ((k : Int) + 1)) > 1 by simp only [Int.ofNat_eq_natCast]; omega)]; rfl
        · rw [dF hc, dF (show ¬ Int.ofNat (cntI a0 a1 ((k : Int) + 1)) > 1 by simp only [Int.ofNat_eq_natCast]; omega)]; rfl
      · unfold g37_s0
        rfl
    rw [hL]
    rfl
  · rw [dF q]
    unfold Sp10.conf
    rw [dF q]
    rfl
theorem g32_ok (a0 : (List (Int × ((Int × (Int × (Int × Unit))) × Unit)))) (a1 : Int) (r0 : (Ty.sl (owT)).ok a0) (r1 : IntKind.i64.has a1) : g32 a0 a1 = some (Sp10.conf a0 a1, ()) := by
  unfold g32
  by_cases q : chk a0 = 0
  · rw [dT q, conf_eq q, on_true (chk_ids q)]
    have hL : Loop (g32_s0 (counts a0 a1, ())) (([] : List Int), ((0 : Int), ())) = some (cfN a0 a1 256, ()) := by
      rw [Loop_step]
      have h0 : g32_s0 (counts a0 a1, ()) (([] : List Int), ((0 : Int), ())) = some (.inl (([] : List Int), ((1 : Int), ()))) := by
        unfold g32_s0
        simp only
        rw [counts_len, show (counts a0 a1).getD (Int.toNat 0) 0 = 0 from by
          rw [show Int.toNat 0 = 0 from rfl, counts_get a0 a1 0 (by omega)]
          rw [show ((0 : Nat) : Int) = 0 from rfl, cnt_zero q]
          rfl]
        rfl
      rw [h0]
      refine Loop_seq (step := g32_s0 (counts a0 a1, ())) (fun k => (cfN a0 a1 k, (((k : Int) + 1), ()))) 256 (cfN a0 a1 256, ()) (fun k hk => ?_) ?_ 0 (Nat.zero_le _)
      · have hc := cfN_len a0 a1 k
        rw [cfN_succ]
        unfold g32_s0
        have e : ((k : Int) + 1).toNat = k + 1 := by omega
        simp only [e]
        rw [dT (show (k : Int) + 1 < 257 by omega), dT (show (0 : Int) ≤ (k : Int) + 1 by omega), wi64 (n := (k : Int) + 1 + 1) (by omega) (by omega), ble_t (show ((cfN a0 a1 k).length + 1) * 8 ≤ 140737488355328 by omega), counts_len, counts_get a0 a1 (k + 1) (by omega), show ((k + 1 : Nat) : Int) = (k : Int) + 1 by omega]
        by_cases hc : 1 < cntI a0 a1 ((k : Int) + 1)
        · rw [dT hc, dT (show ((cntI a0 a1 ((k : Int) + 1) : Nat) : Int) > 1 by omega)]; rfl
        · rw [dF hc, dF (show ¬ ((cntI a0 a1 ((k : Int) + 1) : Nat) : Int) > 1 by omega)]; rfl
      · unfold g32_s0
        rfl
    simp only [Option.bind, Bool.not_true, cond_false]
    rw [hL]
  · rw [dF q]
    unfold Sp10.conf
    rw [dF q]
    rfl
def lnF (s : Int) (out : Int) (o : Ow) : Int := bif mine s o && (decide (out = 0) || decide (lenO o < out)) then lenO o else out
theorem lenM_eq {l : List Ow} (h : chk l = 0) (s : Int) : lenM l s = l.foldl (lnF s) 0 := by
  unfold lenM
  rw [dT h]
  rfl
theorem fold_take {α β : Type} (f : β → α → β) (b : β) (l : List α) (d : α) (k : Nat) (hk : k < l.length) : (l.take (k + 1)).foldl f b = f ((l.take k).foldl f b) (l.getD k d) := by
  rw [take_succ_getD l k d hk, List.foldl_append]
  rfl
theorem g39_ok (a0 : (List (Int × ((Int × (Int × (Int × Unit))) × Unit)))) (a1 : Int) (r0 : (Ty.sl (owT)).ok a0) (r1 : IntKind.i64.has a1) : g39 a0 a1 = some (Sp10.lenM a0 a1, ()) := by
  have hl := len_ow r0
  unfold g39
  by_cases q : chk a0 = 0
  · rw [dT q, lenM_eq q]
    have hL : Loop (g39_s0 a0 a1) ((0 : Int), ((0 : Int), ())) = some (a0.foldl (lnF a1) 0, ()) := by
      refine Loop_seq (step := g39_s0 a0 a1) (fun k => ((k : Int), ((a0.take k).foldl (lnF a1) 0, ()))) a0.length (a0.foldl (lnF a1) 0, ()) (fun k hk => ?_) ?_ 0 (Nat.zero_le _)
      · rw [fold_take (lnF a1) 0 a0 zO k hk]
        generalize (a0.take k).foldl (lnF a1) 0 = z
        unfold g39_s0 lnF mine subO lenO
        simp only [Int.ofNat_eq_natCast, Int.toNat_natCast]
        rw [dT (show (k : Int) < (a0.length : Int) by omega), dT (show (0 : Int) ≤ (k : Int) by omega), wi64n (by omega)]
        cases decide ((a0.getD k (0, (0, 0, 0, ()), ())).2.1.1 = a1) <;> cases decide (z = 0) <;> cases decide ((a0.getD k (0, (0, 0, 0, ()), ())).2.1.2.2.1 < z) <;> rfl
      · unfold g39_s0
        simp only [Int.ofNat_eq_natCast]
        rw [dF (show ¬ (a0.length : Int) < (a0.length : Int) by omega), List.take_length]
        rfl
    rw [hL]
    rfl
  · rw [dF q]
    unfold lenM
    rw [dF q]
    rfl
theorem g38_ok (a0 : (List (Int × ((Int × (Int × (Int × Unit))) × Unit)))) (a1 : Int) (r0 : (Ty.sl (owT)).ok a0) (r1 : IntKind.i64.has a1) : g38 a0 a1 = some (Sp10.lenM a0 a1, ()) := by
  have hl := len_ow r0
  unfold g38
  by_cases q : chk a0 = 0
  · rw [dT q, lenM_eq q]
    have hL : Loop (g38_s0 a0 a1) ((0 : Int), ((0 : Int), ())) = some (a0.foldl (lnF a1) 0, ()) := by
      refine Loop_seq (step := g38_s0 a0 a1) (fun k => ((a0.take k).foldl (lnF a1) 0, ((k : Int), ()))) a0.length (a0.foldl (lnF a1) 0, ()) (fun k hk => ?_) ?_ 0 (Nat.zero_le _)
      · rw [fold_take (lnF a1) 0 a0 zO k hk]
        generalize (a0.take k).foldl (lnF a1) 0 = z
        unfold g38_s0 lnF mine subO lenO
        simp only [Int.ofNat_eq_natCast, Int.toNat_natCast]
        rw [dT (show (k : Int) < (a0.length : Int) by omega), dT (show (0 : Int) ≤ (k : Int) by omega), wi64n (by omega)]
        cases decide ((a0.getD k (0, (0, 0, 0, ()), ())).2.1.1 = a1) <;> cases decide (z = 0) <;> cases decide ((a0.getD k (0, (0, 0, 0, ()), ())).2.1.2.2.1 < z) <;> rfl
      · unfold g38_s0
        simp only [Int.ofNat_eq_natCast]
        rw [dF (show ¬ (a0.length : Int) < (a0.length : Int) by omega), List.take_length]
        rfl
    rw [hL]
    rfl
  · rw [dF q]
    unfold lenM
    rw [dF q]
    rfl
end Go.Abs.C10

namespace Go.Abs.C10
open Go Go.Proofs Sp10
set_option maxRecDepth 100000

theorem order_wf {t : Tp} (h : wf t = true) : ∀ k, wf (orderN t k).2 = true ∧ (orderN t k).1.length = k ∧ ∀ x ∈ (orderN t k).1, 0 ≤ x ∧ x < (k : Int)
  | 0 => ⟨h, rfl, fun x hx => by cases hx⟩
  | k + 1 => by
    obtain ⟨h1, h2, h3⟩ := order_wf h k
    have hb := next_range (t := (orderN t k).2) (n := (k : Int) + 1) (by omega)
    refine ⟨next_wf (n := (k : Int) + 1) h1, ?_, ?_⟩
    · simp only [orderN, List.length_append, List.length_cons, List.length_take, List.length_drop]
      omega
    · intro x hx
      simp only [orderN, List.mem_append, List.mem_cons] at hx
      rcases hx with hx | rfl | hx
      · have := h3 x (List.mem_of_mem_take hx); omega
      · omega
      · have := h3 x (List.mem_of_mem_drop hx); omega
theorem g56_ok (a0 : (List Int)) (a1 : Int) (a2 : Int) (r0 : (Ty.sl (.int .i64)).ok a0) (r1 : IntKind.i64.has a1) (r2 : IntKind.i64.has a2) (h : (Sp10.wf (a0, a1, ()) && Sp10.inside a2 0 1000) = true) : g56 a0 a1 a2 = some (Sp10.order (a0, a1, ()) a2.toNat) := by
  simp only [Bool.and_eq_true, inside_iff] at h
  obtain ⟨hw, h1, h2⟩ := h
  obtain ⟨n, rfl⟩ : ∃ n : Nat, a2 = (n : Int) := ⟨a2.toNat, by omega⟩
  have hL : Loop (g56_s0 (n : Int)) ((a0, (a1, ())), (([] : List Int), ((0 : Int), ()))) = some ((orderN (a0, a1, ()) n).2, ((orderN (a0, a1, ()) n).1, ())) := by
    refine Loop_seq (step := g56_s0 (n : Int)) (fun k => ((orderN (a0, a1, ()) k).2, ((orderN (a0, a1, ()) k).1, ((k : Int), ())))) n _ (fun k hk => ?_) ?_ 0 (Nat.zero_le _)
    · obtain ⟨w, hl, -⟩ := order_wf hw k
      rw [orderN]
      generalize orderN (a0, a1, ()) k = s at w hl ⊢
      have hb := next_range (t := s.2) (n := (k : Int) + 1) (by omega)
      unfold g56_s0
      simp only [Int.ofNat_eq_natCast, Int.toNat_natCast, List.nil_append, List.drop_zero]
      rw [dT (show (k : Int) < (n : Int) by omega), wi64 (n := (k : Int) + 1) (by omega) (by omega), on_w w]
      simp only [Option.bind_some]
      have e : ((k + 1 : Nat) : Int) = (k : Int) + 1 := by omega
      generalize next s.2 ((k : Int) + 1) = a at hb ⊢
      have l1 : (List.take a.1.toNat s.1).length ≤ 1000 := by rw [List.length_take]; omega
      have l2 : (List.drop a.1.toNat (List.take s.1.length s.1)).length ≤ 1000 := by rw [List.length_drop, List.length_take]; omega
      rw [dT hb.1, dT (show a.1 ≤ (s.1.length : Int) by omega), dT (Int.le_refl _), ble_t (show (0 + (List.take a.1.toNat s.1).length) * 8 ≤ 140737488355328 by omega), ble_t (show ((List.take a.1.toNat s.1).length + 1) * 8 ≤ 140737488355328 by omega), ble_t (show ((List.take a.1.toNat s.1 ++ [(k : Int)]).length + (List.drop a.1.toNat (List.take s.1.length s.1)).length) * 8 ≤ 140737488355328 by rw [List.length_append, List.length_singleton]; omega), List.take_length, List.append_assoc, e]
      rfl
    · unfold g56_s0
      rw [dF (show ¬ (n : Int) < (n : Int) by omega)]
      rfl
  unfold g56
  rw [hL]
  rfl
theorem len_in (t : Tp) : (Sp10.length t).1 = 8 ∨ (Sp10.length t).1 = 16 ∨ (Sp10.length t).1 = 32 ∨ (Sp10.length t).1 = 64 := by
  have h := pick_mem t (l := [8, 8, 16, 32, 64]) (by decide)
  simp only [List.mem_cons, List.not_mem_nil, or_false] at h
  unfold Sp10.length
  omega
theorem on_pk {t : Tp} (h : wf t = true) (n : Nat) (h1 : 0 < n) (h2 : n ≤ 1000) {α : Type} (x : α) : Sp10.on (wf t && decide (0 < n) && decide (n ≤ 1000)) x = some x := on_true (by rw [h, dT h1, dT h2]; rfl)
theorem edges_wf (g : To) (len : Int) (hl : 8 ≤ len ∧ len ≤ 64) (t : Tp) (h : wf t = true) (o : List Int) : ∀ k, k ≤ o.length →
    wf (edgesN g len ([], 0, t) (o.take k)).2.2 = true ∧ 0 ≤ (edgesN g len ([], 0, t) (o.take k)).2.1 ∧ (edgesN g len ([], 0, t) (o.take k)).2.1 ≤ 63 * (k : Int) ∧ (edgesN g len ([], 0, t) (o.take k)).1.length ≤ k
  | 0, _ => ⟨h, Int.le_refl _, Int.le_refl _, Nat.le_refl _⟩
  | k + 1, hk => by
    obtain ⟨h1, h2, h3, h4⟩ := edges_wf g len hl t h o k (by omega)
    unfold edgesN at *
    rw [fold_take (edgeS g len) _ o 0 k (by omega)]
    generalize (o.take k).foldl (edgeS g len) ([], 0, t) = s at h1 h2 h3 h4 ⊢
    have w1 := next_wf (n := 4) h1
    unfold edgeS
    simp only
    generalize next s.2.2 4 = c at w1 ⊢
    cases decide (c.1 = 0) with
    | true => exact ⟨w1, h2, by simp only [cond_true]; omega, by simp only [cond_true]; omega⟩
    | false =>
      simp only [cond_false]
      have w2 := pick_wf (l := [1, 1, 1, 2, len - 1]) w1
      have m2 := pick_mem c.2 (l := [1, 1, 1, 2, len - 1]) (by simp)
      simp only [List.mem_cons, List.not_mem_nil, or_false] at m2
      generalize Sp10.pick c.2 [1, 1, 1, 2, len - 1] = p at w2 m2 ⊢
      cases decide (s.2.1 + p.1 ≤ 256) with
      | true => exact ⟨w2, by simp only [cond_true]; omega, by simp only [cond_true]; omega, by simp only [cond_true, List.length_append, List.length_cons, List.length_nil]; omega⟩
      | false => exact ⟨w2, by simp only [cond_false]; omega, by simp only [cond_false]; omega, by simp only [cond_false]; omega⟩
theorem g26_ok (a0 : (List Int)) (a1 : Int) (a2 : (List (Int × (Bool × Unit)))) (a3 : (List (Int × (Int × (Int × (Int × (Int × Unit))))))) (a4 : Int) (r0 : (Ty.sl (.int .i64)).ok a0) (r1 : IntKind.i64.has a1) (r2 : (Ty.sl (rtT)).ok a2) (r3 : (Ty.sl (lkT)).ok a3) (r4 : IntKind.i64.has a4) (h : (Sp10.wf (a0, a1, ()) && Sp10.small a4 && decide (a2.length ≤ 1000)) = true) : g26 a0 a1 a2 a3 a4 = some (Sp10.planT (a0, a1, ()) (a2, a3, ()) a4) := by
  simp only [Bool.and_eq_true, decide_eq_true_eq, small_iff] at h
  obtain ⟨⟨hw, hs⟩, hg⟩ := h
  unfold g26 planT
  simp only
  have w1 := next_wf (n := 3) hw
  rw [on_w hw]
  simp only [Option.bind_some]
  generalize next (a0, a1, ()) 3 = x at w1 ⊢
  have w2 := length_wf w1
  have l2 := len_in x.2
  rw [on_w w1]
  simp only [Option.bind_some]
  generalize Sp10.length x.2 = b at w2 l2 ⊢
  rw [on_true (show (wf b.2 && Sp10.inside (Int.ofNat a2.length) 0 1000) = true by rw [w2, inside_iff.2 (by simp only [Int.ofNat_eq_natCast]; omega)]; rfl)]
  simp only [Option.bind_some, Int.ofNat_eq_natCast, Int.toNat_natCast]
  obtain ⟨w3, l3, m3⟩ := order_wf w2 a2.length
  change wf (order b.2 a2.length).2 = true at w3
  change (order b.2 a2.length).1.length = _ at l3
  change ∀ x ∈ (order b.2 a2.length).1, _ at m3
  generalize order b.2 a2.length = o at w3 l3 m3 ⊢
  have hL : Loop (g26_s0 a2) ((0 : Int), ((x.1, (b.1, (([] : List Ed), ()))), ((0 : Int), (o.2, (o.1, ()))))) = some ((x.1, (b.1, ((edgesN (a2, a3, ()) b.1 ([], 0, o.2) o.1).1, ()))), ((edgesN (a2, a3, ()) b.1 ([], 0, o.2) o.1).2.1, ((edgesN (a2, a3, ()) b.1 ([], 0, o.2) o.1).2.2, ()))) := by
    refine Loop_seq (step := g26_s0 a2) (fun k => ((k : Int), ((x.1, (b.1, ((edgesN (a2, a3, ()) b.1 ([], 0, o.2) (o.1.take k)).1, ()))), ((edgesN (a2, a3, ()) b.1 ([], 0, o.2) (o.1.take k)).2.1, ((edgesN (a2, a3, ()) b.1 ([], 0, o.2) (o.1.take k)).2.2, (o.1, ())))))) o.1.length _ (fun k hk => ?_) ?_ 0 (Nat.zero_le _)
    · obtain ⟨h1, h2, h3, h4⟩ := edges_wf (a2, a3, ()) b.1 (by omega) o.2 w3 o.1 k (by omega)
      have hm := m3 _ (getD_mem (d := 0) hk)
      unfold edgesN at *
      rw [fold_take (edgeS (a2, a3, ()) b.1) _ o.1 0 k hk]
      generalize (o.1.take k).foldl (edgeS (a2, a3, ()) b.1) ([], 0, o.2) = s at h1 h2 h3 h4 ⊢
      unfold g26_s0
      simp only [Int.ofNat_eq_natCast, Int.toNat_natCast]
      rw [dT (show (k : Int) < (o.1.length : Int) by omega), on_w h1, wi64n (by omega)]
      simp only [Option.bind_some, cond_true]
      have w4 := next_wf (n := 4) h1
      conv => rhs; unfold edgeS
      simp only
      generalize next s.2.2 4 = c at w4 ⊢
      cases decide (c.1 = 0) with
      | true => rfl
      | false =>
        simp only [cond_false]
        rw [wi64 (n := b.1 - 1) (by omega) (by omega), on_true (show (wf c.2 && decide (0 < [1, 1, 1, 2, b.1 - 1].length) && decide ([1, 1, 1, 2, b.1 - 1].length ≤ 1000)) = true by rw [w4]; rfl)]
        simp only [Option.bind_some]
        have m2 := pick_mem c.2 (l := [1, 1, 1, 2, b.1 - 1]) (by simp)
        simp only [List.mem_cons, List.not_mem_nil, or_false] at m2
        generalize Sp10.pick c.2 [1, 1, 1, 2, b.1 - 1] = p at m2 ⊢
        rw [wi64 (n := s.2.1 + p.1) (by omega) (by omega)]
        cases decide (s.2.1 + p.1 ≤ 256) with
        | false => rfl
        | true =>
          rw [dT (show (0 : Int) ≤ (k : Int) by omega), blt_t hk, dT hm.1, dT (show o.1.getD k 0 < (a2.length : Int) by omega), ble_t (show (s.1.length + 1) * 16 ≤ 140737488355328 by omega)]
          rfl
    · unfold g26_s0
      simp only [Int.ofNat_eq_natCast]
      rw [dF (show ¬ (o.1.length : Int) < (o.1.length : Int) by omega), List.take_length]
      rfl
  rw [hL]
  simp only [Option.bind_some]
  obtain ⟨w4, i1, i2, l4⟩ := edges_wf (a2, a3, ()) b.1 (by omega) o.2 w3 o.1 o.1.length (Nat.le_refl _)
  rw [List.take_length] at w4 i1 i2 l4
  generalize edgesN (a2, a3, ()) b.1 ([], 0, o.2) o.1 = e at w4 i1 i2 l4 ⊢
  by_cases ha : 0 < a4
  · rw [dT (show a4 > 0 from ha)]
    first | rw [dT ha] | skip
    simp only [cond_true]
    rw [on_ws w4 hs]
    simp only [Option.bind_some]
    have w5 := one_wf (n := a4) w4
    generalize one e.2.2 a4 = q at w5 ⊢
    cases q.1 with
    | false => rfl
    | true =>
      simp only [cond_true]
      rw [on_w w5]
      simp only [Option.bind_some]
      unfold spoilP
      simp only
      have w6 := next_wf (n := 5) w5
      generalize next q.2 5 = m at w6 ⊢
      have b16 : Nat.ble ((e.1.length + 1) * 16) 140737488355328 = true := ble_t (by omega)
      by_cases m0 : m.1 = 0
      · simp only [decide_eq_true m0, cond_true]
        rw [on_w w6]
        rfl
      · simp only [decide_eq_false m0, cond_false]
        by_cases m1 : m.1 = 1
        · simp only [decide_eq_true m1, cond_true]
          rw [on_pk w6 5 (by decide) (by decide)]
          rfl
        · simp only [decide_eq_false m1, cond_false]
          by_cases m2 : m.1 = 2
          · simp only [decide_eq_true m2, cond_true]
            rw [on_pk w6 4 (by decide) (by decide)]
            simp only [Option.bind_some]
            rw [on_pk (pick_wf (l := [0, 1, 99, 100]) w6) 4 (by decide) (by decide)]
            simp only [Option.bind_some, b16]
            rfl
          · simp only [decide_eq_false m2, cond_false]
            by_cases m3 : m.1 = 3
            · simp only [decide_eq_true m3, cond_true]
              by_cases hz : 0 < e.1.length
              · rw [dT (show (e.1.length : Int) > 0 by omega), dT hz, on_w w6]
                simp only [Option.bind_some, cond_true]
                rw [blt_t hz]
                rfl
              · rw [dF (show ¬ (e.1.length : Int) > 0 by omega), dF hz]
                rfl
            · simp only [decide_eq_false m3, cond_false]
              rw [b16, wi64 (n := e.2.1 + 1) (by omega) (by omega)]
              rfl
  · rw [dF (show ¬ a4 > 0 from ha)]
    first | rfl | (rw [dF ha]; rfl)
theorem claim_wf (r s : Int) (st : List Ow × Tp) (h : wf st.2 = true) : wf (claim1 r s st).2 = true ∧ (claim1 r s st).1.length ≤ st.1.length + 1 := by
  unfold claim1
  simp only
  have w1 := next_wf (n := 3) h
  generalize next st.2 3 = x at w1 ⊢
  cases decide (0 < x.1) with
  | false => exact ⟨w1, by simp only [cond_false]; omega⟩
  | true => exact ⟨length_wf (pick_wf (l := [1, 2, 3, 4, 5, 8, 9, 256]) w1), by simp only [cond_true, List.length_append, List.length_cons, List.length_nil]; omega⟩
theorem claimsS_wf (r : Int) (st : List Ow × Tp) (h : wf st.2 = true) : ∀ k, wf (claimsS r st k).2 = true ∧ (claimsS r st k).1.length ≤ st.1.length + k
  | 0 => ⟨h, Nat.le_refl _⟩
  | k + 1 => by
    obtain ⟨h1, h2⟩ := claimsS_wf r st h k
    have := claim_wf r k (claimsS r st k) h1
    exact ⟨this.1, by rw [claimsS]; omega⟩
theorem claimsN_wf (t : Tp) (h : wf t = true) : ∀ k, wf (claimsN t k).2 = true ∧ (claimsN t k).1.length ≤ 3 * k
  | 0 => ⟨h, Nat.le_refl _⟩
  | k + 1 => by
    obtain ⟨h1, h2⟩ := claimsN_wf t h k
    have := claimsS_wf ((k : Int) + 1) (claimsN t k) h1 3
    exact ⟨this.1, by rw [claimsN]; omega⟩
theorem g11_ok (a0 : (List Int)) (a1 : Int) (a2 : Int) (a3 : Int) (r0 : (Ty.sl (.int .i64)).ok a0) (r1 : IntKind.i64.has a1) (r2 : IntKind.i64.has a2) (r3 : IntKind.i64.has a3) (h : (Sp10.wf (a0, a1, ()) && Sp10.inside a2 0 100 && Sp10.small a3) = true) : g11 a0 a1 a2 a3 = some (Sp10.claims (a0, a1, ()) a2 a3) := by
  simp only [Bool.and_eq_true, inside_iff, small_iff] at h
  obtain ⟨⟨hw, h1, h2⟩, hs⟩ := h
  obtain ⟨n, rfl⟩ : ∃ n : Nat, a2 = (n : Int) := ⟨a2.toNat, by omega⟩
  have hin : ∀ (r : Nat) (z : List Ow × Tp) (y : Int × Tp × List Ow × Unit), wf z.2 = true → z.1.length ≤ 1000 → r ≤ 1000 → y.1 = (r : Int) + 1 → Loop (g11_s0 y) ((0 : Int), (z.2, (z.1, ()))) = some ((claimsS ((r : Int) + 1) z 3).2, ((claimsS ((r : Int) + 1) z 3).1, ())) := by
    intro r z y hz hzl hr hy
    refine Loop_seq (step := g11_s0 y) (fun k => ((k : Int), ((claimsS ((r : Int) + 1) z k).2, ((claimsS ((r : Int) + 1) z k).1, ())))) 3 _ (fun k hk => ?_) ?_ 0 (Nat.zero_le _)
    · obtain ⟨w, l⟩ := claimsS_wf ((r : Int) + 1) z hz k
      rw [claimsS]
      generalize claimsS ((r : Int) + 1) z k = st at w l ⊢
      unfold g11_s0
      simp only
      rw [dT (show (k : Int) < 3 by omega), on_w w, wi64n (by omega)]
      simp only [Option.bind_some, cond_true]
      conv => rhs; unfold claim1
      simp only
      have w1 := next_wf (n := 3) w
      generalize next st.2 3 = x at w1 ⊢
      by_cases hx : 0 < x.1
      · rw [dT (show x.1 > 0 from hx)]
        first | rw [dT hx] | skip
        simp only [cond_true]
        rw [on_pk w1 8 (by decide) (by decide)]
        simp only [Option.bind_some]
        have w2 := pick_wf (l := [1, 2, 3, 4, 5, 8, 9, 256]) w1
        rw [on_w w2]
        simp only [Option.bind_some]
        rw [ble_t (show (st.1.length + 1) * 32 ≤ 140737488355328 by omega), hy]
        rfl
      · rw [dF (show ¬ x.1 > 0 from hx)]
        first | rfl | (rw [dF hx]; rfl)
    · unfold g11_s0
      rfl
  have hL : Loop (g11_s1 (n : Int)) ((1 : Int), ((a0, (a1, ())), (([] : List Ow), ()))) = some ((claimsN (a0, a1, ()) n).2, ((claimsN (a0, a1, ()) n).1, ())) := by
    refine Loop_seq (step := g11_s1 (n : Int)) (fun k => ((k : Int) + 1, ((claimsN (a0, a1, ()) k).2, ((claimsN (a0, a1, ()) k).1, ())))) n _ (fun k hk => ?_) ?_ 0 (Nat.zero_le _)
    · obtain ⟨w, l⟩ := claimsN_wf (a0, a1, ()) hw k
      rw [claimsN]
      unfold g11_s1
      simp only
      rw [dT (show (k : Int) + 1 ≤ (n : Int) by omega), hin k (claimsN (a0, a1, ()) k) _ w (by omega) (by omega) rfl, wi64 (n := (k : Int) + 1 + 1) (by omega) (by omega)]
      rfl
    · unfold g11_s1
      rw [dF (show ¬ (n : Int) + 1 ≤ (n : Int) by omega)]
      rfl
  unfold g11 claims
  rw [hL]
  simp only [Option.bind_some, Int.toNat_natCast]
  obtain ⟨w, l⟩ := claimsN_wf (a0, a1, ()) hw n
  generalize claimsN (a0, a1, ()) n = s at w l ⊢
  by_cases ha : 0 < a3
  · rw [dT (show a3 > 0 from ha)]
    first | rw [dT ha] | skip
    simp only [cond_true]
    rw [on_ws w hs]
    simp only [Option.bind_some]
    have w5 := one_wf (n := a3) w
    generalize one s.2 a3 = q at w5 ⊢
    cases q.1 with
    | false => rfl
    | true =>
      simp only [cond_true]
      unfold claimX
      simp only
      rw [on_pk w5 5 (by decide) (by decide)]
      simp only [Option.bind_some]
      have v1 := pick_wf (l := [0, 1, 9, 99, 100]) w5
      rw [on_pk v1 4 (by decide) (by decide)]
      simp only [Option.bind_some]
      have v2 := pick_wf (l := [0, 7, 8, -1]) v1
      rw [on_pk v2 4 (by decide) (by decide)]
      simp only [Option.bind_some]
      have v3 := pick_wf (l := [0, 1, 256, 257]) v2
      rw [on_pk v3 4 (by decide) (by decide)]
      simp only [Option.bind_some]
      rw [ble_t (show (s.1.length + 1) * 32 ≤ 140737488355328 by omega)]
      rfl
  · rw [dF (show ¬ a3 > 0 from ha)]
    first | rfl | (rw [dF ha]; rfl)
end Go.Abs.C10

namespace Go.Abs.C10
open Go Go.Proofs Sp10
set_option maxRecDepth 100000

theorem swoE : Go.Sort.SWO ltE where
  irrefl x := by unfold ltE; exact decide_eq_false (by omega)
  trans x y z h1 h2 := by unfold ltE at *; rw [decide_eq_true_eq] at *; omega
  ntrans x y z h1 h2 := by unfold ltE at *; rw [decide_eq_false_iff_not] at *; omega
theorem uniq_of_lt : ∀ {m : List Ed}, m.Pairwise (fun a b => a.2.1 < b.2.1) → ∀ a ∈ m, ∀ b ∈ m, a.2.1 = b.2.1 → a = b
  | [], _, a, ha, _, _, _ => by cases ha
  | x :: r, h, a, ha, b, hb, e => by
    obtain ⟨h1, h2⟩ := List.pairwise_cons.1 h
    rcases List.mem_cons.1 ha with ea | ha2
    · rcases List.mem_cons.1 hb with eb | hb2
      · rw [ea, eb]
      · have := h1 b hb2; rw [← ea] at this; omega
    · rcases List.mem_cons.1 hb with eb | hb2
      · have := h1 a ha2; rw [← eb] at this; omega
      · exact uniq_of_lt h2 a ha2 b hb2 e
theorem sortE_eq {l m : List Ed} (hp : l.Perm m) (hs : m.Pairwise (fun a b => a.2.1 < b.2.1)) : sortE l = m := by
  obtain ⟨⟨k1, -, k2⟩, k3⟩ := Go.Sort.pdq_sorts ltE swoE l.toArray 0 l.length (Go.Lib.bitLen l.length) true true (Nat.zero_le _) (by simp) (.inl rfl)
  have hd : sortE l = (Go.Sort.pdq ltE l.toArray 0 l.length (Go.Lib.bitLen l.length) true true).toList := rfl
  generalize Go.Sort.pdq ltE l.toArray 0 l.length (Go.Lib.bitLen l.length) true true = d at k1 k2 k3 hd
  have hsz : d.size = l.length := by simpa using k1
  have kp : d.toList.Perm l := by
    have e1 : (d.extract 0 l.length).toList = d.toList := by rw [← hsz]; simp
    have e2 : (l.toArray.extract 0 l.length).toList = l := by simp
    rw [e1, e2] at k2
    exact k2
  have ks : d.toList.Pairwise (fun a b => a.2.1 ≤ b.2.1) := by
    rw [List.pairwise_iff_getElem]
    intro i j hi hj hij
    have hi' : i < d.size := by simpa using hi
    have hj' : j < d.size := by simpa using hj
    have := k3 i j (Nat.zero_le _) hij (by omega)
    rw [getElem!_pos d j hj', getElem!_pos d i hi'] at this
    unfold ltE at this
    rw [decide_eq_false_iff_not] at this
    have h : d[i].2.1 ≤ d[j].2.1 := by omega
    simpa using h
  rw [hd]
  refine List.Perm.eq_of_pairwise (le := fun a b => a.2.1 ≤ b.2.1) (fun a b ha hb h1 h2 => ?_) ks (hs.imp fun h => by omega) (kp.trans hp)
  exact uniq_of_lt hs a ((kp.trans hp).subset ha) b hb (by omega)
theorem flat_ins {α : Type} (x : α) (F : Nat → List α) (k : Nat) : ∀ n, k < n → ((List.range n).flatMap fun i => if k = i then x :: F i else F i).Perm (x :: (List.range n).flatMap F)
  | 0, h => absurd h (by omega)
  | n + 1, h => by
    rw [List.range_succ, List.flatMap_append, List.flatMap_append]
    simp only [List.flatMap_cons, List.flatMap_nil, List.append_nil]
    by_cases hk : k = n
    · rw [if_pos hk]
      have : ((List.range n).flatMap fun i => if k = i then x :: F i else F i) = (List.range n).flatMap F := by
        rw [List.flatMap_def, List.flatMap_def]
        congr 1
        refine List.map_congr_left fun i hi => ?_
        rw [if_neg (by have := List.mem_range.1 hi; omega)]
      rw [this]
      exact List.perm_middle
    · rw [if_neg hk]
      exact ((flat_ins x F k n (by omega)).append_right _)
theorem flat_key {α : Type} (key : α → Nat) (p : α → Bool) (n : Nat) : ∀ l : List α, (∀ x ∈ l, p x = true → key x < n) → (l.filter p).Perm ((List.range n).flatMap fun i => l.filter fun o => p o && decide (key o = i))
  | [], _ => by
    have : ((List.range n).flatMap fun i => ([] : List α).filter fun o => p o && decide (key o = i)) = [] := by
      rw [List.flatMap_eq_nil_iff]
      intro i _
      rfl
    rw [this]
    exact List.Perm.refl _
  | x :: r, h => by
    have ih := flat_key key p n r fun y hy => h y (List.mem_cons_of_mem _ hy)
    cases hp : p x with
    | false =>
      rw [List.filter_cons_of_neg (by rw [hp]; exact Bool.false_ne_true)]
      have : (fun i => (x :: r).filter fun o => p o && decide (key o = i)) = fun i => r.filter fun o => p o && decide (key o = i) := by
        funext i
        rw [List.filter_cons_of_neg]
        rw [hp]
        exact Bool.false_ne_true
      rw [this]
      exact ih
    | true =>
      rw [List.filter_cons_of_pos hp]
      have : (fun i => (x :: r).filter fun o => p o && decide (key o = i)) = fun i => if key x = i then x :: (r.filter fun o => p o && decide (key o = i)) else r.filter fun o => p o && decide (key o = i) := by
        funext i
        by_cases hk : key x = i
        · rw [if_pos hk, List.filter_cons_of_pos (by rw [hp, dT hk]; rfl)]
        · rw [if_neg hk, List.filter_cons_of_neg (by rw [hp, dF hk]; exact Bool.false_ne_true)]
      rw [this]
      exact (List.Perm.cons x ih).trans (flat_ins x _ (key x) n (h x (List.mem_cons_self ..) hp)).symm
def one1 (l : List Ow) (s : Int) (o : Ow) : Bool := mine s o && decide (cntI l s (idO o) = 1)
def edF1 (l : List Ow) (s : Int) (i : Nat) : List Ed := bif decide (cntI l s ((i : Int) + 1) = 1) then (l.filter (hit s ((i : Int) + 1))).map edge else []
theorem edges_def (l : List Ow) (s : Int) : edges l s = (List.range 256).flatMap (edF1 l s) := rfl
theorem edF1_eq {l : List Ow} (h : chk l = 0) (s : Int) (i : Nat) : edF1 l s i = (l.filter fun o => one1 l s o && decide ((idO o - 1).toNat = i)).map edge := by
  unfold edF1
  by_cases q : cntI l s ((i : Int) + 1) = 1
  · rw [dT q]
    show List.map edge _ = _
    congr 1
    refine List.filter_congr fun o ho => ?_
    have hb := badO_not (chk_mem h ho)
    unfold hit one1 mine
    by_cases h1 : subO o = s
    · by_cases h2 : idO o = (i : Int) + 1
      · rw [dT h1, dT h2, h2, dT q, dT (show ((i : Int) + 1 - 1).toNat = i by omega)]; rfl
      · rw [dT h1, dF h2, dF (show ¬ (idO o - 1).toNat = i by omega), Bool.and_false, Bool.and_false]
    · rw [dF h1]; rfl
  · rw [dF q]
    have : (l.filter fun o => one1 l s o && decide ((idO o - 1).toNat = i)) = [] := by
      rw [List.filter_eq_nil_iff]
      intro o ho hh
      have hb := badO_not (chk_mem h ho)
      rw [Bool.and_eq_true, decide_eq_true_eq] at hh
      unfold one1 at hh
      rw [Bool.and_eq_true, decide_eq_true_eq] at hh
      rw [show idO o = (i : Int) + 1 by omega] at hh
      exact q hh.1.2
    rw [this]
    rfl
theorem edges_perm {l : List Ow} (h : chk l = 0) (s : Int) : ((l.filter (one1 l s)).map edge).Perm (edges l s) := by
  rw [edges_def]
  have e : (List.range 256).flatMap (edF1 l s) = ((List.range 256).flatMap fun i => l.filter fun o => one1 l s o && decide ((idO o - 1).toNat = i)).map edge := by
    rw [List.map_flatMap]
    congr 1
    funext i
    exact edF1_eq h s i
  rw [e]
  refine List.Perm.map _ (flat_key (fun o => (idO o - 1).toNat) (one1 l s) 256 l fun o ho _ => ?_)
  have := badO_not (chk_mem h ho)
  omega
theorem edF1_id {l : List Ow} {s : Int} {i : Nat} {e : Ed} (he : e ∈ edF1 l s i) : e.2.1 = (i : Int) + 1 := by
  unfold edF1 at he
  cases hq : decide (cntI l s ((i : Int) + 1) = 1) with
  | false => rw [hq] at he; cases he
  | true =>
    rw [hq] at he
    obtain ⟨o, ho, rfl⟩ := List.mem_map.1 he
    have := (List.mem_filter.1 ho).2
    unfold hit at this
    rw [Bool.and_eq_true, decide_eq_true_eq, decide_eq_true_eq] at this
    exact this.2
theorem edF1_len (l : List Ow) (s : Int) (i : Nat) : (edF1 l s i).length ≤ 1 := by
  unfold edF1
  by_cases q : cntI l s ((i : Int) + 1) = 1
  · rw [dT q]
    show (List.map edge _).length ≤ 1
    rw [List.length_map, ← List.countP_eq_length_filter]
    exact Nat.le_of_eq q
  · rw [dF q]; exact Nat.zero_le _
theorem edges_up (l : List Ow) (s : Int) : (edges l s).Pairwise (fun a b => a.2.1 < b.2.1) := by
  rw [edges_def, List.pairwise_flatMap]
  refine ⟨fun i _ => ?_, ?_⟩
  · have := edF1_len l s i
    match h : edF1 l s i with
    | [] => exact List.Pairwise.nil
    | [x] => exact List.pairwise_singleton _ _
    | _ :: _ :: _ => rw [h] at this; simp at this
  · rw [List.pairwise_iff_getElem]
    intro i j hi hj hij x hx y hy
    have e1 := edF1_id hx
    have e2 := edF1_id hy
    simp only [List.getElem_range] at e1 e2
    omega
theorem sort_edges {l : List Ow} (h : chk l = 0) (s : Int) : sortE ((l.filter (one1 l s)).map edge) = edges l s := sortE_eq (edges_perm h s) (edges_up l s)
theorem edges_len {l : List Ow} (h : chk l = 0) (s : Int) : ((l.filter (one1 l s)).map edge).length = (edges l s).length := (edges_perm h s).length_eq
def prE (l : List Ow) (s : Int) (k : Nat) : List Ed := ((l.take k).filter (one1 l s)).map edge
theorem prE_len (l : List Ow) (s : Int) (k : Nat) : (prE l s k).length ≤ k := by
  unfold prE
  rw [List.length_map]
  have := List.length_filter_le (one1 l s) (l.take k)
  rw [List.length_take] at this
  omega
theorem prE_succ (l : List Ow) (s : Int) (k : Nat) (hk : k < l.length) : prE l s (k + 1) = bif one1 l s (l.getD k zO) then prE l s k ++ [edge (l.getD k zO)] else prE l s k := by
  unfold prE
  rw [take_succ_getD l k zO hk, List.filter_append, List.map_append]
  cases h : one1 l s (l.getD k zO) with
  | true => rw [List.filter_cons_of_pos h]; rfl
  | false => rw [List.filter_cons_of_neg (by rw [h]; exact Bool.false_ne_true)]; simp
theorem g34_ok (a0 : (List (Int × ((Int × (Int × (Int × Unit))) × Unit)))) (a1 : Int) (r0 : (Ty.sl (owT)).ok a0) (r1 : IntKind.i64.has a1) : g34 a0 a1 = some (Sp10.plan a0 a1, ()) := by
  have hl := len_ow r0
  unfold g34 Sp10.plan
  by_cases q : chk a0 = 0
  · rw [dT q]
    cases hi : Sp10.inside a1 0 7 with
    | false => rfl
    | true =>
      simp only [Bool.not_true, cond_false]
      rw [on_true (chk_ids q)]
      simp only [Option.bind_some, Bool.true_and]
      rw [counts_len]
      have hL : Loop (g34_s0 a0 a1 (counts a0 a1, ())) ((a1, (lenM a0 a1, (([] : List Ed), ()))), ((0 : Int), ())) = some ((a1, (lenM a0 a1, (prE a0 a1 a0.length, ()))), ()) := by
        refine Loop_seq (step := g34_s0 a0 a1 (counts a0 a1, ())) (fun k => ((a1, (lenM a0 a1, (prE a0 a1 k, ()))), ((k : Int), ()))) a0.length _ (fun k hk => ?_) ?_ 0 (Nat.zero_le _)
        · have hp := prE_len a0 a1 k
          rw [prE_succ a0 a1 k hk]
          generalize prE a0 a1 k = z at hp ⊢
          obtain ⟨h0, h1⟩ := ids_at (chk_ids q) hk
          have hg := counts_get a0 a1 (idO (a0.getD k zO)).toNat (by omega)
          rw [show (((idO (a0.getD k zO)).toNat : Nat) : Int) = idO (a0.getD k zO) by omega] at hg
          unfold g34_s0 one1 mine edge
          unfold idO subO at *
          simp only [Int.ofNat_eq_natCast, Int.toNat_natCast, Nat.mul_one]
          rw [fixN_eq (counts_len a0 a1), counts_len, dT (show (k : Int) < (a0.length : Int) by omega), dT (show (0 : Int) ≤ (k : Int) by omega), wi64n (by omega), dT h0, dT (show (a0.getD k zO).2.1.2.1 < 257 by omega), blt_t (show (a0.getD k zO).2.1.2.1.toNat < 257 by omega), hg, ble_t (show (z.length + 1) * 16 ≤ 140737488355328 by omega)]
          by_cases q1 : (a0.getD k zO).2.1.1 = a1
          · rw [dT q1]
            by_cases q2 : cntI a0 a1 (a0.getD k zO).2.1.2.1 = 1
            · rw [dT q2, q2]; rfl
            · rw [dF q2, dF (show ¬ ((cntI a0 a1 (a0.getD k zO).2.1.2.1 : Nat) : Int) = 1 by omega)]; rfl
          · rw [dF q1]; rfl
        · unfold g34_s0
          simp only [Int.ofNat_eq_natCast]
          rw [dF (show ¬ (a0.length : Int) < (a0.length : Int) by omega)]
          rfl
      have he : prE a0 a1 a0.length = (a0.filter (one1 a0 a1)).map edge := by unfold prE; rw [List.take_length]
      rw [show Nat.beq 257 257 = true from rfl]
      simp only [cond_true]
      rw [hL]
      simp only [Option.bind_some, Int.ofNat_eq_natCast]
      rw [he, sort_edges q, edges_len q]
      by_cases q3 : 24 < (edges a0 a1).length
      · rw [dT q3, dT (show ((edges a0 a1).length : Int) > 24 by omega)]; rfl
      · rw [dF q3, dF (show ¬ ((edges a0 a1).length : Int) > 24 by omega)]; rfl
  · rw [dF q]
    rfl
end Go.Abs.C10

namespace Go.Abs.C10
open Go Go.Proofs Sp10
set_option maxRecDepth 100000

theorem flat_len (l : List Ow) (s : Int) : ∀ k, ((List.range k).flatMap (edF1 l s)).length ≤ k
  | 0 => Nat.le_refl _
  | k + 1 => by
    rw [List.range_succ, List.flatMap_append, List.length_append]
    have h1 := flat_len l s k
    have h2 := edF1_len l s k
    simp only [List.flatMap_cons, List.flatMap_nil, List.append_nil]
    omega
theorem flat_succ (l : List Ow) (s : Int) (k : Nat) : (List.range (k + 1)).flatMap (edF1 l s) = (List.range k).flatMap (edF1 l s) ++ edF1 l s k := by
  rw [List.range_succ, List.flatMap_append]
  simp only [List.flatMap_cons, List.flatMap_nil, List.append_nil]
def hitsN (l : List Ow) (s id : Int) (k : Nat) : List Ed := ((l.take k).filter (hit s id)).map fun o => (o.1, id, ())
theorem hitsN_len (l : List Ow) (s id : Int) (k : Nat) : (hitsN l s id k).length ≤ k := by
  unfold hitsN
  rw [List.length_map]
  have := List.length_filter_le (hit s id) (l.take k)
  rw [List.length_take] at this
  omega
theorem hitsN_succ (l : List Ow) (s id : Int) (k : Nat) (hk : k < l.length) : hitsN l s id (k + 1) = bif hit s id (l.getD k zO) then hitsN l s id k ++ [((l.getD k zO).1, id, ())] else hitsN l s id k := by
  unfold hitsN
  rw [take_succ_getD l k zO hk, List.filter_append, List.map_append]
  cases h : hit s id (l.getD k zO) with
  | true => rw [List.filter_cons_of_pos h]; rfl
  | false => rw [List.filter_cons_of_neg (by rw [h]; exact Bool.false_ne_true)]; simp
theorem hitsN_all (l : List Ow) (s : Int) (i : Nat) (h : cntI l s ((i : Int) + 1) = 1) : hitsN l s ((i : Int) + 1) l.length = edF1 l s i := by
  unfold hitsN edF1
  rw [dT h, List.take_length]
  show List.map _ _ = List.map _ _
  refine List.map_congr_left fun o ho => ?_
  have := (List.mem_filter.1 ho).2
  unfold hit at this
  rw [Bool.and_eq_true, decide_eq_true_eq, decide_eq_true_eq] at this
  unfold edge
  rw [this.2]
theorem g40_ok (a0 : (List (Int × ((Int × (Int × (Int × Unit))) × Unit)))) (a1 : Int) (r0 : (Ty.sl (owT)).ok a0) (r1 : IntKind.i64.has a1) : g40 a0 a1 = some (Sp10.plan a0 a1, ()) := by
  have hl := len_ow r0
  unfold g40 Sp10.plan
  by_cases q : chk a0 = 0
  · rw [dT q]
    have hl2 := (chk_0 q).1
    cases hi : Sp10.inside a1 0 7 with
    | false => rfl
    | true =>
      simp only [Bool.not_true, cond_false]
      have hin : ∀ (i : Nat) (b : List Ed) (y : Int × (Int × Int × List Ed × Unit) × Unit), i < 256 → b.length ≤ 1000 → y.1 = (i : Int) + 1 →
          Loop (g40_s0 a0 a1 y) ((0 : Int), ((a1, (lenM a0 a1, (b, ()))), ())) = some ((a1, (lenM a0 a1, (b ++ edF1 a0 a1 i, ()))), ()) := by
        intro i b y hi hb hy
        by_cases hc : cntI a0 a1 ((i : Int) + 1) = 1
        · rw [← hitsN_all a0 a1 i hc]
          have h := Loop_seq (step := g40_s0 a0 a1 y) (fun k => ((k : Int), ((a1, (lenM a0 a1, (b ++ hitsN a0 a1 ((i : Int) + 1) k, ()))), ()))) a0.length (((a1, (lenM a0 a1, (b ++ hitsN a0 a1 ((i : Int) + 1) a0.length, ()))), ()) : (Int × Int × List Ed × Unit) × Unit) (fun k hk => ?_) ?_ 0 (Nat.zero_le _)
          · have e0 : hitsN a0 a1 ((i : Int) + 1) 0 = [] := rfl
            rw [e0, List.append_nil] at h
            exact h
          · have hh := hitsN_len a0 a1 ((i : Int) + 1) k
            rw [hitsN_succ a0 a1 _ k hk]
            generalize hitsN a0 a1 ((i : Int) + 1) k = z at hh ⊢
            unfold g40_s0 hit subO idO
            simp only [Int.ofNat_eq_natCast, Int.toNat_natCast, hy]
            rw [dT (show (k : Int) < (a0.length : Int) by omega), dT (show (0 : Int) ≤ (k : Int) by omega), hc, ble_t (show ((b ++ z).length + 1) * 16 ≤ 140737488355328 by rw [List.length_append]; omega), wi64n (by omega)]
            cases decide ((a0.getD k (0, (0, 0, 0, ()), ())).2.1.1 = a1) <;> cases decide ((a0.getD k (0, (0, 0, 0, ()), ())).2.1.2.1 = (i : Int) + 1) <;> first | rfl | (simp only [Option.bind_some, cond_true, Bool.and_self, Bool.true_and, Bool.and_true, List.append_assoc]; rfl)
          · unfold g40_s0
            simp only [Int.ofNat_eq_natCast]
            rw [dF (show ¬ (a0.length : Int) < (a0.length : Int) by omega)]
            rfl
        · have e0 : edF1 a0 a1 i = [] := by unfold edF1; rw [dF hc]; rfl
          rw [e0, List.append_nil, Loop_step]
          have : g40_s0 a0 a1 y ((0 : Int), ((a1, (lenM a0 a1, (b, ()))), ())) = some (.inr ((a1, (lenM a0 a1, (b, ()))), ())) := by
            unfold g40_s0
            simp only [Int.ofNat_eq_natCast, hy]
            rw [dF (show ¬ ((cntI a0 a1 ((i : Int) + 1) : Nat) : Int) = 1 by omega)]
            cases decide ((0 : Int) < (a0.length : Int)) <;> rfl
          rw [this]
      have hL : Loop (g40_s1 a0 a1) ((1 : Int), ((a1, (lenM a0 a1, (([] : List Ed), ()))), ())) = some ((a1, (lenM a0 a1, (edges a0 a1, ()))), ()) := by
        rw [edges_def]
        refine Loop_seq (step := g40_s1 a0 a1) (fun k => ((k : Int) + 1, ((a1, (lenM a0 a1, ((List.range k).flatMap (edF1 a0 a1), ()))), ()))) 256 _ (fun k hk => ?_) ?_ 0 (Nat.zero_le _)
        · have hf := flat_len a0 a1 k
          rw [flat_succ]
          unfold g40_s1
          simp only
          rw [dT (show (k : Int) + 1 ≤ 256 by omega), hin k _ _ hk (by omega) rfl, wi64 (n := (k : Int) + 1 + 1) (by omega) (by omega)]
          rfl
        · unfold g40_s1
          rfl
      rw [hL]
      simp only [Option.bind_some, Int.ofNat_eq_natCast]
      by_cases q3 : 24 < (edges a0 a1).length
      · rw [dT q3, dT (show ((edges a0 a1).length : Int) > 24 by omega)]; rfl
      · rw [dF q3, dF (show ¬ ((edges a0 a1).length : Int) > 24 by omega)]; rfl
  · rw [dF q]
    rfl
def okId (l : List Ow) (s : Int) (g : List Int) (id : Int) : Bool := decide (cntI l s id = 0) && !g.any (fun y => decide (y = id))
theorem resN_succ (l : List Ow) (s : Int) (k : Nat) (r : List Ow × List Int) (hr : resN l s k = some r) : resN l s (k + 1) =
    bif mine s (l.getD k zO) && decide (0 < (l.take k).countP (hit s (idO (l.getD k zO)))) then
      (bif (freeP (okId l s r.2)).2.1 then some (r.1 ++ [setId (l.getD k zO) (freeP (okId l s r.2)).1], r.2 ++ [(freeP (okId l s r.2)).1]) else none)
    else some (r.1 ++ [l.getD k zO], r.2) := by
  rw [resN, hr]
  rfl
theorem resN_none (l : List Ow) (s : Int) (k : Nat) (h : resN l s k = none) : resN l s (k + 1) = none := by
  rw [resN, h]
theorem resN_none_le (l : List Ow) (s : Int) (k : Nat) (h : resN l s k = none) : ∀ j, resN l s (k + j) = none
  | 0 => h
  | j + 1 => resN_none l s (k + j) (resN_none_le l s k h j)
theorem resN_len {l : List Ow} {s : Int} : ∀ {k : Nat} {r : List Ow × List Int}, resN l s k = some r → r.1.length = k ∧ r.2.length ≤ k
  | 0, r, h => by
    have : r = ([], []) := (Option.some.inj h).symm
    subst this
    exact ⟨rfl, Nat.le_refl _⟩
  | k + 1, r, h => by
    match hk : resN l s k, h with
    | none, h => rw [resN_none l s k hk] at h; cases h
    | some r', h =>
      obtain ⟨h1, h2⟩ := resN_len hk
      rw [resN_succ l s k r' hk] at h
      cases hc : (mine s (l.getD k zO) && decide (0 < (l.take k).countP (hit s (idO (l.getD k zO))))) with
      | false =>
        rw [hc] at h
        have := (Option.some.inj h).symm
        subst this
        exact ⟨by simp only [List.length_append, List.length_cons, List.length_nil]; omega, by simp only; omega⟩
      | true =>
        rw [hc] at h
        simp only [cond_true] at h
        cases hf : (freeP (okId l s r'.2)).2.1 with
        | false => rw [hf] at h; cases h
        | true =>
          rw [hf] at h
          have := (Option.some.inj h).symm
          subst this
          exact ⟨by simp only [List.length_append, List.length_cons, List.length_nil]; omega, by simp only [List.length_append, List.length_cons, List.length_nil]; omega⟩
theorem res_first {ε : Type} (l : List Ow) (s : Int) (x : ε) (n : Nat) : (List.range n).findSome? (fun k => bif (resN l s (k + 1)).isSome then none else some x) = bif (resN l s n).isSome then none else some x := by
  have e : (fun k => bif (resN l s (k + 1)).isSome then none else some x) = fun k => bif !(resN l s (k + 1)).isSome then some x else none := by
    funext k; cases (resN l s (k + 1)).isSome <;> rfl
  rw [e, findSome_bif]
  cases h : resN l s n with
  | none =>
    have : (List.range n).any (fun k => !(resN l s (k + 1)).isSome) = true := by
      cases n with
      | zero => cases h
      | succ n => exact any_range_up (k := n) (by omega) (by rw [h]; rfl)
    rw [this]
    rfl
  | some r =>
    have : (List.range n).any (fun k => !(resN l s (k + 1)).isSome) = false := by
      rw [Bool.eq_false_iff]
      intro hh
      obtain ⟨k, hk, hb⟩ := List.any_eq_true.1 hh
      have hk := List.mem_range.1 hk
      cases hs : resN l s (k + 1) with
      | some _ => rw [hs] at hb; cases hb
      | none =>
        have := resN_none_le l s (k + 1) hs (n - (k + 1))
        rw [show k + 1 + (n - (k + 1)) = n by omega, h] at this
        cases this
    rw [this]
    rfl
theorem resN_some {ε : Type} {l : List Ow} {s : Int} {x : ε} (k : Nat) (h : ∀ i, i < k → (bif (resN l s (i + 1)).isSome then none else some x) = none) : ∃ r, resN l s k = some r := by
  cases k with
  | zero => exact ⟨_, rfl⟩
  | succ k =>
    have := h k (by omega)
    cases hs : resN l s (k + 1) with
    | some r => exact ⟨r, rfl⟩
    | none => rw [hs] at this; cases this
theorem g14_ok (a0 : (List (Int × ((Int × (Int × (Int × Unit))) × Unit)))) (a1 : Int) (r0 : (Ty.sl (owT)).ok a0) (r1 : IntKind.i64.has a1) : g14 a0 a1 = some (Sp10.res a0 a1, ()) := by
  have hl := len_ow r0
  unfold g14 Sp10.res
  by_cases q : chk a0 = 0
  · rw [dT q]
    have hl2 := (chk_0 q).1
    simp only [Bool.not_true, cond_false]
    have hles : ∀ (i : Nat) (y : Int × List Ow × List Int × Unit), i < a0.length → y.1 = (i : Int) →
        Loop (g14_s0 a0 a1 y) ((0 : Int), ((0 : Int), ())) = some ((((a0.take i).countP (hit a1 (idO (a0.getD i zO))) : Nat) : Int), ()) := by
      intro i y hi hy
      have h := Loop_seq (step := g14_s0 a0 a1 y) (fun k => ((k : Int), (((cntI (a0.take k) a1 (idO (a0.getD i zO)) : Nat) : Int), ()))) i ((((cntI (a0.take i) a1 (idO (a0.getD i zO)) : Nat) : Int), ()) : Int × Unit) (fun k hk => ?_) ?_ 0 (Nat.zero_le _)
      · exact h
      · have hc : cntI (a0.take k) a1 (a0.getD i zO).2.1.2.1 ≤ k := cnt_takele a0 a1 (idO (a0.getD i zO)) k
        rw [cnt_take a0 a1 _ k (by omega)]
        unfold g14_s0 hit subO idO
        simp only [Int.ofNat_eq_natCast, Int.toNat_natCast, hy]
        rw [dT (show (k : Int) < (i : Int) by omega), dT (show (k : Int) < (a0.length : Int) by omega), dT (show (0 : Int) ≤ (k : Int) by omega), wi64n (by omega), wi64n (by omega)]
        cases decide ((a0.getD k (0, (0, 0, 0, ()), ())).2.1.1 = a1) <;> cases decide ((a0.getD k (0, (0, 0, 0, ()), ())).2.1.2.1 = (a0.getD i (0, (0, 0, 0, ()), ())).2.1.2.1) <;> rfl
      · unfold g14_s0
        simp only [hy]
        rw [dF (show ¬ (i : Int) < (i : Int) by omega)]
        rfl
    have hfind : ∀ g : List Int, Loop (g14_s1 a0 a1) ((1 : Int), (g, ())) = some (bif (freeP (okId a0 a1 g)).2.1 then ((freeP (okId a0 a1 g)).1, (g, ())) else (257, (g, ()))) := by
      intro g
      have e : ((List.range 256).findSome? (fun i : Nat => bif okId a0 a1 g ((i : Int) + 1) then some (((i : Int) + 1, (g, ())) : Int × List Int × Unit) else none)).getD (257, (g, ())) = (bif (freeP (okId a0 a1 g)).2.1 then ((freeP (okId a0 a1 g)).1, (g, ())) else (257, (g, ()))) := by
        rw [findSome_find (List.range 256) (fun i : Nat => okId a0 a1 g ((i : Int) + 1)) (fun i : Nat => (((i : Int) + 1, (g, ())) : Int × List Int × Unit))]
        unfold freeP
        cases (List.range 256).find? (fun i : Nat => okId a0 a1 g ((i : Int) + 1)) <;> rfl
      rw [← e]
      refine Loop_seqE (step := g14_s1 a0 a1) (fun k => ((k : Int) + 1, (g, ()))) 256 _ _ (fun k hk => ?_) ?_
      · unfold g14_s1 okId Sp10.has
        simp only
        rw [dT (show (k : Int) + 1 ≤ 256 by omega), wi64 (n := (k : Int) + 1 + 1) (by omega) (by omega)]
        by_cases hc : cntI a0 a1 ((k : Int) + 1) = 0
        · rw [dT hc, dF (show ¬ Int.ofNat (cntI a0 a1 ((k : Int) + 1)) > 0 by rw [hc]; decide)]
          cases g.any (fun x => decide (x = (k : Int) + 1)) <;> rfl
        · rw [dF hc, dT (show Int.ofNat (cntI a0 a1 ((k : Int) + 1)) > 0 by simp only [Int.ofNat_eq_natCast]; omega)]; rfl
      · unfold g14_s1
        rfl
    have hfr : ∀ p : Int → Bool, (freeP p).2.1 = true → 1 ≤ (freeP p).1 ∧ (freeP p).1 ≤ 256 := by
      intro p hp
      unfold freeP at hp ⊢
      cases hf : (List.range 256).find? (fun i : Nat => p ((i : Int) + 1)) with
      | none => rw [hf] at hp; cases hp
      | some i =>
        have := List.mem_range.1 (List.mem_of_find?_eq_some hf)
        simp only
        omega
    have hL : Loop (g14_s2 a0 a1) ((0 : Int), (([] : List Ow), (([] : List Int), ()))) = some (((List.range a0.length).findSome? (fun k => bif (resN a0 a1 (k + 1)).isSome then none else some ((true, (([], (9, ())), ([], ()))) : Bool × (List Ow × Int × Unit) × List Ow × Unit))).getD (false, (([], (0, ())), ((((resN a0 a1 a0.length).getD ([], [])).1, ()))))) := by
      refine Loop_seqI (step := g14_s2 a0 a1) (fun k => ((k : Int), (((resN a0 a1 k).getD ([], [])).1, (((resN a0 a1 k).getD ([], [])).2, ())))) a0.length _ _ (fun k hk hn => ?_) (fun _ => ?_)
      · obtain ⟨r, hr⟩ := resN_some k hn
        obtain ⟨l1, l2⟩ := resN_len hr
        rw [resN_succ a0 a1 k r hr, hr]
        simp only [Option.getD_some]
        unfold g14_s2
        simp only [Int.ofNat_eq_natCast, Int.toNat_natCast]
        rw [hles k _ hk rfl, dT (show (k : Int) < (a0.length : Int) by omega), dT (show (0 : Int) ≤ (k : Int) by omega), wi64n (by omega), hfind, ble_t (show (r.1.length + 1) * 32 ≤ 140737488355328 by omega)]
        simp only [Option.bind_some, cond_true, Bool.and_self]
        generalize hcn : (a0.take k).countP (hit a1 (idO (a0.getD k (0, (0, 0, 0, ()), ())))) = c
        unfold mine subO
        cases decide ((a0.getD k (0, (0, 0, 0, ()), ())).2.1.1 = a1) with
        | false => rfl
        | true =>
          by_cases h0 : 0 < c
          · rw [dT h0]
            first | rw [dT (show (c : Int) > 0 by omega)] | skip
            simp only [Bool.and_self, cond_true, Option.bind_some]
            cases hf : (freeP (okId a0 a1 r.2)).2.1 with
            | false => rfl
            | true =>
              have hb := hfr _ hf
              simp only [cond_true]
              rw [dF (show ¬ (freeP (okId a0 a1 r.2)).1 > 256 by omega), ble_t (show (r.2.length + 1) * 8 ≤ 140737488355328 by omega)]
              rfl
          · rw [dF h0]
            first | rw [dF (show ¬ (c : Int) > 0 by omega)] | skip
            rfl
      · unfold g14_s2
        simp only [Int.ofNat_eq_natCast]
        rw [dF (show ¬ (a0.length : Int) < (a0.length : Int) by omega)]
        rfl
    rw [hL, res_first]
    cases resN a0 a1 a0.length <;> rfl
  · rw [dF q]
    rfl
end Go.Abs.C10

namespace Go.Abs.C10
open Go Go.Proofs Sp10
set_option maxRecDepth 100000

def nRow (l : List Ow) (s : Int) (g : List Int) : List Int := (List.range 257).map fun (i : Nat) => bif g.any (fun y => decide (y = (i : Int))) then 1 else ((cntI l s i : Nat) : Int)
theorem nRow_len (l : List Ow) (s : Int) (g : List Int) : (nRow l s g).length = 257 := by unfold nRow; rw [List.length_map, List.length_range]
theorem nRow_get (l : List Ow) (s : Int) (g : List Int) (i : Nat) (hi : i < 257) : (nRow l s g).getD i 0 = bif g.any (fun y => decide (y = (i : Int))) then 1 else ((cntI l s i : Nat) : Int) := by
  unfold nRow
  rw [getD_range_map, if_pos hi]
theorem nRow_set (l : List Ow) (s : Int) (g : List Int) (id : Int) (h0 : 0 ≤ id) (h1 : id < 257) : (nRow l s g).set id.toNat 1 = nRow l s (g ++ [id]) := by
  refine list_getD_ext 0 (by rw [List.length_set, nRow_len, nRow_len]) fun i hi => ?_
  rw [List.length_set, nRow_len] at hi
  rw [getD_set (by rw [nRow_len]; omega), nRow_get _ _ _ _ hi, nRow_get _ _ _ _ hi, List.any_append]
  by_cases q : id.toNat = i
  · rw [if_pos q]
    have : ([id].any fun y => decide (y = (i : Int))) = true := by
      show (decide (id = (i : Int)) || false) = true
      rw [dT (show id = (i : Int) by omega)]
      rfl
    rw [this, Bool.or_true]
    rfl
  · rw [if_neg q]
    have : ([id].any fun y => decide (y = (i : Int))) = false := by
      show (decide (id = (i : Int)) || false) = false
      rw [dF (show ¬ id = (i : Int) by omega)]
      rfl
    rw [this, Bool.or_false]
theorem free_nRow (l : List Ow) (s : Int) (g : List Int) : freeL (nRow l s g) = freeP (okId l s g) := by
  unfold freeL
  refine freeP_congr fun i hi => ?_
  rw [show ((i : Int) + 1).toNat = i + 1 by omega, nRow_get l s g (i + 1) (by omega), show ((i + 1 : Nat) : Int) = (i : Int) + 1 by omega]
  unfold okId
  cases g.any (fun y => decide (y = (i : Int) + 1)) with
  | true => rw [Bool.not_true, Bool.and_false]; rfl
  | false =>
    rw [Bool.not_false, Bool.and_true, cond_false, Bool.eq_iff_iff, decide_eq_true_eq, decide_eq_true_eq]
    omega
theorem freeP_in (p : Int → Bool) (hp : (freeP p).2.1 = true) : 1 ≤ (freeP p).1 ∧ (freeP p).1 ≤ 256 := by
  unfold freeP at hp ⊢
  cases hf : (List.range 256).find? (fun i : Nat => p ((i : Int) + 1)) with
  | none => rw [hf] at hp; cases hp
  | some i =>
    have := List.mem_range.1 (List.mem_of_find?_eq_some hf)
    simp only
    omega
theorem out_skip (a : List Ow) (l : List Ow) (k : Nat) (hk : k < l.length) : a ++ l.drop k = (a ++ [l.getD k zO]) ++ l.drop (k + 1) := by
  rw [drop_getD l k zO hk, List.append_assoc]
  rfl
theorem out_get (a : List Ow) (l : List Ow) (k : Nat) (ha : a.length = k) (hk : k < l.length) : (a ++ l.drop k).getD k zO = l.getD k zO := by
  rw [getD_app, if_neg (by omega), drop_getD l k zO hk, ha, Nat.sub_self]
  rfl
theorem out_set (a : List Ow) (l : List Ow) (k : Nat) (x : Ow) (ha : a.length = k) (hk : k < l.length) : (a ++ l.drop k).set k x = (a ++ [x]) ++ l.drop (k + 1) := by
  rw [drop_getD l k zO hk, List.append_assoc, List.set_append_right _ _ (by omega), ha, Nat.sub_self]
  rfl
theorem out_len (a : List Ow) (l : List Ow) (k : Nat) (ha : a.length = k) (hk : k ≤ l.length) : (a ++ l.drop k).length = l.length := by
  rw [List.length_append, List.length_drop]
  omega
theorem g13_ok (a0 : (List (Int × ((Int × (Int × (Int × Unit))) × Unit)))) (a1 : Int) (r0 : (Ty.sl (owT)).ok a0) (r1 : IntKind.i64.has a1) : g13 a0 a1 = some (Sp10.res a0 a1, ()) := by
  have hl := len_ow r0
  unfold g13 Sp10.res
  by_cases q : chk a0 = 0
  · rw [dT q]
    have hl2 := (chk_0 q).1
    simp only [Bool.not_true, cond_false]
    rw [on_true (chk_ids q)]
    simp only [Option.bind_some, Bool.true_and]
    rw [counts_len, fixN_eq (counts_len a0 a1), show Nat.beq 257 257 = true from rfl]
    simp only [cond_true]
    have hL : Loop (g13_s0 a0 a1) (List.replicate 257 (0 : Int), (counts a0 a1, (a0, ((0 : Int), ())))) = some (((List.range a0.length).findSome? (fun k => bif (resN a0 a1 (k + 1)).isSome then none else some ((true, ((9, ([], ())), ([], ()))) : Bool × (Int × List Ow × Unit) × List Ow × Unit))).getD (false, ((0, ([], ())), ((((resN a0 a1 a0.length).getD ([], [])).1, ()))))) := by
      have hh := Loop_seqI (step := g13_s0 a0 a1) (fun k => (rowN a0 a1 k, (nRow a0 a1 ((resN a0 a1 k).getD ([], [])).2, (((resN a0 a1 k).getD ([], [])).1 ++ a0.drop k, ((k : Int), ()))))) a0.length (false, ((0, ([], ())), ((((resN a0 a1 a0.length).getD ([], [])).1, ())))) (fun k => bif (resN a0 a1 (k + 1)).isSome then none else some ((true, ((9, ([], ())), ([], ()))) : Bool × (Int × List Ow × Unit) × List Ow × Unit)) (fun k hk hn => ?_) (fun _ => ?_)
      · rw [rowN_zero] at hh
        exact hh
      · obtain ⟨r, hr⟩ := resN_some k hn
        obtain ⟨l1, l2⟩ := resN_len hr
        rw [resN_succ a0 a1 k r hr, hr]
        simp only [Option.getD_some]
        obtain ⟨h0, h1⟩ := ids_at (chk_ids q) hk
        by_cases hm : subO (a0.getD k zO) = a1
        · have hset := rowN_set a0 a1 k hk hm h0 (by omega)
          have hg := rowN_get a0 a1 k (idO (a0.getD k zO)).toNat (by omega)
          rw [show (((idO (a0.getD k zO)).toNat : Nat) : Int) = idO (a0.getD k zO) by omega] at hg
          have hc := cnt_takele a0 a1 (idO (a0.getD k zO)) k
          have hg2 := rowN_get a0 a1 (k + 1) (idO (a0.getD k zO)).toNat (by omega)
          rw [show (((idO (a0.getD k zO)).toNat : Nat) : Int) = idO (a0.getD k zO) by omega, cnt_take a0 a1 _ k hk] at hg2
          have hh : hit a1 (idO (a0.getD k zO)) (a0.getD k zO) = true := by unfold hit; rw [dT hm, dT rfl]; rfl
          rw [hh] at hg2
          have hcc : (a0.take k).countP (hit a1 (idO (a0.getD k zO))) = cntI (a0.take k) a1 (idO (a0.getD k zO)) := rfl
          have hmine : mine a1 (a0.getD k zO) = true := dT hm
          rw [hmine, hcc]
          have hrl := rowN_len a0 a1 (k + 1)
          have hfree := free_nRow a0 a1 r.2
          have hnl := nRow_len a0 a1 r.2
          unfold g13_s0
          unfold idO subO at *
          simp only [Int.ofNat_eq_natCast, Int.toNat_natCast, Nat.mul_one]
          rw [dT (show (k : Int) < (a0.length : Int) by omega), dT (show (0 : Int) ≤ (k : Int) by omega), wi64n (by omega), dT hm, dT h0, dT (show (a0.getD k zO).2.1.2.1 < 257 by omega), rowN_len, blt_t (show (a0.getD k zO).2.1.2.1.toNat < 257 by omega), hg, wi64n (by omega), hset, hrl, blt_t (show (a0.getD k zO).2.1.2.1.toNat < 257 by omega), hg2]
          simp only [Bool.not_true, cond_false, cond_true, Bool.and_self, Bool.true_and]
          generalize cntI (a0.take k) a1 (a0.getD k zO).2.1.2.1 = c at hc ⊢
          by_cases hz : 0 < c
          · rw [dT hz, dF (show ¬ ((c + 1 : Nat) : Int) = 1 by omega), hnl, on_true (dT rfl), hfree]
            simp only [Option.bind_some, cond_false, cond_true]
            cases hf : (freeP (okId a0 a1 r.2)).2.1 with
            | false => rfl
            | true =>
              have hb := freeP_in _ hf
              have hset2 := nRow_set a0 a1 r.2 (freeP (okId a0 a1 r.2)).1 (by omega) (by omega)
              simp only [Bool.not_true, cond_false, cond_true]
              rw [dT (show 0 ≤ (freeP (okId a0 a1 r.2)).1 by omega), dT (show (freeP (okId a0 a1 r.2)).1 < 257 by omega), blt_t (show (freeP (okId a0 a1 r.2)).1.toNat < 257 by omega), out_len r.1 a0 k l1 (by omega), dT (show (k : Int) < (a0.length : Int) by omega), blt_t hk, out_get r.1 a0 k l1 hk, out_set r.1 a0 k _ l1 hk, hset2]
              rfl
          · have : c = 0 := by omega
            subst this
            rw [dF hz]
            simp only [cond_false, Option.getD_some]
            rw [out_skip r.1 a0 k hk]
            rfl
        · have hskip := rowN_skip a0 a1 k hk hm
          have hmine : mine a1 (a0.getD k zO) = false := dF hm
          rw [hmine, hskip]
          unfold subO at hm
          unfold g13_s0
          simp only [Int.ofNat_eq_natCast, Int.toNat_natCast]
          rw [dT (show (k : Int) < (a0.length : Int) by omega), dT (show (0 : Int) ≤ (k : Int) by omega), wi64n (by omega), dF hm, out_skip r.1 a0 k hk]
          rfl
      · unfold g13_s0
        simp only [Int.ofNat_eq_natCast]
        rw [dF (show ¬ (a0.length : Int) < (a0.length : Int) by omega), List.drop_length, List.append_nil]
        rfl
    rw [hL, res_first]
    cases resN a0 a1 a0.length <;> rfl
  · rw [dF q]
    rfl
end Go.Abs.C10
