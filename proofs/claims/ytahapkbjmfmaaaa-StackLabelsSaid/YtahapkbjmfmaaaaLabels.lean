/- Proved is the statement of the law StackLabels: for every input the law returns true, and each argument reads as it did. -/
import Derived.Test.YtahapkbjmfmaaaaRunQ
set_option linter.unusedVariables false
set_option linter.unusedSimpArgs false
namespace Go.Abs.C04
open Go Go.Proofs Sp04
set_option maxRecDepth 100000

theorem labT_wf {t : Tp} {n : Int} (w : wf t = true) : wf (labT t n).2 = true := by
  unfold labT
  simp only
  have w1 := pick_wf (l := [0, 17, 18, 115, 116, 1048575]) w
  generalize pick t [0, 17, 18, 115, 116, 1048575] = y1 at w1 ⊢
  have w2 := spoil_wf (x := y1.1) (n := n) w1
  generalize spoil y1.2 y1.1 n = y2 at w2 ⊢
  have w3 := next_wf (n := 8) w2
  generalize next y2.2 8 = y3 at w3 ⊢
  have w4 := spoil_wf (x := y3.1) (n := n) w3
  generalize spoil y3.2 y3.1 n = y4 at w4 ⊢
  have w5 := pick_wf (l := [0, 1, 255]) w4
  generalize pick y4.2 [0, 1, 255] = y5 at w5 ⊢
  exact spoil_wf w5
end Go.Abs.C04

namespace Go.Abs.C04
open Go Go.Proofs Sp04
set_option maxRecDepth 100000

theorem joined_cons (w : Int) (ws tail : List Int) : joined (w :: ws) ++ tail = w / 16777216 % 256 :: w / 65536 % 256 :: w / 256 % 256 :: w % 256 :: (joined ws ++ tail) := by
  unfold joined
  rw [List.flatMap_cons]
  rfl
theorem word_joined (tail : List Int) : ∀ (ws : List Int) (k : Nat), k < ws.length → (∀ w ∈ ws, 0 ≤ w ∧ w < 4294967296) → word (joined ws ++ tail) k = ws.getD k 0
  | [], k, h, _ => absurd h (Nat.not_lt_zero _)
  | w :: ws, 0, _, hw => by
    have := hw w (List.mem_cons_self ..)
    rw [joined_cons]
    show w / 16777216 % 256 * 16777216 + w / 65536 % 256 * 65536 + w / 256 % 256 * 256 + w % 256 = w
    omega
  | w :: ws, k + 1, h, hw => by
    have ih := word_joined tail ws k (by simpa using h) (fun x hx => hw x (List.mem_cons_of_mem _ hx))
    rw [joined_cons]
    show word _ (k + 1) = ws.getD k 0
    rw [← ih]
    unfold word
    rw [show 4 * (k + 1) = 4 * k + 1 + 1 + 1 + 1 by omega, show 4 * k + 1 + 1 + 1 + 1 + 1 = 4 * k + 1 + 1 + 1 + 1 + 1 from rfl]
    rfl
theorem lab_lint {x : Lb} (h : Sp04.lost x = false) (e : Int) (he : e = 0 ∨ e = 1) : Sp04.lab (lint x + 256 * e) = x ∧ (lint x + 256 * e) / 256 % 2 = e ∧ 0 ≤ lint x + 256 * e ∧ lint x + 256 * e < 4294967296 := by
  obtain ⟨v, c, d, ⟨⟩⟩ := x
  obtain ⟨hv, hc, hd⟩ := valid_lab h
  simp only at hv hc hd
  unfold lint Sp04.lab
  simp only
  refine ⟨?_, by omega, by omega, by omega⟩
  rw [show (v * 4096 + c * 512 + d + 256 * e) / 4096 = v by omega, show (v * 4096 + c * 512 + d + 256 * e) / 512 % 8 = c by omega, show (v * 4096 + c * 512 + d + 256 * e) % 256 = d by omega]
theorem map_range_getDL (l : List Lb) (f : Nat → Lb) (h : ∀ i, i < l.length → f i = l.getD i (0, 0, 0, ())) : (List.range l.length).map f = l := by
  apply List.ext_getElem
  · rw [List.length_map, List.length_range]
  · intro i h1 h2
    rw [List.getElem_map, List.getElem_range, h i h2, List.getD_eq_getElem?_getD, List.getElem?_eq_getElem h2]
    rfl
theorem decGo_back {b : List Int} {l : List Lb} (hn : l.any lost = false) (hl : 4 * l.length ≤ b.length) (hw : ∀ i, i < l.length → word b i = lint (l.getD i (0, 0, 0, ())) + 256 * (if i + 1 = l.length then 1 else 0)) :
    ∀ j k f, k + j + 1 = l.length → j < f → decGo b f k = (l, 4 * (l.length : Int), 0, ()) := by
  intro j
  induction j with
  | zero =>
    intro k f hk hf
    obtain ⟨f, rfl⟩ : ∃ g, f = g + 1 := ⟨f - 1, by omega⟩
    unfold decGo
    obtain ⟨-, h2, -, -⟩ := lab_lint (not_lost hn k (by omega)) 1 (.inr rfl)
    have hk1 : word b k = lint (l.getD k (0, 0, 0, ())) + 256 * 1 := by rw [hw k (by omega), if_pos (by omega)]
    rw [decide_eq_false (show ¬ b.length < 4 * k + 4 by omega), hk1, decide_eq_true h2]
    simp only [cond_false, cond_true]
    rw [show k + 1 = l.length by omega, map_range_getDL l _ (fun i hi => by
      have hx := not_lost hn i hi
      show Sp04.lab (word b i) = _
      rw [hw i hi]
      by_cases h : i + 1 = l.length
      · rw [if_pos h]; exact (lab_lint hx 1 (.inr rfl)).1
      · rw [if_neg h]; exact (lab_lint hx 0 (.inl rfl)).1), show 4 * (k : Int) + 4 = 4 * (l.length : Int) by omega]
  | succ j ih =>
    intro k f hk hf
    obtain ⟨f, rfl⟩ : ∃ g, f = g + 1 := ⟨f - 1, by omega⟩
    unfold decGo
    obtain ⟨-, h2, -, -⟩ := lab_lint (not_lost hn k (by omega)) 0 (.inl rfl)
    have hk1 : word b k = lint (l.getD k (0, 0, 0, ())) + 256 * 0 := by rw [hw k (by omega), if_neg (by omega)]
    rw [decide_eq_false (show ¬ b.length < 4 * k + 4 by omega), hk1, h2]
    exact ih (k + 1) f (by omega) (by omega)
theorem ends_at (ws : List Int) (i : Nat) (h : i < ws.length) : (ends ws).getD i 0 = ws.getD i 0 + 256 * (if i + 1 = ws.length then 1 else 0) := by
  unfold ends
  simp only [List.getD_eq_getElem?_getD, List.getElem?_set]
  by_cases h1 : i + 1 = ws.length
  · rw [if_pos (show ws.length - 1 = i by omega), if_pos h1, if_pos (by omega), show ws.length - 1 = i by omega]
    rfl
  · rw [if_neg (show ¬ ws.length - 1 = i by omega), if_neg h1]
    omega
theorem encL_ok {l : List Lb} (h : (encL l).2.1 = 0) : 1 ≤ l.length ∧ l.length ≤ 24 ∧ l.any lost = false ∧ (encL l).1 = joined (ends (l.map lint)) := by
  unfold encL at h ⊢
  by_cases h1 : l.length < 1
  · rw [decide_eq_true h1] at h; cases h
  by_cases h2 : 24 < l.length
  · rw [decide_eq_false h1, decide_eq_true h2] at h; cases h
  rw [decide_eq_false h1, decide_eq_false h2] at h ⊢
  cases hn : l.any lost with
  | true => rw [hn] at h; cases h
  | false => exact ⟨by omega, by omega, rfl, rfl⟩
theorem decL_encL {l : List Lb} (tail : List Int) (h : (encL l).2.1 = 0) : decL ((encL l).1 ++ tail) = (l, ((encL l).1.length : Int), 0, ()) ∧ (encL l).1.length = 4 * l.length := by
  obtain ⟨h1, h2, hn, he⟩ := encL_ok h
  have hel : (ends (l.map lint)).length = l.length := by
    unfold ends
    rw [List.length_set, List.length_map]
  have hlen : (encL l).1.length = 4 * l.length := by rw [he, joined_len, hel]
  have hgm : ∀ i, i < l.length → (l.map lint).getD i 0 = lint (l.getD i (0, 0, 0, ())) := by
    intro i hi
    simp only [List.getD_eq_getElem?_getD, List.getElem?_map]
    rw [List.getElem?_eq_getElem hi]
    rfl
  have hw : ∀ i, i < l.length → (ends (l.map lint)).getD i 0 = lint (l.getD i (0, 0, 0, ())) + 256 * (if i + 1 = l.length then 1 else 0) := by
    intro i hi
    rw [ends_at _ i (by rw [List.length_map]; exact hi), hgm i hi, List.length_map]
  have hr : ∀ w ∈ ends (l.map lint), 0 ≤ w ∧ w < 4294967296 := by
    intro w hw2
    obtain ⟨i, hi, rfl⟩ := List.getElem_of_mem hw2
    have hi2 : i < l.length := by rw [hel] at hi; exact hi
    have := hw i hi2
    rw [List.getD_eq_getElem?_getD, List.getElem?_eq_getElem hi] at this
    simp only [Option.getD_some] at this
    rw [this]
    by_cases h : i + 1 = l.length
    · rw [if_pos h]; exact (lab_lint (not_lost hn i hi2) 1 (.inr rfl)).2.2
    · rw [if_neg h]; exact (lab_lint (not_lost hn i hi2) 0 (.inl rfl)).2.2
  refine ⟨?_, hlen⟩
  rw [hlen]
  unfold decL
  rw [decGo_back hn (by rw [List.length_append, hlen]; omega) (fun i hi => by rw [he, word_joined tail _ i (by rw [hel]; exact hi) hr, hw i hi]) (l.length - 1) 0 24 (by omega) (by omega)]
  rw [show (((4 * l.length : Nat)) : Int) = 4 * (l.length : Int) by omega]
theorem decRest_enc {p : Pk} (r : List Int) (hv : validP p = true) (hb : 0 ≤ bt p) (hy : bytesOk (py p)) : decRest r (Sp04.encode p).1 = ((r, p), 0, ()) := by
  unfold decRest
  rw [dec_enc hv hb hy]
  rfl
theorem decF_encF {f : Fr} (hb : 0 ≤ bt f.2) (hy : bytesOk (py f.2)) (h : (encF f).2.1 = 0) : decF (encF f).1 = (f, 0, ()) := by
  obtain ⟨r, p⟩ := f
  simp only at hb hy
  unfold encF at h ⊢
  cases hv : validF (r, p) with
  | false => rw [hv] at h; cases h
  | true =>
    obtain ⟨v1, v2, v3, v4⟩ := validF_iff hv
    simp only at v1 v2 v3 v4
    simp only [Bool.not_true, cond_false]
    by_cases h0 : r.length = 0
    · rw [decide_eq_true h0]
      simp only [cond_true]
      have hr : r = [] := List.length_eq_zero_iff.1 h0
      subst hr
      exact decRest_enc [] v4 hb hy
    · rw [decide_eq_false h0]
      simp only [cond_false]
      have hlost : (r.map fun n => ((16 + n, 0, 255, ()) : Lb)).any lost = false := by
        rw [Bool.eq_false_iff]
        intro hc
        obtain ⟨x, hx, hc⟩ := List.any_eq_true.1 hc
        obtain ⟨n, hn, rfl⟩ := List.mem_map.1 hx
        have := inside_iff.1 (List.all_eq_true.1 v2 n hn)
        unfold lost validL at hc
        simp only [Bool.not_eq_true'] at hc
        rw [inside_iff.2 (show 0 ≤ 16 + n ∧ 16 + n ≤ 1048575 by omega)] at hc
        cases hc
      have hE : (encL (r.map fun n => ((16 + n, 0, 255, ()) : Lb))).2.1 = 0 := by
        unfold encL
        rw [hlost, List.length_map, decide_eq_false (show ¬ r.length < 1 by omega), decide_eq_false (show ¬ 24 < r.length by omega)]
        rfl
      obtain ⟨hd, hl⟩ := decL_encL (Sp04.encode p).1 hE
      have halien : (r.map fun n => ((16 + n, 0, 255, ()) : Lb)).any alien = false := by
        rw [Bool.eq_false_iff]
        intro hc
        obtain ⟨x, hx, hc⟩ := List.any_eq_true.1 hc
        obtain ⟨n, hn, rfl⟩ := List.mem_map.1 hx
        have := List.all_eq_true.1 v2 n hn
        unfold alien stray at hc
        simp only [show 16 + n - 16 = n by omega, this] at hc
        cases hc
      have hmap : (r.map fun n => ((16 + n, 0, 255, ()) : Lb)).map (fun l => l.1 - 16) = r := by
        rw [List.map_map]
        have : ((fun l : Lb => l.1 - 16) ∘ fun n => ((16 + n, 0, 255, ()) : Lb)) = id := by
          funext n
          show 16 + n - 16 = n
          omega
        rw [this, List.map_id]
      unfold decF
      simp only [List.length_cons, List.getD_cons_zero, List.drop_succ_cons, List.drop_zero, hd, hmap, halien, v3, Int.toNat_natCast, List.drop_left]
      rw [decide_eq_false (show ¬ ((encL (r.map fun n => ((16 + n, 0, 255, ()) : Lb))).1 ++ (Sp04.encode p).1).length + 1 = 0 by omega)]
      exact decRest_enc r v4 hb hy
end Go.Abs.C04

namespace Go.Abs.C04
open Go Go.Proofs Sp04
set_option maxRecDepth 100000

theorem labs4 {t : Tp} {b : List Lb} {k : Int} (h : 0 ≤ k ∧ k ≤ 100 ∧ wf t = true ∧ (b.length : Int) + k ≤ 200) : ∃ e, Loop g4_s0 (t, b, k, ()) = some e ∧ wf e.1 = true ∧ e.2.1.length ≤ 200 := by
  refine Loop_post (fun v : Tp × List Lb × Int × Unit => 0 ≤ v.2.2.1 ∧ v.2.2.1 ≤ 100 ∧ wf v.1 = true ∧ (v.2.1.length : Int) + v.2.2.1 ≤ 200) (fun v : Tp × List Lb × Int × Unit => v.2.2.1.toNat) (fun e : Tp × List Lb × Unit => wf e.1 = true ∧ e.2.1.length ≤ 200) ?_ (v := (t, b, k, ())) h
  rintro ⟨t, b, k, ⟨⟩⟩ ⟨p1, p2, p3, p4⟩
  simp only at p1 p2 p3 p4
  unfold g4_s0
  by_cases hk : 0 < k
  rotate_left
  · left
    refine ⟨(t, b, ()), ?_, p3, by simp only; omega⟩
    simp only [gt_iff_lt, hk, decide_false, cond_false]
  right
  simp only [gt_iff_lt, hk, decide_true, cond_true]
  rw [on_true (show (wf t && small 0) = true by rw [p3]; rfl)]
  simp only [Option.bind_some]
  have w1 := labT_wf (n := 0) p3
  generalize labT t 0 = y1 at w1 ⊢
  have ek : IntKind.wrap .i64 (k - 1) = k - 1 := wi64 (by omega) (by omega)
  rw [ek, show Nat.ble ((b.length + 1) * 24) 140737488355328 = true from Nat.ble_eq_true_of_le (by omega)]
  exact ⟨_, rfl, ⟨by simp only; omega, by simp only; omega, w1, by simp only [List.length_append, List.length_cons, List.length_nil]; omega⟩, by simp only; omega⟩
theorem step4 (raw : List Lb) (tail : List Int) (ht : tail.length ≤ 200) (hr : Int.ofNat raw.length ≤ 100) (l : List (List Lb)) (hl : l.length = 2) (i : Nat) (hi : i < l.length) :
    g4_s1 raw (tail, ()) ((i : Int), l, ()) = some (.inl (((i + 1 : Nat) : Int), l, ())) := by
  unfold g4_s1
  simp only [hr, Int.toNat_natCast, lbeq, eq_self, decide_true, Bool.not_true, Bool.not_false, cond_true, cond_false, Option.bind_some]
  rw [decide_eq_true (show (i : Int) < 2 by omega), decide_eq_true (show (0 : Int) ≤ (i : Int) by omega), decide_eq_true (show (i : Int) < Int.ofNat l.length by show (i : Int) < (l.length : Int); omega), show Nat.blt i l.length = true from Nat.ble_eq_true_of_le hi, wi64 (n := (i : Int) + 1) (by omega) (by omega)]
  simp only [Bool.and_self, cond_true, Option.bind_some]
  have hX := encL_len (l.getD i [])
  by_cases hE : (encL (l.getD i [])).2.1 = 0
  · obtain ⟨hd, hlen⟩ := decL_encL tail hE
    simp only [List.nil_append]
    rw [show Nat.ble ((0 + (encL (l.getD i [])).1.length) * 1) 140737488355328 = true from Nat.ble_eq_true_of_le (by omega), show Nat.ble (((encL (l.getD i [])).1.length + tail.length) * 1) 140737488355328 = true from Nat.ble_eq_true_of_le (by omega)]
    simp only [hd, hE, Int.ofNat_eq_natCast, eq_self, decide_true, Bool.not_true, Bool.not_false, cond_true, cond_false, Option.bind_some]
    rfl
  · simp only [hE, decide_false, Bool.not_false, cond_true]
    rfl
theorem tail4 (raw b : List Lb) (tail : List Int) (ht : tail.length ≤ 200) : Loop (g4_s1 raw (tail, ())) ((0 : Int), [b, raw], ()) = some (false, (false, ()), ()) := by
  by_cases hr : Int.ofNat raw.length ≤ 100
  · exact loop_up _ [b, raw] _ (step4 raw tail ht hr _ rfl) rfl
  · rw [Loop_step]
    unfold g4_s1
    simp only [hr, decide_false]
    rfl

theorem g4_ok (a0 : (List Int)) (a1 : (List (Int × (Int × (Int × Unit))))) (a2 : (List Int)) (r0 : (Ty.sl (.int .i64)).ok a0) (r1 : (Ty.sl (.st 24 (.cons (.int .i64) (.cons (.int .i64) (.cons (.int .i64) .unit))))).ok a1) (r2 : (Ty.sl (.int .u8)).ok a2) : g4 a0 a1 a2 = some (true, ()) := by
  have w0 := tape_wf a0
  unfold g4
  rw [on_true (show (wf (Sp04.tape a0) && decide (0 < 7) && decide (7 ≤ 1000)) = true by rw [w0]; rfl)]
  simp only [Option.bind_some]
  have pm := pick_mem (t := Sp04.tape a0) (l := [0, 1, 2, 3, 23, 24, 25]) (by decide)
  have w1 := pick_wf (l := [0, 1, 2, 3, 23, 24, 25]) w0
  generalize pick (Sp04.tape a0) [0, 1, 2, 3, 23, 24, 25] = y3 at pm w1 ⊢
  simp only [List.mem_cons, List.not_mem_nil, or_false] at pm
  obtain ⟨e, q1, q2, q3⟩ := labs4 (k := y3.1) (t := y3.2) (b := []) ⟨by omega, by omega, w1, by simp only [List.length_nil]; omega⟩
  rw [q1]
  simp only [Option.bind_some]
  have htail : ∃ u : List Int, (bif (decide ((Int.ofNat a2.length) > 200)) then (bif (true && (decide ((200 : Int) ≤ (Int.ofNat a2.length)))) then (some ((List.drop 0 (List.take 200 a2)), ())) else none) else (some (a2, ()))) = some (u, ()) ∧ u.length ≤ 200 := by
    by_cases h : Int.ofNat a2.length > 200
    · rw [decide_eq_true h, decide_eq_true (show (200 : Int) ≤ Int.ofNat a2.length by omega)]
      exact ⟨_, rfl, by rw [List.drop_zero, List.length_take]; omega⟩
    · rw [decide_eq_false h]
      exact ⟨_, rfl, by simp only [Int.ofNat_eq_natCast] at h; omega⟩
  obtain ⟨u, hu, hul⟩ := htail
  rw [hu]
  simp only [Option.bind_some]
  have h5 : ∃ y5 : Tp × List Lb × Bool × Unit, (bif (decide ((Int.ofNat e.2.1.length) > 0)) then (Option.bind (Sp04.on (wf e.1 && small 4) (one e.1 4)) (fun y5 => (some (y5.2, (e.2.1, (y5.1, ())))))) else (some (e.1, (e.2.1, (false, ()))))) = some y5 ∧ wf y5.1 = true ∧ y5.2.1 = e.2.1 ∧ (y5.2.2.1 = true → 0 < e.2.1.length) := by
    by_cases h : Int.ofNat e.2.1.length > 0
    · rw [decide_eq_true h, on_true (show (wf e.1 && small 4) = true by rw [q2]; rfl)]
      exact ⟨_, rfl, one_wf (n := 4) q2, rfl, fun _ => by simp only [Int.ofNat_eq_natCast] at h; omega⟩
    · rw [decide_eq_false h]
      exact ⟨_, rfl, q2, rfl, fun h => by cases h⟩
  obtain ⟨y5, h5, w5, l5, p5⟩ := h5
  rw [h5]
  simp only [Option.bind_some]
  have h6 : ∃ b : List Lb, (bif y5.2.2.1 then (Option.bind (Sp04.on (wf y5.1) (next y5.1 (Int.ofNat y5.2.1.length))) (fun (y6 : (Int × Tp)) => (Option.bind (Sp04.on (wf y6.2 && small 2) (labT y6.2 2)) (fun y7 => (bif ((decide ((0 : Int) ≤ y6.1)) && (decide (y6.1 < (Int.ofNat y5.2.1.length)))) then (bif (Nat.blt (Int.toNat y6.1) y5.2.1.length) then (some ((List.set y5.2.1 (Int.toNat y6.1) y7.1), ())) else none) else none))))) else (some (y5.2.1, ()))) = some (b, ()) := by
    cases hb : y5.2.2.1 with
    | false => exact ⟨_, rfl⟩
    | true =>
      have hp := p5 hb
      rw [← l5] at hp
      have r6 := next_range (t := y5.1) (n := Int.ofNat y5.2.1.length) (by simp only [Int.ofNat_eq_natCast]; omega)
      have w6 := next_wf (n := Int.ofNat y5.2.1.length) w5
      simp only [cond_true]
      rw [on_true w5]
      simp only [Option.bind_some]
      generalize next y5.1 (Int.ofNat y5.2.1.length) = y6 at r6 w6 ⊢
      rw [on_true (show (wf y6.2 && small 2) = true by rw [w6]; rfl)]
      have hlt : y6.1 < (y5.2.1.length : Int) := r6.2
      have c1 : Nat.blt y6.1.toNat y5.2.1.length = true := Nat.ble_eq_true_of_le (by omega)
      simp only [Option.bind_some, r6.1, r6.2, c1, decide_true, Bool.and_self, cond_true]
      exact ⟨_, rfl⟩
  obtain ⟨b, h6⟩ := h6
  rw [h6]
  simp only [Option.bind_some]
  rw [tail4 a1 b u hul]
  rfl

end Go.Abs.C04

namespace Go.Abs.C04
open Go Go.Proofs
set_option maxRecDepth 100000
theorem ok4 : FunOk Try.prog B 4 c4 := glue L16 all16 plan4 Try.func4 (by kernel_rfl) (by
  rintro ⟨⟨⟩, a0, a1, a2, ⟨⟩⟩ y r h
  exact (g4_eq a0 a1 a2).trans ((g4_ok a0 a1 a2 r.2.1 r.2.2.1 r.2.2.2.1).trans h))
end Go.Abs.C04

namespace Go.Proofs.Ytahapkbjmfmaaaa
open Go.ChangeShapes Go.WideShapes Go.ChangeAt Go.RowKit Go.Abs Go.Abs.C04

set_option maxRecDepth 100000 in
theorem StackLabels_lifted (os : Os) (started : os.Started) (H : Type) (enc : TypeId × Value → H) :
    ReturnsInHanded {} Try.checked os 4 .any (fun w args => (Rows.stackLabelsSpec.pre enc Try.prog Try.f4 Rows.stackLabelsRow.domain false w args ∧ True) ∧ sizedMet enc Try.prog Try.f4 (OpenSpec.ofChange Rows.stackLabelsSpec) false w args)
      (Rows.stackLabelsSpec.post enc Try.prog Try.f4 false true false false) := by
  refine returnsInHanded_of_change_and (C := Try.checked) (X := fun _ _ => True) (fun _ _ _ _ _ => trivial) Try.own started (by kernel_rfl) Try.func4
    (ChangeSpec.witness_at (enc := enc) (C := Try.checked) (os := os) (X := fun _ _ => True) false (laidWorld os) #[.slice none 0 0, .slice none 0 0, .slice none 0 0] 8 rfl (by kernel_rfl) (by kernel_rfl) (by kernel_rfl) (by kernel_rfl) (by kernel_rfl) trivial) ?_
  intro W base args ds gs before hval hW _ hwt hL _
  exact law_row 8 [.sl (.int .i64), .sl (.st 24 (.cons (.int .i64) (.cons (.int .i64) (.cons (.int .i64) .unit)))), .sl (.int .u8)] ok4 rfl Try.laidOut (by kernel_rfl) (by kernel_rfl) rfl (by kernel_rfl) (tb := 4) (by kernel_rfl)
    (fun ds hd => by
      match ds, hd with
      | [d1, d2, d3], _ => rfl) glob_ok hval hW hwt

theorem StackLabels_holds : Rows.StackLabelsSaid :=
  OpenClaim.holds_of_wide 4 Try.f4 rfl rfl rfl rfl rfl rfl rfl ⟨rfl, rfl, rfl, rfl, rfl⟩ rfl rfl rfl rfl rfl (by kernel_rfl) Try.func4 (by kernel_rfl)
    (of_decide_eq_true (by kernel_rfl)) (by unfold Func.isWrapper; first | (rw [if_pos (by decide +kernel)]; kernel_rfl) | (rw [if_neg (by decide +kernel)]; exact ⟨rfl, rfl⟩))
    (fun os started H enc _ => by
      show ReturnsInHanded {} Try.checked os 4 .any (fun w args => Rows.stackLabelsSpec.pre enc Try.prog Try.f4 Rows.stackLabelsRow.domain false w args ∧ sizedMet enc Try.prog Try.f4 (OpenSpec.ofChange Rows.stackLabelsSpec) false w args) (Rows.stackLabelsSpec.post enc Try.prog Try.f4 false true false false)
      have h := StackLabels_lifted os started H enc
      simp only [and_true] at h
      exact h)
end Go.Proofs.Ytahapkbjmfmaaaa
