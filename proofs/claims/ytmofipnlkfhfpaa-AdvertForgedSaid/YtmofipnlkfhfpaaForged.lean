/- Proved is the statement of the law AdvertForged: for every input the law returns true, and each argument reads as it did. -/
import Derived.Test.YtmofipnlkfhfpaaRunQ
set_option linter.unusedVariables false
set_option linter.unusedSimpArgs false
/- Chapter 07: the law on forged adverts. -/
namespace Go.Abs.C07
open Go Go.Proofs Sp07
set_option maxRecDepth 100000

theorem putW {bs : List Bool} {v : Int} (n : Nat) (W N : Int) (hW : W = (n : Int)) (hN : N = 2 ^ n) (hn : n ≤ 20) (h1 : bs.length ≤ 8000) (hv : 0 ≤ v ∧ v < N) : (Sp07.append (Sp07.enc bs) (IntKind.wrap .u64 v) W).1 = Sp07.enc (bs ++ vbits v.toNat n) := by
  subst hW; subst hN
  exact put_good n hn h1 hv.1 hv.2
theorem pick_in (t : Tp) {l : List Int} {N : Int} (hl : 0 < l.length) (h : ∀ x ∈ l, 0 ≤ x ∧ x < N) : 0 ≤ (Sp07.pick t l).1 ∧ (Sp07.pick t l).1 < N := by
  have hb := next_range (t := t) (n := (l.length : Int)) (by omega)
  refine h _ ?_
  show l.getD (next t l.length).1.toNat 0 ∈ l
  exact getD_mem (by omega)
/-- A row of bits that begins with so many, and goes on with so many more. -/
def Bits (h : List Bool) (n : Nat) (s : S) : Prop := ∃ X : List Bool, s = Sp07.enc (h ++ X) ∧ X.length = n

theorem loop5_0 (n : Int) (t0 : Tp) (hd : List Bool) (hh : hd.length ≤ 1000) (hn : 0 ≤ n ∧ n < 3) {s : S} {t : Tp} (hs : Bits hd 0 s) (hw : wf t = true) :
    ∃ e, Loop (g5_s0 (n, t0)) ((0 : Int), s, t, ()) = some e ∧ (Bits hd (27 * n.toNat) e.1 ∧ wf e.2.1 = true) := by
  refine Loop_post (fun v : Int × S × Tp × Unit => (0 ≤ v.1 ∧ v.1 ≤ n) ∧ Bits hd (27 * v.1.toNat) v.2.1 ∧ wf v.2.2.1 = true) (fun v => (n - v.1).toNat) _ ?_ (v := ((0 : Int), s, t, ())) ⟨by simp only; omega, hs, hw⟩
  rintro ⟨k, s', t', ⟨⟩⟩ ⟨⟨h1, h2⟩, h3, h4⟩
  simp only at h1 h2 h3 h4
  by_cases h6 : k < n
  · right
    obtain ⟨X, rfl, hX⟩ := h3
    have e : IntKind.wrap .i64 (k + 1) = k + 1 := wi64 (by omega) (by omega)
    have e3 : IntKind.wrap .i64 (3 + k) = 3 + k := wi64 (by omega) (by omega)
    have w1 : wf (Sp07.pick t' [3 + k, 3, 0, 1, 100]).2 = true := pick_wf h4
    have w2 : wf (Sp07.pick (Sp07.pick t' [3 + k, 3, 0, 1, 100]).2 [1, 0, 1000, 1001]).2 = true := pick_wf w1
    have w3 : wf (Sp07.pick (Sp07.pick (Sp07.pick t' [3 + k, 3, 0, 1, 100]).2 [1, 0, 1000, 1001]).2 [0, 1000, 1001]).2 = true := pick_wf w2
    have b1 := pick_in t' (l := [3 + k, 3, 0, 1, 100]) (N := 128) (by simp) (by simp; omega)
    have b2 := pick_in (Sp07.pick t' [3 + k, 3, 0, 1, 100]).2 (l := [1, 0, 1000, 1001]) (N := 1024) (by decide) (by decide)
    have b3 := pick_in (Sp07.pick (Sp07.pick t' [3 + k, 3, 0, 1, 100]).2 [1, 0, 1000, 1001]).2 (l := [0, 1000, 1001]) (N := 1024) (by decide) (by decide)
    have o1 : (wf t' && decide (0 < 5) && decide (5 ≤ 1000)) = true := by rw [h4]; rfl
    have o2 : (wf (Sp07.pick t' [3 + k, 3, 0, 1, 100]).2 && decide (0 < 4) && decide (4 ≤ 1000)) = true := by rw [w1]; rfl
    have o3 : (wf (Sp07.pick (Sp07.pick t' [3 + k, 3, 0, 1, 100]).2 [1, 0, 1000, 1001]).2 && decide (0 < 3) && decide (3 ≤ 1000)) = true := by rw [w2]; rfl
    have hk : k = 0 ∨ k = 1 := by omega
    have hX2 : X.length ≤ 27 := by rcases hk with rfl | rfl <;> omega
    refine ⟨(k + 1, Sp07.enc (hd ++ X ++ vbits (Sp07.pick t' [3 + k, 3, 0, 1, 100]).1.toNat 7 ++ vbits (Sp07.pick (Sp07.pick t' [3 + k, 3, 0, 1, 100]).2 [1, 0, 1000, 1001]).1.toNat 10 ++ vbits (Sp07.pick (Sp07.pick (Sp07.pick t' [3 + k, 3, 0, 1, 100]).2 [1, 0, 1000, 1001]).2 [0, 1000, 1001]).1.toNat 10), (Sp07.pick (Sp07.pick (Sp07.pick t' [3 + k, 3, 0, 1, 100]).2 [1, 0, 1000, 1001]).2 [0, 1000, 1001]).2, ()), ?_, ⟨⟨by simp only; omega, by simp only; omega⟩, ⟨X ++ (vbits (Sp07.pick t' [3 + k, 3, 0, 1, 100]).1.toNat 7 ++ (vbits (Sp07.pick (Sp07.pick t' [3 + k, 3, 0, 1, 100]).2 [1, 0, 1000, 1001]).1.toNat 10 ++ vbits (Sp07.pick (Sp07.pick (Sp07.pick t' [3 + k, 3, 0, 1, 100]).2 [1, 0, 1000, 1001]).2 [0, 1000, 1001]).1.toNat 10)), by simp only [List.append_assoc], by simp only [List.length_append, vbits_length]; omega⟩, w3⟩, by simp only; omega⟩
    unfold g5_s0
    simp only [h6, e3, decide_true, cond_true, on_true o1, on_true o2, on_true o3, Option.bind_some, e]
    rw [putW 7 7 128 rfl rfl (by decide) (by rw [List.length_append]; omega) b1, putW 10 10 1024 rfl rfl (by decide) (by simp only [List.length_append, vbits_length]; omega) b2, putW 10 10 1024 rfl rfl (by decide) (by simp only [List.length_append, vbits_length]; omega) b3]
  · left
    refine ⟨(s', t', ()), ?_, ?_, h4⟩
    · unfold g5_s0
      simp only [h6, decide_false, cond_false]
    · have : k = n := by omega
      subst this
      exact h3

theorem loop5_1 (n : Int) (t0 : Tp) (hd : List Bool) (hh : hd.length ≤ 1000) (hn : 0 ≤ n ∧ n < 3) {s : S} {t : Tp} (hs : Bits hd 0 s) (hw : wf t = true) :
    ∃ e, Loop (g5_s1 (n, t0)) ((0 : Int), s, t, ()) = some e ∧ Bits hd (14 * n.toNat) e.1 := by
  refine Loop_post (fun v : Int × S × Tp × Unit => (0 ≤ v.1 ∧ v.1 ≤ n) ∧ Bits hd (14 * v.1.toNat) v.2.1 ∧ wf v.2.2.1 = true) (fun v => (n - v.1).toNat) _ ?_ (v := ((0 : Int), s, t, ())) ⟨by simp only; omega, hs, hw⟩
  rintro ⟨k, s', t', ⟨⟩⟩ ⟨⟨h1, h2⟩, h3, h4⟩
  simp only at h1 h2 h3 h4
  by_cases h6 : k < n
  · right
    obtain ⟨X, rfl, hX⟩ := h3
    have e : IntKind.wrap .i64 (k + 1) = k + 1 := wi64 (by omega) (by omega)
    have w1 : wf (Sp07.pick t' [k, 0, 7]).2 = true := pick_wf h4
    have w2 : wf (Sp07.pick (Sp07.pick t' [k, 0, 7]).2 [1, 0, 256, 257]).2 = true := pick_wf w1
    have w3 : wf (next (Sp07.pick (Sp07.pick t' [k, 0, 7]).2 [1, 0, 256, 257]).2 4).2 = true := next_wf w2
    have b1 := pick_in t' (l := [k, 0, 7]) (N := 8) (by simp) (by simp; omega)
    have b2 := pick_in (Sp07.pick t' [k, 0, 7]).2 (l := [1, 0, 256, 257]) (N := 512) (by decide) (by decide)
    have b3 := next_range (t := (Sp07.pick (Sp07.pick t' [k, 0, 7]).2 [1, 0, 256, 257]).2) (n := 4) (by decide)
    have o1 : (wf t' && decide (0 < 3) && decide (3 ≤ 1000)) = true := by rw [h4]; rfl
    have o2 : (wf (Sp07.pick t' [k, 0, 7]).2 && decide (0 < 4) && decide (4 ≤ 1000)) = true := by rw [w1]; rfl
    have hk : k = 0 ∨ k = 1 := by omega
    have hX2 : X.length ≤ 14 := by rcases hk with rfl | rfl <;> omega
    refine ⟨(k + 1, Sp07.enc (hd ++ X ++ vbits (Sp07.pick t' [k, 0, 7]).1.toNat 3 ++ vbits (Sp07.pick (Sp07.pick t' [k, 0, 7]).2 [1, 0, 256, 257]).1.toNat 9 ++ vbits (next (Sp07.pick (Sp07.pick t' [k, 0, 7]).2 [1, 0, 256, 257]).2 4).1.toNat 2), (next (Sp07.pick (Sp07.pick t' [k, 0, 7]).2 [1, 0, 256, 257]).2 4).2, ()), ?_, ⟨⟨by simp only; omega, by simp only; omega⟩, ⟨X ++ (vbits (Sp07.pick t' [k, 0, 7]).1.toNat 3 ++ (vbits (Sp07.pick (Sp07.pick t' [k, 0, 7]).2 [1, 0, 256, 257]).1.toNat 9 ++ vbits (next (Sp07.pick (Sp07.pick t' [k, 0, 7]).2 [1, 0, 256, 257]).2 4).1.toNat 2)), by simp only [List.append_assoc], by simp only [List.length_append, vbits_length]; omega⟩, w3⟩, by simp only; omega⟩
    unfold g5_s1
    simp only [h6, decide_true, cond_true, on_true o1, on_true o2, on_true w2, Option.bind_some, e]
    rw [putW 3 3 8 rfl rfl (by decide) (by rw [List.length_append]; omega) b1, putW 9 9 512 rfl rfl (by decide) (by simp only [List.length_append, vbits_length]; omega) b2, putW 2 2 4 rfl rfl (by decide) (by simp only [List.length_append, vbits_length]; omega) b3]
  · left
    refine ⟨(s', ()), ?_, ?_⟩
    · unfold g5_s1
      simp only [h6, decide_false, cond_false]
    · have : k = n := by omega
      subst this
      exact h3

theorem g5_ok (a0 : (List Int)) (r0 : (Ty.sl (.int .i64)).ok a0) : g5 a0 = some (true, ()) := by
  have w0 := tape_wf a0
  unfold g5
  rw [on_true w0]
  simp only [Option.bind_some]
  have b1 := next_range (t := Sp07.tape a0) (n := 3) (by decide)
  have w1 := next_wf (n := 3) w0
  generalize next (Sp07.tape a0) 3 = y1 at b1 w1
  rw [on_true w1]
  simp only [Option.bind_some]
  have b2 := next_range (t := y1.2) (n := 3) (by decide)
  have w2 := next_wf (n := 3) w1
  generalize next y1.2 3 = y2 at b2 w2
  have o3 : (wf y2.2 && decide (0 < 6) && decide (6 ≤ 1000)) = true := by rw [w2]; rfl
  rw [on_true o3]
  simp only [Option.bind_some]
  have b3 := pick_in y2.2 (l := [1, 2, 0, 99, 100, 127]) (N := 128) (by decide) (by decide)
  have w3 := pick_wf (l := [1, 2, 0, 99, 100, 127]) w2
  generalize Sp07.pick y2.2 [1, 2, 0, 99, 100, 127] = y3 at b3 w3
  have o4 : (wf y3.2 && decide (0 < 4) && decide (4 ≤ 1000)) = true := by rw [w3]; rfl
  rw [on_true o4]
  simp only [Option.bind_some]
  have b4 := pick_in y3.2 (l := [1, 0, 1000000, 1000001]) (N := 1048576) (by decide) (by decide)
  have w4 := pick_wf (l := [1, 0, 1000000, 1000001]) w3
  generalize Sp07.pick y3.2 [1, 0, 1000000, 1000001] = y4 at b4 w4
  rw [on_true w4]
  simp only [Option.bind_some]
  have b5 := next_range (t := y4.2) (n := 2) (by decide)
  have w5 := next_wf (n := 2) w4
  generalize next y4.2 2 = y5 at b5 w5
  rw [← enc_nil, putW 7 7 128 rfl rfl (by decide) (by simp) b3, putW 20 20 1048576 rfl rfl (by decide) (by simp [vbits_length]) b4, putW 1 1 2 rfl rfl (by decide) (by simp [vbits_length]) b5, putW 5 5 32 rfl rfl (by decide) (by simp [vbits_length]) (by omega)]
  generalize hH : ([] ++ vbits y3.1.toNat 7 ++ vbits y4.1.toNat 20 ++ vbits y5.1.toNat 1) = H
  have hHl : H.length = 28 := by subst hH; simp [vbits_length]
  obtain ⟨y1a, y1b⟩ := y1
  obtain ⟨y2a, y2b⟩ := y2
  simp only at b1 b2 ⊢
  obtain ⟨y6, l6, ⟨X, hX, hXl⟩, w6⟩ := loop5_0 y1a y1b (H ++ vbits y1a.toNat 5) (by rw [List.length_append, vbits_length]; omega) b1 (s := Sp07.enc (H ++ vbits y1a.toNat 5)) (t := y5.2) ⟨[], by simp, rfl⟩ w5
  rw [l6]
  simp only [Option.bind_some]
  obtain ⟨y6a, y6t, ⟨⟩⟩ := y6
  simp only at hX w6 ⊢
  rw [hX, putW 4 4 16 rfl rfl (by decide) (by simp only [List.length_append, vbits_length]; omega) (by omega)]
  obtain ⟨y7, l7, Y, hY, hYl⟩ := loop5_1 y2a y2b (H ++ vbits y1a.toNat 5 ++ X ++ vbits y2a.toNat 4) (by simp only [List.length_append, vbits_length]; omega) b2 (s := Sp07.enc (H ++ vbits y1a.toNat 5 ++ X ++ vbits y2a.toNat 4)) (t := y6t) ⟨[], by simp, rfl⟩ w6
  rw [l7]
  simp only [Option.bind_some]
  rw [hY]
  generalize hB : H ++ vbits y1a.toNat 5 ++ X ++ vbits y2a.toNat 4 ++ Y = B
  have hBl : B.length = 28 + 5 + 27 * y1a.toNat + 4 + 14 * y2a.toNat := by subst hB; simp only [List.length_append, vbits_length]; omega
  have hs := seal_good (bs := B) (by omega)
  unfold put1 at hs
  rw [hs]
  have hal : (Sp07.align (Sp07.enc (sealed B))).1.1 = pack (sealed B) := by
    unfold Sp07.align
    rw [valid_enc (by simp only [sealed, List.length_append, vbits_length]; omega)]
    rfl
  rw [hal]
  have hn : nL (pack (sealed B)) = y1a.toNat := by
    unfold nL
    rw [gv_at H (X ++ (vbits y2a.toNat 4 ++ (Y ++ vbits (crc B) 16))) (v := y1a.toNat) (w := 5) (by unfold sealed; rw [← hB]; simp only [List.append_assoc]) hHl.symm (by omega)]
    rfl
  have hat : atC (pack (sealed B)) = 33 + 27 * y1a.toNat := by unfold atC; rw [hn]
  have hm : nC (pack (sealed B)) = y2a.toNat := by
    unfold nC
    rw [hat, gv_at (H ++ vbits y1a.toNat 5 ++ X) (Y ++ vbits (crc B) 16) (v := y2a.toNat) (w := 4) (by unfold sealed; rw [← hB]; simp only [List.append_assoc]) (by simp only [List.length_append, vbits_length]; omega) (by omega)]
    rfl
  have he : endB (pack (sealed B)) = B.length := by
    unfold endB
    rw [hat, hm]
    omega
  rw [decode_sealed he]
  cases validA (fields (pack (sealed B))) with
  | false => rfl
  | true =>
    simp only [Bool.not_true, cond_false, sameA_self]
    rfl

theorem ok5 : FunOk Try.prog B 5 c5 := glue L11 all11 plan5 Try.func5 (by kernel_rfl) (by
  rintro ⟨⟨⟩, a0, ⟨⟩⟩ y r h
  exact (g5_eq a0).trans ((g5_ok a0 r.2.1).trans h))
end Go.Abs.C07

/- Chapter 07: the row of AdvertForged. -/
namespace Go.Proofs.Ytmofipnlkfhfpaa
open Go.ChangeShapes Go.WideShapes Go.ChangeAt Go.RowKit Go.Abs Go.Abs.C07

set_option maxRecDepth 100000 in
theorem AdvertForged_lifted (os : Os) (started : os.Started) (H : Type) (enc : TypeId × Value → H) :
    ReturnsInHanded {} Try.checked os 5 .any (fun w args => (Rows.advertForgedSpec.pre enc Try.prog Try.f5 Rows.advertForgedRow.domain false w args ∧ True) ∧ sizedMet enc Try.prog Try.f5 (OpenSpec.ofChange Rows.advertForgedSpec) false w args)
      (Rows.advertForgedSpec.post enc Try.prog Try.f5 false true false false) := by
  refine returnsInHanded_of_change_and (C := Try.checked) (X := fun _ _ => True) (fun _ _ _ _ _ => trivial) Try.own started (by kernel_rfl) Try.func5
    (ChangeSpec.witness_at (enc := enc) (C := Try.checked) (os := os) (X := fun _ _ => True) false (laidWorld os) #[.slice none 0 0] 8 rfl (by kernel_rfl) (by kernel_rfl) (by kernel_rfl) (by kernel_rfl) (by kernel_rfl) trivial) ?_
  intro W base args ds gs before hval hW _ hwt hL _
  exact law_row 8 [.sl (.int .i64)] ok5 rfl Try.laidOut (by kernel_rfl) (by kernel_rfl) rfl (by kernel_rfl) (tb := 4) (by kernel_rfl)
    (fun ds hd => by
      match ds, hd with
      | [d1], _ => rfl) glob_ok hval hW hwt

theorem AdvertForged_holds : Rows.AdvertForgedSaid :=
  OpenClaim.holds_of_wide 5 Try.f5 rfl rfl rfl rfl rfl rfl rfl ⟨rfl, rfl, rfl, rfl, rfl⟩ rfl rfl rfl rfl rfl (by kernel_rfl) Try.func5 (by kernel_rfl)
    (of_decide_eq_true (by kernel_rfl)) (by unfold Func.isWrapper; first | (rw [if_pos (by decide +kernel)]; kernel_rfl) | (rw [if_neg (by decide +kernel)]; exact ⟨rfl, rfl⟩))
    (fun os started H enc _ => by
      show ReturnsInHanded {} Try.checked os 5 .any (fun w args => Rows.advertForgedSpec.pre enc Try.prog Try.f5 Rows.advertForgedRow.domain false w args ∧ sizedMet enc Try.prog Try.f5 (OpenSpec.ofChange Rows.advertForgedSpec) false w args) (Rows.advertForgedSpec.post enc Try.prog Try.f5 false true false false)
      have h := AdvertForged_lifted os started H enc
      simp only [and_true] at h
      exact h)
end Go.Proofs.Ytmofipnlkfhfpaa
