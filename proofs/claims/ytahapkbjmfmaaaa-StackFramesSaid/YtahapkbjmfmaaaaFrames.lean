/- Proved is the statement of the law StackFrames: for every input the law returns true, and each argument reads as it did. -/
import Derived.Test.YtahapkbjmfmaaaaRunQ
set_option linter.unusedVariables false
set_option linter.unusedSimpArgs false
namespace Go.Abs.C04
open Go Go.Proofs Sp04
set_option maxRecDepth 100000

theorem joined_cons (w : Int) (ws tail : List Int) : joined (w :: ws) ++ tail = w / 16777216 % 256 :: w / 65536 % 256 :: w / 256 % 256 :: w % 256 :: (joined ws ++ tail) := by
  unfold joined
  rw [List.flatMap_cons]
  rfl
theorem word_joined (tail : List Int) : ∀ (ws : List Int) (k : Nat), k < ws.length → (∀ w ∈ ws, 0 ≤ w ∧ w < 4294967296) → word (joined ws ++ tail) k = ws.getD k 0
  | [], k, h, _ => absurd h (Nat.not_lt_zero _)
  | w :: ws, 0, _, hw => by
    have := hw w (List.mem_cons_self ..)
    rw [joined_cons]
    show w / 16777216 % 256 * 16777216 + w / 65536 % 256 * 65536 + w / 256 % 256 * 256 + w % 256 = w
    omega
  | w :: ws, k + 1, h, hw => by
    have ih := word_joined tail ws k (by simpa using h) (fun x hx => hw x (List.mem_cons_of_mem _ hx))
    rw [joined_cons]
    show word _ (k + 1) = ws.getD k 0
    rw [← ih]
    unfold word
    rw [show 4 * (k + 1) = 4 * k + 1 + 1 + 1 + 1 by omega, show 4 * k + 1 + 1 + 1 + 1 + 1 = 4 * k + 1 + 1 + 1 + 1 + 1 from rfl]
    rfl
theorem lab_lint {x : Lb} (h : Sp04.lost x = false) (e : Int) (he : e = 0 ∨ e = 1) : Sp04.lab (lint x + 256 * e) = x ∧ (lint x + 256 * e) / 256 % 2 = e ∧ 0 ≤ lint x + 256 * e ∧ lint x + 256 * e < 4294967296 := by
  obtain ⟨v, c, d, ⟨⟩⟩ := x
  obtain ⟨hv, hc, hd⟩ := valid_lab h
  simp only at hv hc hd
  unfold lint Sp04.lab
  simp only
  refine ⟨?_, by omega, by omega, by omega⟩
  rw [show (v * 4096 + c * 512 + d + 256 * e) / 4096 = v by omega, show (v * 4096 + c * 512 + d + 256 * e) / 512 % 8 = c by omega, show (v * 4096 + c * 512 + d + 256 * e) % 256 = d by omega]
theorem map_range_getDL (l : List Lb) (f : Nat → Lb) (h : ∀ i, i < l.length → f i = l.getD i (0, 0, 0, ())) : (List.range l.length).map f = l := by
  apply List.ext_getElem
  · rw [List.length_map, List.length_range]
  · intro i h1 h2
    rw [List.getElem_map, List.getElem_range, h i h2, List.getD_eq_getElem?_getD, List.getElem?_eq_getElem h2]
    rfl
theorem decGo_back {b : List Int} {l : List Lb} (hn : l.any lost = false) (hl : 4 * l.length ≤ b.length) (hw : ∀ i, i < l.length → word b i = lint (l.getD i (0, 0, 0, ())) + 256 * (if i + 1 = l.length then 1 else 0)) :
    ∀ j k f, k + j + 1 = l.length → j < f → decGo b f k = (l, 4 * (l.length : Int), 0, ()) := by
  intro j
  induction j with
  | zero =>
    intro k f hk hf
    obtain ⟨f, rfl⟩ : ∃ g, f = g + 1 := ⟨f - 1, by omega⟩
    unfold decGo
    obtain ⟨-, h2, -, -⟩ := lab_lint (not_lost hn k (by omega)) 1 (.inr rfl)
    have hk1 : word b k = lint (l.getD k (0, 0, 0, ())) + 256 * 1 := by rw [hw k (by omega), if_pos (by omega)]
    rw [decide_eq_false (show ¬ b.length < 4 * k + 4 by omega), hk1, decide_eq_true h2]
    simp only [cond_false, cond_true]
    rw [show k + 1 = l.length by omega, map_range_getDL l _ (fun i hi => by
      have hx := not_lost hn i hi
      show Sp04.lab (word b i) = _
      rw [hw i hi]
      by_cases h : i + 1 = l.length
      · rw [if_pos h]; exact (lab_lint hx 1 (.inr rfl)).1
      · rw [if_neg h]; exact (lab_lint hx 0 (.inl rfl)).1), show 4 * (k : Int) + 4 = 4 * (l.length : Int) by omega]
  | succ j ih =>
    intro k f hk hf
    obtain ⟨f, rfl⟩ : ∃ g, f = g + 1 := ⟨f - 1, by omega⟩
    unfold decGo
    obtain ⟨-, h2, -, -⟩ := lab_lint (not_lost hn k (by omega)) 0 (.inl rfl)
    have hk1 : word b k = lint (l.getD k (0, 0, 0, ())) + 256 * 0 := by rw [hw k (by omega), if_neg (by omega)]
    rw [decide_eq_false (show ¬ b.length < 4 * k + 4 by omega), hk1, h2]
    exact ih (k + 1) f (by omega) (by omega)
theorem ends_at (ws : List Int) (i : Nat) (h : i < ws.length) : (ends ws).getD i 0 = ws.getD i 0 + 256 * (if i + 1 = ws.length then 1 else 0) := by
  unfold ends
  simp only [List.getD_eq_getElem?_getD, List.getElem?_set]
  by_cases h1 : i + 1 = ws.length
  · rw [if_pos (show ws.length - 1 = i by omega), if_pos h1, if_pos (by omega), show ws.length - 1 = i by omega]
    rfl
  · rw [if_neg (show ¬ ws.length - 1 = i by omega), if_neg h1]
    omega
theorem encL_ok {l : List Lb} (h : (encL l).2.1 = 0) : 1 ≤ l.length ∧ l.length ≤ 24 ∧ l.any lost = false ∧ (encL l).1 = joined (ends (l.map lint)) := by
  unfold encL at h ⊢
  by_cases h1 : l.length < 1
  · rw [decide_eq_true h1] at h; cases h
  by_cases h2 : 24 < l.length
  · rw [decide_eq_false h1, decide_eq_true h2] at h; cases h
  rw [decide_eq_false h1, decide_eq_false h2] at h ⊢
  cases hn : l.any lost with
  | true => rw [hn] at h; cases h
  | false => exact ⟨by omega, by omega, rfl, rfl⟩
theorem decL_encL {l : List Lb} (tail : List Int) (h : (encL l).2.1 = 0) : decL ((encL l).1 ++ tail) = (l, ((encL l).1.length : Int), 0, ()) ∧ (encL l).1.length = 4 * l.length := by
  obtain ⟨h1, h2, hn, he⟩ := encL_ok h
  have hel : (ends (l.map lint)).length = l.length := by
    unfold ends
    rw [List.length_set, List.length_map]
  have hlen : (encL l).1.length = 4 * l.length := by rw [he, joined_len, hel]
  have hgm : ∀ i, i < l.length → (l.map lint).getD i 0 = lint (l.getD i (0, 0, 0, ())) := by
    intro i hi
    simp only [List.getD_eq_getElem?_getD, List.getElem?_map]
    rw [List.getElem?_eq_getElem hi]
    rfl
  have hw : ∀ i, i < l.length → (ends (l.map lint)).getD i 0 = lint (l.getD i (0, 0, 0, ())) + 256 * (if i + 1 = l.length then 1 else 0) := by
    intro i hi
    rw [ends_at _ i (by rw [List.length_map]; exact hi), hgm i hi, List.length_map]
  have hr : ∀ w ∈ ends (l.map lint), 0 ≤ w ∧ w < 4294967296 := by
    intro w hw2
    obtain ⟨i, hi, rfl⟩ := List.getElem_of_mem hw2
    have hi2 : i < l.length := by rw [hel] at hi; exact hi
    have := hw i hi2
    rw [List.getD_eq_getElem?_getD, List.getElem?_eq_getElem hi] at this
    simp only [Option.getD_some] at this
    rw [this]
    by_cases h : i + 1 = l.length
    · rw [if_pos h]; exact (lab_lint (not_lost hn i hi2) 1 (.inr rfl)).2.2
    · rw [if_neg h]; exact (lab_lint (not_lost hn i hi2) 0 (.inl rfl)).2.2
  refine ⟨?_, hlen⟩
  rw [hlen]
  unfold decL
  rw [decGo_back hn (by rw [List.length_append, hlen]; omega) (fun i hi => by rw [he, word_joined tail _ i (by rw [hel]; exact hi) hr, hw i hi]) (l.length - 1) 0 24 (by omega) (by omega)]
  rw [show (((4 * l.length : Nat)) : Int) = 4 * (l.length : Int) by omega]
theorem decRest_enc {p : Pk} (r : List Int) (hv : validP p = true) (hb : 0 ≤ bt p) (hy : bytesOk (py p)) : decRest r (Sp04.encode p).1 = ((r, p), 0, ()) := by
  unfold decRest
  rw [dec_enc hv hb hy]
  rfl
theorem decF_encF {f : Fr} (hb : 0 ≤ bt f.2) (hy : bytesOk (py f.2)) (h : (encF f).2.1 = 0) : decF (encF f).1 = (f, 0, ()) := by
  obtain ⟨r, p⟩ := f
  simp only at hb hy
  unfold encF at h ⊢
  cases hv : validF (r, p) with
  | false => rw [hv] at h; cases h
  | true =>
    obtain ⟨v1, v2, v3, v4⟩ := validF_iff hv
    simp only at v1 v2 v3 v4
    simp only [Bool.not_true, cond_false]
    by_cases h0 : r.length = 0
    · rw [decide_eq_true h0]
      simp only [cond_true]
      have hr : r = [] := List.length_eq_zero_iff.1 h0
      subst hr
      exact decRest_enc [] v4 hb hy
    · rw [decide_eq_false h0]
      simp only [cond_false]
      have hlost : (r.map fun n => ((16 + n, 0, 255, ()) : Lb)).any lost = false := by
        rw [Bool.eq_false_iff]
        intro hc
        obtain ⟨x, hx, hc⟩ := List.any_eq_true.1 hc
        obtain ⟨n, hn, rfl⟩ := List.mem_map.1 hx
        have := inside_iff.1 (List.all_eq_true.1 v2 n hn)
        unfold lost validL at hc
        simp only [Bool.not_eq_true'] at hc
        rw [inside_iff.2 (show 0 ≤ 16 + n ∧ 16 + n ≤ 1048575 by omega)] at hc
        cases hc
      have hE : (encL (r.map fun n => ((16 + n, 0, 255, ()) : Lb))).2.1 = 0 := by
        unfold encL
        rw [hlost, List.length_map, decide_eq_false (show ¬ r.length < 1 by omega), decide_eq_false (show ¬ 24 < r.length by omega)]
        rfl
      obtain ⟨hd, hl⟩ := decL_encL (Sp04.encode p).1 hE
      have halien : (r.map fun n => ((16 + n, 0, 255, ()) : Lb)).any alien = false := by
        rw [Bool.eq_false_iff]
        intro hc
        obtain ⟨x, hx, hc⟩ := List.any_eq_true.1 hc
        obtain ⟨n, hn, rfl⟩ := List.mem_map.1 hx
        have := List.all_eq_true.1 v2 n hn
        unfold alien stray at hc
        simp only [show 16 + n - 16 = n by omega, this] at hc
        cases hc
      have hmap : (r.map fun n => ((16 + n, 0, 255, ()) : Lb)).map (fun l => l.1 - 16) = r := by
        rw [List.map_map]
        have : ((fun l : Lb => l.1 - 16) ∘ fun n => ((16 + n, 0, 255, ()) : Lb)) = id := by
          funext n
          show 16 + n - 16 = n
          omega
        rw [this, List.map_id]
      unfold decF
      simp only [List.length_cons, List.getD_cons_zero, List.drop_succ_cons, List.drop_zero, hd, hmap, halien, v3, Int.toNat_natCast, List.drop_left]
      rw [decide_eq_false (show ¬ ((encL (r.map fun n => ((16 + n, 0, 255, ()) : Lb))).1 ++ (Sp04.encode p).1).length + 1 = 0 by omega)]
      exact decRest_enc r v4 hb hy
end Go.Abs.C04

namespace Go.Abs.C04
open Go Go.Proofs Sp04
set_option maxRecDepth 100000

theorem step6 (raw : List Int) (hr : Int.ofNat raw.length ≤ 100) (l : List (List Int × Pk × Unit)) (hl : l.length = 3) (hg : ∀ x ∈ l, 0 ≤ bt x.2.1 ∧ bytesOk (py x.2.1)) (i : Nat) (hi : i < l.length) :
    g6_s0 raw ((i : Int), l, ()) = some (.inl (((i + 1 : Nat) : Int), l, ())) := by
  have hx := hg _ (getD_mem (d := ([], (0, 0, 0, 0, 0, 0, 0, 0, 0, [], ()), ())) hi)
  unfold g6_s0
  simp only [hr, Int.toNat_natCast, lbeq, eq_self, decide_true, Bool.not_true, Bool.not_false, cond_true, cond_false, Option.bind_some]
  rw [decide_eq_true (show (i : Int) < 3 by omega), decide_eq_true (show (0 : Int) ≤ (i : Int) by omega), decide_eq_true (show (i : Int) < Int.ofNat l.length by show (i : Int) < (l.length : Int); omega), show Nat.blt i l.length = true from Nat.ble_eq_true_of_le hi, wi64 (n := (i : Int) + 1) (by omega) (by omega)]
  simp only [Bool.and_self, cond_true, Option.bind_some]
  by_cases hE : (encF ((l.getD i ([], (0, 0, 0, 0, 0, 0, 0, 0, 0, [], ()), ())).1, (l.getD i ([], (0, 0, 0, 0, 0, 0, 0, 0, 0, [], ()), ())).2.1)).2.1 = 0
  · have hd := decF_encF (f := ((l.getD i ([], (0, 0, 0, 0, 0, 0, 0, 0, 0, [], ()), ())).1, (l.getD i ([], (0, 0, 0, 0, 0, 0, 0, 0, 0, [], ()), ())).2.1)) hx.1 hx.2 hE
    simp only [hd, hE, sameF_self, eq_self, decide_true, Bool.not_true, Bool.not_false, cond_true, cond_false, Option.bind_some]
    rfl
  · simp only [hE, decide_false, cond_false, Option.bind_some]
    rfl
theorem tail6 (raw : List Int) (l : List (List Int × Pk × Unit)) (hl : l.length = 3) (hg : ∀ x ∈ l, 0 ≤ bt x.2.1 ∧ bytesOk (py x.2.1)) : Loop (g6_s0 raw) ((0 : Int), l, ()) = some (false, (false, ()), ()) := by
  by_cases hr : Int.ofNat raw.length ≤ 100
  · refine loop_up _ l _ (step6 raw hr l hl hg) ?_
    rw [hl]
    rfl
  · rw [Loop_step]
    unfold g6_s0
    simp only [hr, decide_false]
    rfl

theorem g6_ok (a0 : (List Int)) (a1 : (List Int)) (a2 : Int) (a3 : Int) (a4 : Int) (a5 : Int) (a6 : Int) (a7 : Int) (a8 : Int) (a9 : Int) (a10 : Int) (a11 : (List Int)) (r0 : (Ty.sl (.int .i64)).ok a0) (r1 : (Ty.sl (.int .i64)).ok a1) (r2 : IntKind.i64.has a2) (r3 : IntKind.i64.has a3) (r4 : IntKind.i64.has a4) (r5 : IntKind.i64.has a5) (r6 : IntKind.i64.has a6) (r7 : IntKind.i64.has a7) (r8 : IntKind.i64.has a8) (r9 : IntKind.i64.has a9) (r10 : IntKind.u64.has a10) (r11 : Ty.str.ok a11) : g6 a0 a1 a2 a3 a4 a5 a6 a7 a8 a9 a10 a11 = some (true, ()) := by
  have w0 := tape_wf a0
  unfold g6
  rw [on_true (show (wf (Sp04.tape a0) && small 3) = true by rw [w0]; rfl)]
  simp only [Option.bind_some]
  obtain ⟨w1, -, b1, c1⟩ := frm_good (n := 3) w0
  generalize frm (Sp04.tape a0) 3 = y12 at w1 b1 c1 ⊢
  rw [on_true (show (wf y12.2 && small 0) = true by rw [w1]; rfl)]
  simp only [Option.bind_some]
  obtain ⟨w2, -, b2, c2⟩ := frm_good (n := 0) w1
  generalize frm y12.2 0 = y13 at w2 b2 c2 ⊢
  rw [tail6 a1 _ rfl (fun x hx => by
    simp only [List.mem_cons, List.not_mem_nil, or_false] at hx
    rcases hx with hx | hx | hx
    · rw [hx]; exact ⟨b1, c1⟩
    · rw [hx]; exact ⟨b2, c2⟩
    · rw [hx]; exact ⟨r10.1, str_bytes r11⟩)]
  rfl

end Go.Abs.C04

namespace Go.Abs.C04
open Go Go.Proofs
set_option maxRecDepth 100000
theorem ok6 : FunOk Try.prog B 6 c6 := glue L16 all16 plan6 Try.func6 (by kernel_rfl) (by
  rintro ⟨⟨⟩, a0, ⟨a1, a2, a3, a4, a5, a6, a7, a8, a9, a10, a11, ⟨⟩⟩, ⟨⟩⟩ y r h
  exact (g6_eq a0 a1 a2 a3 a4 a5 a6 a7 a8 a9 a10 a11).trans ((g6_ok a0 a1 a2 a3 a4 a5 a6 a7 a8 a9 a10 a11 r.2.1 r.2.2.1.1 r.2.2.1.2.1 r.2.2.1.2.2.1 r.2.2.1.2.2.2.1 r.2.2.1.2.2.2.2.1 r.2.2.1.2.2.2.2.2.1 r.2.2.1.2.2.2.2.2.2.1 r.2.2.1.2.2.2.2.2.2.2.1 r.2.2.1.2.2.2.2.2.2.2.2.1 r.2.2.1.2.2.2.2.2.2.2.2.2.1 r.2.2.1.2.2.2.2.2.2.2.2.2.2.1).trans h))
end Go.Abs.C04

namespace Go.Proofs.Ytahapkbjmfmaaaa
open Go.ChangeShapes Go.WideShapes Go.ChangeAt Go.RowKit Go.Abs Go.Abs.C04

set_option maxRecDepth 100000 in
theorem StackFrames_lifted (os : Os) (started : os.Started) (H : Type) (enc : TypeId × Value → H) :
    ReturnsInHanded {} Try.checked os 6 .any (fun w args => (Rows.stackFramesSpec.pre enc Try.prog Try.f6 Rows.stackFramesRow.domain false w args ∧ True) ∧ sizedMet enc Try.prog Try.f6 (OpenSpec.ofChange Rows.stackFramesSpec) false w args)
      (Rows.stackFramesSpec.post enc Try.prog Try.f6 false true false false) := by
  refine returnsInHanded_of_change_and (C := Try.checked) (X := fun _ _ => True) (fun _ _ _ _ _ => trivial) Try.own started (by kernel_rfl) Try.func6
    (ChangeSpec.witness_at (enc := enc) (C := Try.checked) (os := os) (X := fun _ _ => True) false (laidWorld os) #[.slice none 0 0, .agg #[.slice none 0 0, .int .i64 0, .int .i64 0, .int .i64 0, .int .i64 0, .int .i64 0, .int .i64 0, .int .i64 0, .int .i64 0, .int .u64 0, .string ⟨#[]⟩]] 8 rfl (by kernel_rfl) (by kernel_rfl) (by kernel_rfl) (by kernel_rfl) (by kernel_rfl) trivial) ?_
  intro W base args ds gs before hval hW _ hwt hL _
  exact law_row 8 [.sl (.int .i64), .st 112 (.cons (.sl (.int .i64)) (.cons (.st 88 (.cons (.int .i64) (.cons (.int .i64) (.cons (.int .i64) (.cons (.int .i64) (.cons (.int .i64) (.cons (.int .i64) (.cons (.int .i64) (.cons (.int .i64) (.cons (.int .u64) (.cons .str .unit))))))))))) .unit))] ok6 rfl Try.laidOut (by kernel_rfl) (by kernel_rfl) rfl (by kernel_rfl) (tb := 4) (by kernel_rfl)
    (fun ds hd => by
      match ds, hd with
      | [d1, d2], _ => rfl) glob_ok hval hW hwt

theorem StackFrames_holds : Rows.StackFramesSaid :=
  OpenClaim.holds_of_wide 6 Try.f6 rfl rfl rfl rfl rfl rfl rfl ⟨rfl, rfl, rfl, rfl, rfl⟩ rfl rfl rfl rfl rfl (by kernel_rfl) Try.func6 (by kernel_rfl)
    (of_decide_eq_true (by kernel_rfl)) (by unfold Func.isWrapper; first | (rw [if_pos (by decide +kernel)]; kernel_rfl) | (rw [if_neg (by decide +kernel)]; exact ⟨rfl, rfl⟩))
    (fun os started H enc _ => by
      show ReturnsInHanded {} Try.checked os 6 .any (fun w args => Rows.stackFramesSpec.pre enc Try.prog Try.f6 Rows.stackFramesRow.domain false w args ∧ sizedMet enc Try.prog Try.f6 (OpenSpec.ofChange Rows.stackFramesSpec) false w args) (Rows.stackFramesSpec.post enc Try.prog Try.f6 false true false false)
      have h := StackFrames_lifted os started H enc
      simp only [and_true] at h
      exact h)
end Go.Proofs.Ytahapkbjmfmaaaa
