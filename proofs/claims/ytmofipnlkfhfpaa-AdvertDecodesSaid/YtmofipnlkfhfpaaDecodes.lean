/- Proved is the statement of the law AdvertDecodes: for every input the law returns true, and each argument reads as it did. -/
import Derived.Test.YtmofipnlkfhfpaaRunQ
set_option linter.unusedVariables false
set_option linter.unusedSimpArgs false
/- Chapter 07: the law on writing adverts. -/
namespace Go.Abs.C07
open Go Go.Proofs Sp07
set_option maxRecDepth 100000

theorem beq_self (l : List Int) : List.beq l l = true := by
  show (l == l) = true
  simp
theorem outer3 (x : Ad) (l : List Ad) (hl : l.length ≤ 100) : Loop (g3_s0 x.1 x.2.1 x.2.2.1 x.2.2.2.1 x.2.2.2.2.1) ((0 : Int), l, ()) = some (false, (false, ()), ()) := by
  refine Loop_inv (fun v : Int × List Ad × Unit => 0 ≤ v.1 ∧ v.1 ≤ (l.length : Int) ∧ v.2.1 = l) (fun v => ((l.length : Int) - v.1).toNat) (fun _ => (false, (false, ()), ())) ?_ (v := ((0 : Int), l, ())) ⟨by simp, by simp, rfl⟩
  rintro ⟨k, l', ⟨⟩⟩ ⟨h1, h2, h3⟩
  simp only at h1 h2 h3
  subst h3
  have e : IntKind.wrap .i64 (k + 1) = k + 1 := wi64 (by omega) (by omega)
  unfold g3_s0
  by_cases h4 : k < (l'.length : Int)
  · have b2 : Nat.blt k.toNat l'.length = true := blt_t (by omega)
    simp only [Int.ofNat_eq_natCast, h4, decide_true, cond_true, Option.bind_some]
    cases Sp07.big (x.1, x.2.1, x.2.2.1, x.2.2.2.1, x.2.2.2.2.1, ()) with
    | true => left; rfl
    | false =>
      right
      refine ⟨(k + 1, l', ()), ?_, ⟨by simp only; omega, by simp only; omega, rfl⟩, by simp only; omega, trivial⟩
      generalize l'.getD k.toNat ((0 : Int), ((0 : Int), (false, ([], ([], ()))))) = y
      simp only [h1, h4, b2, e, beq_self, enc_ok_iff, decide_true, cond_true, cond_false, Bool.and_self, Bool.not_true, Bool.not_false, Option.bind_some]
      cases hv : validA y with
      | false => rfl
      | true =>
        rw [dec_enc hv]
        simp only [sameA_self, decide_true, cond_true, cond_false, Bool.not_true, Bool.not_false, Option.bind_some]
  · left
    simp only [Int.ofNat_eq_natCast, h4, decide_false, cond_false, Option.bind_some]

theorem g3_ok (a0 : (List Int)) (a1 : Int) (a2 : Int) (a3 : Bool) (a4 : (List (Int × (Int × (Int × Unit))))) (a5 : (List (Int × (Int × (Int × Unit))))) (r0 : (Ty.sl (.int .i64)).ok a0) (r1 : IntKind.i64.has a1) (r2 : IntKind.i64.has a2) (r4 : (Ty.sl (rc)).ok a4) (r5 : (Ty.sl (rc)).ok a5) : g3 a0 a1 a2 a3 a4 a5 = some (true, ()) := by
  unfold g3
  have w0 := tape_wf a0
  have w1 := range_wf (a := 1) (b := 6) w0
  have w2 := adv_wf (r := (Sp07.range (Sp07.tape a0) 1 6).1) (n := 3) w1
  have w3 := range_wf (a := 1) (b := 6) w2
  rw [on_range w0 (by decide) (by decide)]
  simp only [Option.bind_some]
  rw [on_adv w1 _ (by decide)]
  simp only [Option.bind_some]
  rw [on_range w2 (by decide) (by decide)]
  simp only [Option.bind_some]
  rw [on_adv w3 _ (by decide)]
  simp only [Option.bind_some]
  rw [outer3 (a1, a2, a3, a4, a5, ()) _ (by simp only [List.length_cons, List.length_nil]; omega)]
  rfl

theorem ok3 : FunOk Try.prog B 3 c3 := glue L11 all11 plan3 Try.func3 (by kernel_rfl) (by
  rintro ⟨⟨⟩, a0, ⟨a1, a2, a3, a4, a5, ⟨⟩⟩, ⟨⟩⟩ y r h
  exact (g3_eq a0 a1 a2 a3 a4 a5).trans ((g3_ok a0 a1 a2 a3 a4 a5 r.2.1 r.2.2.1.1 r.2.2.1.2.1 r.2.2.1.2.2.2.1 r.2.2.1.2.2.2.2.1).trans h))
end Go.Abs.C07

/- Chapter 07: the law on reading adverts. -/
namespace Go.Abs.C07
open Go Go.Proofs Sp07
set_option maxRecDepth 100000

theorem u8_range (n : Int) : 0 ≤ IntKind.wrap .u8 n ∧ IntKind.wrap .u8 n < 256 := by rw [wu8m]; omega
theorem bytesOk_take {l : List Int} (h : bytesOk l) (n : Nat) : bytesOk (l.take n) := fun x hx => h x (List.mem_of_mem_take hx)
theorem room1 {n : Nat} (h : n ≤ 5000) : Nat.ble ((n + 1) * 1) 140737488355328 = true := ble_t (by omega)

theorem loop4_0 {n : Int} (hn : n < 4) {t : Tp} {b : List Int} (hw : wf t = true) (hb : bytesOk b) (hl : b.length ≤ 2000) :
    ∃ e, Loop g4_s0 (n, t, b, ()) = some e ∧ bytesOk e.1 := by
  refine Loop_post (fun v : Int × Tp × List Int × Unit => v.1 < 4 ∧ wf v.2.1 = true ∧ bytesOk v.2.2.1 ∧ (v.2.2.1.length : Int) + v.1 ≤ 3000) (fun v => v.1.toNat) _ ?_ (v := (n, t, b, ())) ⟨hn, hw, hb, by simp only; omega⟩
  rintro ⟨k, t', l, ⟨⟩⟩ ⟨h1, h2, h3, h4⟩
  simp only at h1 h2 h3 h4
  by_cases h5 : 0 < k
  rotate_left
  · left
    have h5' : ¬ k > 0 := h5
    refine ⟨(l, ()), ?_, h3⟩
    unfold g4_s0
    simp only [h5', decide_false, cond_false, Option.bind_some]
  have h5' : k > 0 := h5
  by_cases h6 : 0 < l.length
  rotate_left
  · left
    have h6' : ¬ (l.length : Int) > 0 := by omega
    refine ⟨(l, ()), ?_, h3⟩
    unfold g4_s0
    simp only [h5', h6', Int.ofNat_eq_natCast, decide_true, decide_false, cond_true, cond_false, Option.bind_some]
  have h6' : (l.length : Int) > 0 := by omega
  right
  have e : IntKind.wrap .i64 (k - 1) = k - 1 := wi64 (by omega) (by omega)
  have w2 := next_wf (n := 4) h2
  have r2 := next_range (t := t') (n := 4) (by decide)
  unfold g4_s0
  simp only [h5', h6', Int.ofNat_eq_natCast, decide_true, cond_true, Option.bind_some, on_true h2]
  generalize next t' 4 = y2 at w2 r2
  by_cases k0 : y2.1 = 0
  · have w3 := next_wf (n := (l.length : Int)) w2
    have r3 := next_range (t := y2.2) (n := (l.length : Int)) (by omega)
    simp only [k0, decide_true, cond_true, on_true w2, Option.bind_some]
    generalize next y2.2 (l.length : Int) = y3 at w3 r3
    have w4 := next_wf (n := 8) w3
    have r4 := next_range (t := y3.2) (n := 8) (by decide)
    have b3 : Nat.blt y3.1.toNat l.length = true := blt_t (by omega)
    simp only [r3.1, r3.2, b3, decide_true, cond_true, Bool.and_self, on_true w3, Option.bind_some]
    generalize next y3.2 8 = y4 at w4 r4
    have e4 : IntKind.wrap .u64 y4.1 = y4.1 := wu64 r4.1 (by omega)
    simp only [e4, r4.1, decide_true, cond_true, Option.bind_some, e]
    exact ⟨_, rfl, ⟨by simp only; omega, w4, bytesOk_set h3 (u8_range _), by simp only [List.length_set]; omega⟩, by simp only; omega⟩
  rw [decide_eq_false k0]
  by_cases k1 : y2.1 = 1
  · have e1 : IntKind.wrap .i64 ((l.length : Int) + 1) = (l.length : Int) + 1 := wi64 (by omega) (by omega)
    have w3 := next_wf (n := (l.length : Int) + 1) w2
    have r3 := next_range (t := y2.2) (n := (l.length : Int) + 1) (by omega)
    simp only [k1, decide_true, cond_true, cond_false, on_true w2, Option.bind_some, e1]
    generalize next y2.2 ((l.length : Int) + 1) = y3 at w3 r3
    have c3 : y3.1 ≤ (l.length : Int) := by omega
    simp only [r3.1, c3, decide_true, cond_true, Bool.and_self, Option.bind_some, e]
    exact ⟨_, rfl, ⟨by simp only; omega, w3, bytesOk_take h3 _, by simp only [List.length_take]; omega⟩, by simp only; omega⟩
  rw [decide_eq_false k1]
  by_cases k2 : y2.1 = 2
  · have w3 := next_wf (n := 2) w2
    simp only [k2, decide_true, cond_true, cond_false, on_true w2, Option.bind_some, room1 (n := l.length) (by omega), e]
    exact ⟨_, rfl, ⟨by simp only; omega, w3, bytesOk_app h3 (bytesOk_one (u8_range _)), by simp only [List.length_append, List.length_singleton]; omega⟩, by simp only; omega⟩
  · rw [decide_eq_false k2]
    have w3 := next_wf (n := 4) w2
    have e1 : IntKind.wrap .i64 ((l.length : Int) - 1) = (l.length : Int) - 1 := wi64 (by omega) (by omega)
    have c1 : 0 ≤ (l.length : Int) - 1 := by omega
    have c2 : (l.length : Int) - 1 < (l.length : Int) := by omega
    have c3 : Nat.blt ((l.length : Int) - 1).toNat l.length = true := blt_t (by omega)
    simp only [cond_false, e1, c1, c2, c3, decide_true, cond_true, Bool.and_self, on_true w2, Option.bind_some, e]
    exact ⟨_, rfl, ⟨by simp only; omega, w3, bytesOk_set h3 (u8_range _), by simp only [List.length_set]; omega⟩, by simp only; omega⟩

theorem loop4_1 (raw : List Int) (l : List (List Int)) (hl : l.length = 2) (hb : ∀ x ∈ l, bytesOk x) : Loop (g4_s1 raw) ((0 : Int), l, ()) = some (false, (false, ()), ()) := by
  refine Loop_inv (fun v : Int × List (List Int) × Unit => 0 ≤ v.1 ∧ v.1 ≤ 2 ∧ v.2.1 = l) (fun v => (2 - v.1).toNat) (fun _ => (false, (false, ()), ())) ?_ (v := ((0 : Int), l, ())) ⟨by simp, by simp, rfl⟩
  rintro ⟨k, l', ⟨⟩⟩ ⟨h1, h2, h3⟩
  simp only at h1 h2 h3
  subst h3
  have e : IntKind.wrap .i64 (k + 1) = k + 1 := wi64 (by omega) (by omega)
  unfold g4_s1
  by_cases h4 : k < 2
  · have b2 : Nat.blt k.toNat l'.length = true := blt_t (by omega)
    have h4' : k < (l'.length : Int) := by omega
    simp only [h4, decide_true, cond_true, Option.bind_some]
    cases decide (Int.ofNat raw.length ≤ 400) with
    | false => left; rfl
    | true =>
      right
      refine ⟨(k + 1, l', ()), ?_, ⟨by simp only; omega, by simp only; omega, rfl⟩, by simp only; omega, trivial⟩
      have hx : bytesOk (l'.getD k.toNat []) := hb _ (getD_mem (by omega))
      generalize l'.getD k.toNat [] = x at hx
      simp only [h1, h4', Int.ofNat_eq_natCast, b2, e, sameA_self, decide_true, cond_true, cond_false, Bool.and_self, Bool.not_true, Bool.not_false, Option.bind_some]
      by_cases hv : (Sp07.decode x).2.1 = 0
      · rw [enc_dec hx hv]
        simp only [hv, beq_self, decide_true, cond_true, cond_false, Bool.not_true, Bool.not_false, Option.bind_some]
      · rw [decide_eq_false hv]
        rfl
  · left
    simp only [h4, decide_false, cond_false, Option.bind_some]

theorem encode_bytes (a : Ad) : bytesOk (Sp07.encode a).1 ∧ (Sp07.encode a).1.length ≤ 200 := by
  unfold Sp07.encode
  cases hv : validA a with
  | false => exact ⟨fun x hx => by simp at hx, by simp⟩
  | true =>
    have := body_length (validA_iff.1 hv)
    refine ⟨pack_ok _, ?_⟩
    show (pack (sealed (body a))).length ≤ 200
    rw [pack_length]
    simp only [sealed, List.length_append, vbits_length]
    omega

theorem g4_ok (a0 : (List Int)) (a1 : (List Int)) (r0 : (Ty.sl (.int .i64)).ok a0) (r1 : (Ty.sl (.int .u8)).ok a1) : g4 a0 a1 = some (true, ()) := by
  unfold g4
  have w0 := tape_wf a0
  have w1 := range_wf (a := 1) (b := 6) w0
  have w2 := adv_wf (r := (Sp07.range (Sp07.tape a0) 1 6).1) (n := 0) w1
  rw [on_range w0 (by decide) (by decide)]
  simp only [Option.bind_some]
  rw [on_adv w1 _ (by decide)]
  simp only [Option.bind_some]
  rw [on_true w2]
  simp only [Option.bind_some]
  have w3 := next_wf (n := 4) w2
  have r3 := next_range (t := (Sp07.advert (Sp07.range (Sp07.tape a0) 1 6).2 (Sp07.range (Sp07.tape a0) 1 6).1 0).2) (n := 4) (by decide)
  obtain ⟨g1, g2⟩ := encode_bytes (Sp07.advert (Sp07.range (Sp07.tape a0) 1 6).2 (Sp07.range (Sp07.tape a0) 1 6).1 0).1
  obtain ⟨y5, l5, h5⟩ := loop4_0 r3.2 w3 g1 (by omega)
  rw [l5]
  simp only [Option.bind_some]
  rw [loop4_1 a1 [y5.1, a1] rfl (by
    intro x hx
    simp only [List.mem_cons, List.not_mem_nil, or_false] at hx
    rcases hx with rfl | rfl
    · exact h5
    · exact (dat r1).2)]
  rfl

theorem ok4 : FunOk Try.prog B 4 c4 := glue L11 all11 plan4 Try.func4 (by kernel_rfl) (by
  rintro ⟨⟨⟩, a0, a1, ⟨⟩⟩ y r h
  exact (g4_eq a0 a1).trans ((g4_ok a0 a1 r.2.1 r.2.2.1).trans h))
end Go.Abs.C07

/- Chapter 07: the row of AdvertDecodes. -/
namespace Go.Proofs.Ytmofipnlkfhfpaa
open Go.ChangeShapes Go.WideShapes Go.ChangeAt Go.RowKit Go.Abs Go.Abs.C07

set_option maxRecDepth 100000 in
theorem AdvertDecodes_lifted (os : Os) (started : os.Started) (H : Type) (enc : TypeId × Value → H) :
    ReturnsInHanded {} Try.checked os 4 .any (fun w args => (Rows.advertDecodesSpec.pre enc Try.prog Try.f4 Rows.advertDecodesRow.domain false w args ∧ True) ∧ sizedMet enc Try.prog Try.f4 (OpenSpec.ofChange Rows.advertDecodesSpec) false w args)
      (Rows.advertDecodesSpec.post enc Try.prog Try.f4 false true false false) := by
  refine returnsInHanded_of_change_and (C := Try.checked) (X := fun _ _ => True) (fun _ _ _ _ _ => trivial) Try.own started (by kernel_rfl) Try.func4
    (ChangeSpec.witness_at (enc := enc) (C := Try.checked) (os := os) (X := fun _ _ => True) false (laidWorld os) #[.slice none 0 0, .slice none 0 0] 8 rfl (by kernel_rfl) (by kernel_rfl) (by kernel_rfl) (by kernel_rfl) (by kernel_rfl) trivial) ?_
  intro W base args ds gs before hval hW _ hwt hL _
  exact law_row 8 [.sl (.int .i64), .sl (.int .u8)] ok4 rfl Try.laidOut (by kernel_rfl) (by kernel_rfl) rfl (by kernel_rfl) (tb := 4) (by kernel_rfl)
    (fun ds hd => by
      match ds, hd with
      | [d1, d2], _ => rfl) glob_ok hval hW hwt

theorem AdvertDecodes_holds : Rows.AdvertDecodesSaid :=
  OpenClaim.holds_of_wide 4 Try.f4 rfl rfl rfl rfl rfl rfl rfl ⟨rfl, rfl, rfl, rfl, rfl⟩ rfl rfl rfl rfl rfl (by kernel_rfl) Try.func4 (by kernel_rfl)
    (of_decide_eq_true (by kernel_rfl)) (by unfold Func.isWrapper; first | (rw [if_pos (by decide +kernel)]; kernel_rfl) | (rw [if_neg (by decide +kernel)]; exact ⟨rfl, rfl⟩))
    (fun os started H enc _ => by
      show ReturnsInHanded {} Try.checked os 4 .any (fun w args => Rows.advertDecodesSpec.pre enc Try.prog Try.f4 Rows.advertDecodesRow.domain false w args ∧ sizedMet enc Try.prog Try.f4 (OpenSpec.ofChange Rows.advertDecodesSpec) false w args) (Rows.advertDecodesSpec.post enc Try.prog Try.f4 false true false false)
      have h := AdvertDecodes_lifted os started H enc
      simp only [and_true] at h
      exact h)
end Go.Proofs.Ytmofipnlkfhfpaa
