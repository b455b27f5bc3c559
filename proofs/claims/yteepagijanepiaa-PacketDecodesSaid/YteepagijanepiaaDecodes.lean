/- Proved is the statement of the law PacketDecodes: for every input the law returns true, and each argument reads as it did. -/
import Derived.Test.YteepagijanepiaaRunQ
set_option linter.unusedVariables false
set_option linter.unusedSimpArgs false
/- Chapter 03: the laws: decodes. -/
namespace Go.Abs.C03
open Go Go.Proofs Sp03
set_option maxRecDepth 100000

theorem wr8 (x : Int) : 0 ≤ IntKind.wrap .u8 x ∧ IntKind.wrap .u8 x < 256 := has_u8 (wrap_has .u8 x)
theorem mut_loop {k : Int} {t : Tp} {b : List Int} (h : 0 ≤ k ∧ k ≤ 3 ∧ wf t = true ∧ bytesOk b ∧ (b.length : Int) + k ≤ 100) : ∃ e, Loop g5_s0 (k, t, b, ()) = some e ∧ bytesOk e.1 := by
  refine Loop_post (fun v : Int × Tp × List Int × Unit => 0 ≤ v.1 ∧ v.1 ≤ 3 ∧ wf v.2.1 = true ∧ bytesOk v.2.2.1 ∧ (v.2.2.1.length : Int) + v.1 ≤ 100) (fun v : Int × Tp × List Int × Unit => v.1.toNat) (fun e : List Int × Unit => bytesOk e.1) ?_ (v := (k, t, b, ())) h
  rintro ⟨k, t, b, ⟨⟩⟩ ⟨p1, p2, p3, p4, p5⟩
  simp only at p1 p2 p3 p4 p5
  unfold g5_s0
  by_cases hk : 0 < k
  rotate_left
  · left
    refine ⟨(b, ()), ?_, p4⟩
    simp only [gt_iff_lt, hk, decide_false, cond_false, Option.bind_some]
  by_cases hb : (0 : Int) < Int.ofNat b.length
  rotate_left
  · left
    refine ⟨(b, ()), ?_, p4⟩
    simp only [gt_iff_lt, hk, hb, decide_true, decide_false, cond_true, cond_false, Option.bind_some]
  right
  simp only [gt_iff_lt, hk, hb, decide_true, cond_true, Option.bind_some]
  rw [on_true p3]
  simp only [Option.bind_some]
  have w1 := next_wf (n := 4) p3
  generalize next t 4 = y2 at w1 ⊢
  have ek : IntKind.wrap .i64 (k - 1) = k - 1 := wi64 (by omega) (by omega)
  simp only [ek]
  have hb2 : 0 < b.length := by simp only [Int.ofNat_eq_natCast] at hb; omega
  have hbe : Int.ofNat b.length = (b.length : Int) := rfl
  have r3 := next_range (t := y2.2) (n := Int.ofNat b.length) (by omega)
  have w2 := next_wf (n := Int.ofNat b.length) w1
  have z10 : ((1 : Int) = 0) = False := eq_false (by decide)
  have z20 : ((2 : Int) = 0) = False := eq_false (by decide)
  have z21 : ((2 : Int) = 1) = False := eq_false (by decide)
  by_cases c0 : y2.1 = 0
  · simp only [c0, decide_true, cond_true]
    rw [on_true w1]
    simp only [Option.bind_some]
    generalize next y2.2 (Int.ofNat b.length) = y3 at r3 w2 ⊢
    have c1 : Nat.blt y3.1.toNat b.length = true := Nat.ble_eq_true_of_le (by omega)
    have r4 := next_range (t := y3.2) (n := 8) (by decide)
    have w3 := next_wf (n := 8) w2
    simp only [r3.1, r3.2, c1, decide_true, Bool.and_self, cond_true]
    rw [on_true w2]
    simp only [Option.bind_some]
    generalize next y3.2 8 = y4 at r4 w3 ⊢
    rw [wu64 r4.1 (by omega)]
    simp only [r4.1, decide_true, cond_true, Option.bind_some]
    exact ⟨_, rfl, ⟨by simp only; omega, by simp only; omega, w3, bytesOk_set p4 (wr8 _), by simp only [List.length_set]; omega⟩, by simp only; omega⟩
  by_cases c1 : y2.1 = 1
  · have e1 : IntKind.wrap .i64 (Int.ofNat b.length + 1) = Int.ofNat b.length + 1 := wi64 (by omega) (by omega)
    have r3 := next_range (t := y2.2) (n := Int.ofNat b.length + 1) (by omega)
    have w2 := next_wf (n := Int.ofNat b.length + 1) w1
    simp only [c1, z10, decide_true, decide_false, cond_true, cond_false, e1]
    rw [on_true w1]
    simp only [Option.bind_some]
    generalize next y2.2 (Int.ofNat b.length + 1) = y3 at r3 w2 ⊢
    have q : y3.1 ≤ Int.ofNat b.length := by omega
    simp only [r3.1, q, decide_true, Bool.and_self, cond_true, Option.bind_some]
    exact ⟨_, rfl, ⟨by simp only; omega, by simp only; omega, w2, fun x hx => p4 x (List.mem_of_mem_take hx), by simp only [List.length_take]; omega⟩, by simp only; omega⟩
  by_cases c2 : y2.1 = 2
  · have w2 := next_wf (n := 3) w1
    have c3 : Nat.ble ((b.length + 1) * 1) 140737488355328 = true := Nat.ble_eq_true_of_le (by omega)
    simp only [c2, z20, z21, decide_true, decide_false, cond_true, cond_false, c3]
    rw [on_true w1]
    simp only [Option.bind_some]
    refine ⟨_, rfl, ⟨by simp only; omega, by simp only; omega, w2, bytesOk_app p4 (bytesOk_one (wr8 _)), by simp only [List.length_append, List.length_cons, List.length_nil]; omega⟩, by simp only; omega⟩
  · simp only [c0, c1, c2, decide_false, cond_false]
    rw [on_true w1]
    simp only [Option.bind_some]
    generalize next y2.2 (Int.ofNat b.length) = y3 at r3 w2 ⊢
    have c3 : Nat.blt y3.1.toNat b.length = true := Nat.ble_eq_true_of_le (by omega)
    have w3 := next_wf (n := 256) w2
    rw [on_true w2]
    simp only [r3.1, r3.2, c3, decide_true, Bool.and_self, cond_true, Option.bind_some]
    exact ⟨_, rfl, ⟨by simp only; omega, by simp only; omega, w3, bytesOk_set p4 (wr8 _), by simp only [List.length_set]; omega⟩, by simp only; omega⟩

theorem dec_step (l : List (List Int)) (hl : l.length = 2) (hb : ∀ x ∈ l, bytesOk x) (i : Nat) (hi : i < l.length) : g5_s1 ((i : Int), l, ()) = some (.inl (((i + 1 : Nat) : Int), l, ())) := by
  have hx : bytesOk (l.getD i []) := hb _ (getD_mem hi)
  unfold g5_s1
  simp only [Int.ofNat_eq_natCast, Int.toNat_natCast, lbeq, Bool.and_self, Bool.not_true, Bool.not_false, cond_true, cond_false, eq_self, decide_true, Option.bind_some]
  rw [decide_eq_true (show (i : Int) < 2 by omega), decide_eq_true (show (i : Int) < (l.length : Int) by omega), decide_eq_true (show (0 : Int) ≤ (i : Int) by omega), show Nat.blt i l.length = true from Nat.ble_eq_true_of_le (by omega), wi64 (n := (i : Int) + 1) (by omega) (by omega)]
  simp only [Bool.and_self, cond_true]
  by_cases hd : (Sp03.decode (l.getD i [])).2.1 = 0
  · have he := enc_dec hx hd
    have e1 : (Sp03.encode (Sp03.decode (l.getD i [])).1).2.1 = 0 := by rw [he]
    have e2 : (Sp03.encode (Sp03.decode (l.getD i [])).1).1 = l.getD i [] := by rw [he]
    simp only [hd, e1, e2, decide_true, cond_true, cond_false, Bool.not_true, Bool.not_false, lbeq, Option.bind_some]
    rfl
  · simp only [hd, decide_false, cond_false, Option.bind_some]
    rfl
theorem dec_end (l : List (List Int)) (hl : l.length = 2) : g5_s1 ((l.length : Int), l, ()) = some (.inr (false, (false, ()), ())) := by
  unfold g5_s1
  rw [hl]
  rfl

theorem g5_ok (a0 : (List Int)) (a1 : (List Int)) (r0 : (Ty.sl (.int .i64)).ok a0) (r1 : (Ty.sl (.int .u8)).ok a1) : g5 a0 a1 = some (true, ()) := by
  have w0 := tape_wf a0
  obtain ⟨hv, hb, hy, w1⟩ := pkt_good w0
  obtain ⟨e1, e2, e3, e4, e5⟩ := enc_size hv
  have h1 := (dat r1).2
  unfold g5
  rw [on_true (show (wf (Sp03.tape a0) && small 0) = true by rw [w0]; rfl), packet_zero]
  simp only [Option.bind_some]
  have r3 := next_range (t := (pkt (Sp03.tape a0)).2) (n := 4) (by decide)
  have w2 := next_wf (n := 4) w1
  rw [on_true w1]
  simp only [Option.bind_some]
  obtain ⟨e, q1, q2⟩ := mut_loop (k := (next (pkt (Sp03.tape a0)).2 4).1) (t := (next (pkt (Sp03.tape a0)).2 4).2) (b := (Sp03.encode (pkt (Sp03.tape a0)).1).1) ⟨r3.1, by omega, w2, e4, by omega⟩
  rw [q1]
  simp only [Option.bind_some]
  rw [loop_up g5_s1 [e.1, a1] _ (dec_step _ rfl (fun x hx => by
    rcases List.mem_cons.1 hx with h | h
    · rw [h]; exact q2
    · rw [List.mem_singleton.1 h]; exact h1)) (dec_end _ rfl)]
  rfl
end Go.Abs.C03

/- Chapter 03: a law keeps its contract. -/
namespace Go.Abs.C03
open Go Go.Proofs
theorem ok5 : FunOk Try.prog B 5 c5 := glue L10 all10 plan5 Try.func5 (by kernel_rfl) (by
  rintro ⟨⟨⟩, a0, a1, ⟨⟩⟩ y r h
  exact (g5_eq a0 a1).trans ((g5_ok a0 a1 r.2.1 r.2.2.1).trans h))
end Go.Abs.C03

/- Chapter 03: the row of PacketDecodes. -/
namespace Go.Proofs.Yteepagijanepiaa
open Go.ChangeShapes Go.WideShapes Go.ChangeAt Go.RowKit Go.Abs Go.Abs.C03

set_option maxRecDepth 100000 in
theorem PacketDecodes_lifted (os : Os) (started : os.Started) (H : Type) (enc : TypeId × Value → H) :
    ReturnsInHanded {} Try.checked os 5 .any (fun w args => (Rows.packetDecodesSpec.pre enc Try.prog Try.f5 Rows.packetDecodesRow.domain false w args ∧ True) ∧ sizedMet enc Try.prog Try.f5 (OpenSpec.ofChange Rows.packetDecodesSpec) false w args)
      (Rows.packetDecodesSpec.post enc Try.prog Try.f5 false true false false) := by
  refine returnsInHanded_of_change_and (C := Try.checked) (X := fun _ _ => True) (fun _ _ _ _ _ => trivial) Try.own started (by kernel_rfl) Try.func5
    (ChangeSpec.witness_at (enc := enc) (C := Try.checked) (os := os) (X := fun _ _ => True) false (laidWorld os) #[.slice none 0 0, .slice none 0 0] 8 rfl (by kernel_rfl) (by kernel_rfl) (by kernel_rfl) (by kernel_rfl) (by kernel_rfl) trivial) ?_
  intro W base args ds gs before hval hW _ hwt hL _
  exact law_row 8 [.sl (.int .i64), .sl (.int .u8)] ok5 rfl Try.laidOut (by kernel_rfl) (by kernel_rfl) rfl (by kernel_rfl) (tb := 4) (by kernel_rfl)
    (fun ds hd => by
      match ds, hd with
      | [d1, d2], _ => rfl) glob_ok hval hW hwt

theorem PacketDecodes_holds : Rows.PacketDecodesSaid :=
  OpenClaim.holds_of_wide 5 Try.f5 rfl rfl rfl rfl rfl rfl rfl ⟨rfl, rfl, rfl, rfl, rfl⟩ rfl rfl rfl rfl rfl (by kernel_rfl) Try.func5 (by kernel_rfl)
    (of_decide_eq_true (by kernel_rfl)) (by unfold Func.isWrapper; first | (rw [if_pos (by decide +kernel)]; kernel_rfl) | (rw [if_neg (by decide +kernel)]; exact ⟨rfl, rfl⟩))
    (fun os started H enc _ => by
      show ReturnsInHanded {} Try.checked os 5 .any (fun w args => Rows.packetDecodesSpec.pre enc Try.prog Try.f5 Rows.packetDecodesRow.domain false w args ∧ sizedMet enc Try.prog Try.f5 (OpenSpec.ofChange Rows.packetDecodesSpec) false w args) (Rows.packetDecodesSpec.post enc Try.prog Try.f5 false true false false)
      have h := PacketDecodes_lifted os started H enc
      simp only [and_true] at h
      exact h)
end Go.Proofs.Yteepagijanepiaa
