/- Proved is the statement of the law PacketCopies: for every input the law returns true, and each argument reads as it did. -/
import Derived.Test.YteepagijanepiaaRunQ
set_option linter.unusedVariables false
set_option linter.unusedSimpArgs false
/- Chapter 03: the laws: copies. -/
namespace Go.Abs.C03
open Go Go.Proofs Sp03
set_option maxRecDepth 100000

theorem g8_step (y : Pk × Tp) (l : List Int) (hl : l.length ≤ 10) (i : Nat) (hi : i < l.length) : g8_s0 y ((i : Int), l, ()) = some (.inl (((i + 1 : Nat) : Int), l, ())) := by
  unfold g8_s0
  simp only [Int.ofNat_eq_natCast, Int.toNat_natCast, lbeq, Bool.and_self, Bool.not_true, Bool.not_false, cond_true, cond_false, eq_self, decide_true, Option.bind_some]
  rw [decide_eq_true (show (i : Int) < (l.length : Int) by omega), decide_eq_true (show (0 : Int) ≤ (i : Int) by omega), show Nat.blt i l.length = true from Nat.ble_eq_true_of_le (by omega), wi64 (n := (i : Int) + 1) (by omega) (by omega)]
  rfl
theorem g8_end (y : Pk × Tp) (l : List Int) : g8_s0 y ((l.length : Int), l, ()) = some (.inr (false, (false, ()), ())) := by
  unfold g8_s0
  simp only [Int.ofNat_eq_natCast]
  rw [decide_eq_false (show ¬ (l.length : Int) < (l.length : Int) by omega)]
  rfl
theorem masked_bt (p : Pk) (m : Int) : (masked p m).1.2.2.2.2.2.2.2.2.1 = and (bt p) m ∨ (masked p m).1.2.2.2.2.2.2.2.2.1 = 0 := by
  unfold masked
  cases (validP p && !decide (tl p = 0) && !decide (and (bt p) m = 0)) with
  | true => left; rfl
  | false => right; rfl
theorem and_U (x : Int) {m : Int} (h : U m) : U (and x m) := by
  have h1 : Nat.land x.toNat m.toNat ≤ m.toNat := Nat.and_le_right
  have := h.1
  have := h.2
  unfold Sp03.and
  exact ⟨by omega, by omega⟩
theorem andnot_bit {a b : Int} (ha : U a) (hb : U b) : ∃ m : Nat, IntKind.wrap .u64 (Int.ofNat (BitVec.and (BitVec.ofInt 64 b) (BitVec.not (BitVec.ofInt 64 a))).toNat) = (m : Int) ∧ m < 2 ^ 64 ∧ ∀ i, m.testBit i = true → a.toNat.testBit i = false := by
  refine ⟨(BitVec.and (BitVec.ofInt 64 b) (BitVec.not (BitVec.ofInt 64 a))).toNat, ?_, ?_, ?_⟩
  · have := (BitVec.and (BitVec.ofInt 64 b) (BitVec.not (BitVec.ofInt 64 a))).isLt
    exact wu64 (by simp only [Int.ofNat_eq_natCast]; omega) (by simp only [Int.ofNat_eq_natCast]; omega)
  · exact (BitVec.and (BitVec.ofInt 64 b) (BitVec.not (BitVec.ofInt 64 a))).isLt
  · intro i hi
    have h1 : ((BitVec.ofInt 64 b) &&& ~~~(BitVec.ofInt 64 a)).getLsbD i = true := hi
    rw [BitVec.getLsbD_and, BitVec.getLsbD_not] at h1
    simp only [Bool.and_eq_true, decide_eq_true_eq, Bool.not_eq_true'] at h1
    have h2 := h1.2.2
    have e : (BitVec.ofInt 64 a).toNat = a.toNat := by
      rw [BitVec.toNat_ofInt]
      have := ha.1
      have := ha.2
      rw [Int.emod_eq_of_lt (by omega) (by simp; omega)]
    unfold BitVec.getLsbD at h2
    rwa [e] at h2
theorem apart (x : Int) {a m : Int} (ha : U a) (hm : U m) (h : ∀ i, m.toNat.testBit i = true → a.toNat.testBit i = false) {u v : Int} (hu : u = and x a ∨ u = 0) (hv : v = and x m ∨ v = 0) :
    IntKind.wrap .u64 (Int.ofNat (BitVec.and (BitVec.ofInt 64 u) (BitVec.ofInt 64 v)).toNat) = 0 := by
  have zu : U (0 : Int) := ⟨by omega, by omega⟩
  have hU : U u := by rcases hu with h | h <;> rw [h]; exact and_U x ha; exact zu
  have hV : U v := by rcases hv with h | h <;> rw [h]; exact and_U x hm; exact zu
  rw [band hU hV]
  have : u.toNat &&& v.toNat = 0 := by
    rcases hu with hu | hu
    · rcases hv with hv | hv
      · rw [hu, hv]
        unfold Sp03.and
        refine Nat.eq_of_testBit_eq fun i => ?_
        show ((x.toNat &&& a.toNat) &&& (x.toNat &&& m.toNat)).testBit i = _
        rw [Nat.testBit_and, Nat.testBit_and, Nat.testBit_and, Nat.zero_testBit]
        cases hm : m.toNat.testBit i with
        | false => simp
        | true => rw [h i hm]; simp
      · rw [hv]; simp
    · rw [hu]; simp
  rw [this]
  rfl

theorem g8_ok (a0 : (List Int)) (a1 : Int) (a2 : Int) (a3 : Int) (r0 : (Ty.sl (.int .i64)).ok a0) (r1 : IntKind.u64.has a1) (r2 : IntKind.u64.has a2) (r3 : IntKind.i64.has a3) : g8 a0 a1 a2 a3 = some (true, ()) := by
  have w0 := tape_wf a0
  have w1 := packet_wf (n := 6) w0
  have u1 : U a1 := has_u64 r1
  have u2 : U a2 := has_u64 r2
  unfold g8
  rw [on_true (show (wf (Sp03.tape a0) && small 6) = true by rw [w0]; rfl)]
  simp only [Option.bind_some]
  rw [on_true (show (wf (packet (Sp03.tape a0) 6).2 && small (-1) && small 65) = true by rw [w1]; rfl)]
  simp only [Option.bind_some]
  generalize packet (Sp03.tape a0) 6 = y4 at w1 ⊢
  rw [loop_up (g8_s0 y4) _ _ (g8_step y4 _ (by simp)) (g8_end y4 _)]
  obtain ⟨m, m1, m2, m3⟩ := andnot_bit u1 u2
  have hm : U (m : Int) := ⟨by omega, by omega⟩
  simp only [Option.bind_some, cond_false, eq_self, decide_true, lbeq, Bool.and_self, cond_true]
  rw [m1]
  rw [apart (bt y4.1) u1 hm (by simpa using m3) (masked_bt y4.1 a1) (masked_bt y4.1 (m : Int))]
  rfl
end Go.Abs.C03

/- Chapter 03: a law keeps its contract. -/
namespace Go.Abs.C03
open Go Go.Proofs
theorem ok8 : FunOk Try.prog B 8 c8 := glue L10 all10 plan8 Try.func8 (by kernel_rfl) (by
  rintro ⟨⟨⟩, a0, a1, a2, a3, ⟨⟩⟩ y r h
  exact (g8_eq a0 a1 a2 a3).trans ((g8_ok a0 a1 a2 a3 r.2.1 r.2.2.1 r.2.2.2.1 r.2.2.2.2.1).trans h))
end Go.Abs.C03

/- Chapter 03: the row of PacketCopies. -/
namespace Go.Proofs.Yteepagijanepiaa
open Go.ChangeShapes Go.WideShapes Go.ChangeAt Go.RowKit Go.Abs Go.Abs.C03

set_option maxRecDepth 100000 in
theorem PacketCopies_lifted (os : Os) (started : os.Started) (H : Type) (enc : TypeId × Value → H) :
    ReturnsInHanded {} Try.checked os 8 .any (fun w args => (Rows.packetCopiesSpec.pre enc Try.prog Try.f8 Rows.packetCopiesRow.domain false w args ∧ True) ∧ sizedMet enc Try.prog Try.f8 (OpenSpec.ofChange Rows.packetCopiesSpec) false w args)
      (Rows.packetCopiesSpec.post enc Try.prog Try.f8 false true false false) := by
  refine returnsInHanded_of_change_and (C := Try.checked) (X := fun _ _ => True) (fun _ _ _ _ _ => trivial) Try.own started (by kernel_rfl) Try.func8
    (ChangeSpec.witness_at (enc := enc) (C := Try.checked) (os := os) (X := fun _ _ => True) false (laidWorld os) #[.slice none 0 0, .int .u64 0, .int .u64 0, .int .i64 0] 8 rfl (by kernel_rfl) (by kernel_rfl) (by kernel_rfl) (by kernel_rfl) (by kernel_rfl) trivial) ?_
  intro W base args ds gs before hval hW _ hwt hL _
  exact law_row 8 [.sl (.int .i64), .int .u64, .int .u64, .int .i64] ok8 rfl Try.laidOut (by kernel_rfl) (by kernel_rfl) rfl (by kernel_rfl) (tb := 4) (by kernel_rfl)
    (fun ds hd => by
      match ds, hd with
      | [d1, d2, d3, d4], _ => rfl) glob_ok hval hW hwt

theorem PacketCopies_holds : Rows.PacketCopiesSaid :=
  OpenClaim.holds_of_wide 8 Try.f8 rfl rfl rfl rfl rfl rfl rfl ⟨rfl, rfl, rfl, rfl, rfl⟩ rfl rfl rfl rfl rfl (by kernel_rfl) Try.func8 (by kernel_rfl)
    (of_decide_eq_true (by kernel_rfl)) (by unfold Func.isWrapper; first | (rw [if_pos (by decide +kernel)]; kernel_rfl) | (rw [if_neg (by decide +kernel)]; exact ⟨rfl, rfl⟩))
    (fun os started H enc _ => by
      show ReturnsInHanded {} Try.checked os 8 .any (fun w args => Rows.packetCopiesSpec.pre enc Try.prog Try.f8 Rows.packetCopiesRow.domain false w args ∧ sizedMet enc Try.prog Try.f8 (OpenSpec.ofChange Rows.packetCopiesSpec) false w args) (Rows.packetCopiesSpec.post enc Try.prog Try.f8 false true false false)
      have h := PacketCopies_lifted os started H enc
      simp only [and_true] at h
      exact h)
end Go.Proofs.Yteepagijanepiaa
