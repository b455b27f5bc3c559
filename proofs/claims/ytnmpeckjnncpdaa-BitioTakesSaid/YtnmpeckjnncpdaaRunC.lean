/- Chapter 02: proved is that the laws keep the contract true for every input; no conditions but those that each theorem states. -/
import Derived.Test.YtnmpeckjnncpdaaRunB
set_option linter.unusedVariables false
set_option linter.unusedSimpArgs false
/- Chapter 02: the laws BitioTakes, BitioJoins, BitioLong, BitioBack. -/
namespace Go.Abs.C02
open Go Go.Proofs Sp02

theorem Loop_post {τ ε : Type} {step : τ → Option (Sum τ ε)} (I : τ → Prop) (m : τ → Nat) (Q : ε → Prop)
    (h : ∀ v, I v → (∃ e, step v = some (.inr e) ∧ Q e) ∨ ∃ v', step v = some (.inl v') ∧ I v' ∧ m v' < m v) {v : τ} (hv : I v) : ∃ e, Loop step v = some e ∧ Q e := by
  have key : ∀ n v, I v → m v ≤ n → ∃ k e, itN step k v = some e ∧ Q e := by
    intro n
    induction n with
    | zero =>
      intro v hv hm
      rcases h v hv with ⟨e, h1, h2⟩ | ⟨v', h1, _, h3⟩
      · exact ⟨1, e, by simp [itN, h1], h2⟩
      · omega
    | succ n ih =>
      intro v hv hm
      rcases h v hv with ⟨e, h1, h2⟩ | ⟨v', h1, h2, h3⟩
      · exact ⟨1, e, by simp [itN, h1], h2⟩
      · obtain ⟨k, e, h4, h5⟩ := ih v' h2 (by omega)
        exact ⟨k + 1, e, by simp [itN, h1, h4], h5⟩
  obtain ⟨k, e, h1, h2⟩ := key _ v hv (Nat.le_refl _)
  exact ⟨e, Loop_of h1, h2⟩

theorem takes_loop (a1 a2 : Int) (y : S × Tp) (y4 y5 y6 y7 : Int × Tp) : Loop (g10_s0 a1 a2 y y4 y5 y6 y7) ((0 : Int), ()) = some (false, (false, ()), ()) := by
  refine Loop_inv (fun v : Int × Unit => 0 ≤ v.1 ∧ v.1 ≤ 3) (fun v : Int × Unit => (3 - v.1).toNat) (fun _ => (false, (false, ()), ())) ?_ (v := (0, ())) ⟨by simp, by simp⟩
  rintro ⟨i, ⟨⟩⟩ ⟨k1, k2⟩
  simp only at k1 k2
  unfold g10_s0
  by_cases h : i < 3
  · right
    have e1 : IntKind.wrap .i64 (i + 1) = i + 1 := wi64 (by omega) (by omega)
    have b0 : Nat.blt (i.toNat * 2 + 0) 6 = true := blt_t (by omega)
    have b1 : Nat.blt (i.toNat * 2 + 1) 6 = true := blt_t (by omega)
    have hl : (a1 :: a2 :: y4.1 :: y5.1 :: y6.1 :: y7.1 :: []).length = 6 := rfl
    simp only [h, k1, decide_true, cond_true, cond_false, Bool.and_self, hl, b0, b1, same_self, Bool.not_true, Bool.not_false, Option.bind_some, e1]
    exact ⟨_, rfl, ⟨by simp only; omega, by simp only; omega⟩, by simp only; omega, trivial⟩
  · left
    simp only [h, decide_false, cond_false]

theorem g10_ok (a0 : (List Int)) (a1 : Int) (a2 : Int) (r0 : (Ty.sl (.int .i64)).ok a0) (r1 : IntKind.i64.has a1) (r2 : IntKind.i64.has a2) : g10 a0 a1 a2 = some (true, ()) := by
  unfold g10
  rw [stream_on a0 90 6 (by omega) (by omega) rfl]
  have w1 := stream_wf (m := 90) (n := 6) (tape_wf a0)
  have w2 := range_wf (a := -1) (b := 95) w1
  have w3 := range_wf (a := -1) (b := 66) w2
  have w4 := next_wf (n := 40) w3
  have s1 : small (-1) = true := rfl
  have s2 : small 95 = true := rfl
  have s3 : small 66 = true := rfl
  simp only [Option.bind_some, w1, w2, w3, w4, s1, s2, s3, Bool.and_self, on_true, takes_loop, cond_false]

theorem join_ok {a b : S} (h : (join a b).2.1 = 0) : valid a = true ∧ valid b = true ∧ a.2.1 + b.2.1 ≤ 8192 ∧ (join a b).1 = Sp02.enc (Sp02.bits a ++ Sp02.bits b) := by
  unfold join at h ⊢
  cases ha : valid a with
  | false => rw [ha] at h; simp at h
  | true => cases hb : valid b with
    | false => rw [ha, hb] at h; simp at h
    | true =>
      rw [ha, hb] at h
      by_cases hs : 8192 < a.2.1 + b.2.1
      · simp [hs] at h
      · simp [hs]; omega
theorem join_assoc {a b c : S} (h1 : (join a b).2.1 = 0) (h2 : (join b c).2.1 = 0) : join (join a b).1 c = join a (join b c).1 := by
  obtain ⟨p1, p2, p3, p4⟩ := join_ok h1
  obtain ⟨q1, q2, q3, q4⟩ := join_ok h2
  obtain ⟨va, _⟩ := valid_iff.1 p1
  obtain ⟨vb, _⟩ := valid_iff.1 p2
  obtain ⟨vc, _⟩ := valid_iff.1 q2
  rw [p4, q4]
  have l1 : (Sp02.bits a ++ Sp02.bits b).length = a.2.1.toNat + b.2.1.toNat := by simp [bits_length]
  have l2 : (Sp02.bits b ++ Sp02.bits c).length = b.2.1.toNat + c.2.1.toNat := by simp [bits_length]
  unfold join
  rw [valid_enc (by omega), valid_enc (by omega), p1, q2, bits_enc, bits_enc]
  have e1 : (Sp02.enc (Sp02.bits a ++ Sp02.bits b)).2.1 + c.2.1 = a.2.1 + b.2.1 + c.2.1 := by
    show ((Sp02.bits a ++ Sp02.bits b).length : Int) + c.2.1 = _
    rw [l1]; omega
  have e2 : a.2.1 + (Sp02.enc (Sp02.bits b ++ Sp02.bits c)).2.1 = a.2.1 + b.2.1 + c.2.1 := by
    show a.2.1 + ((Sp02.bits b ++ Sp02.bits c).length : Int) = _
    rw [l2]; omega
  rw [e1, e2, List.append_assoc]

theorem g9_ok (a0 : (List Int)) (r0 : (Ty.sl (.int .i64)).ok a0) : g9 a0 = some (true, ()) := by
  unfold g9
  rw [stream_on a0 30 6 (by omega) (by omega) rfl]
  have w1 := stream_wf (m := 30) (n := 6) (tape_wf a0)
  have w2 := stream_wf (m := 30) (n := 6) w1
  have s6 : small 6 = true := rfl
  have d1 : decide ((0 : Int) ≤ 30) = true := rfl
  have d2 : decide ((30 : Int) ≤ 1000) = true := rfl
  simp only [Option.bind_some, w1, w2, s6, d1, d2, Bool.and_self, on_true, same_self, decide_true, Bool.not_true, Bool.not_false, cond_true, cond_false]
  generalize (stream (Sp02.tape a0) 30 6).1 = a
  generalize (stream (stream (Sp02.tape a0) 30 6).2 30 6).1 = b
  generalize (stream (stream (stream (Sp02.tape a0) 30 6).2 30 6).2 30 6).1 = c
  by_cases h1 : (join a b).2.1 = 0
  · by_cases h2 : (join b c).2.1 = 0
    · simp only [h1, h2, join_assoc h1 h2, same_self, decide_true, Bool.not_true, Bool.not_false, cond_true, Option.bind_some]
    · simp only [h1, h2, decide_true, decide_false, Bool.not_true, Bool.not_false, cond_true, cond_false, Option.bind_some]
  · simp only [h1, decide_false, Bool.not_true, Bool.not_false, cond_false, Option.bind_some]

theorem zero_bits (n i : Nat) : bitAt (List.replicate n 0) i = false := by
  unfold bitAt
  have : (List.replicate n (0 : Int)).getD (i / 8) 0 = 0 := by
    rw [List.getD_eq_getElem?_getD, List.getElem?_replicate]
    split <;> rfl
  rw [this, bitOf_zero]
theorem valid_zero {n : Nat} {b : Int} (h1 : 0 ≤ b) (h2 : b ≤ 8192) (h3 : (n : Int) = (b + 7) / 8) : valid (List.replicate n 0, b, ()) = true :=
  valid_iff.2 ⟨h1, h2, by simp only [List.length_replicate]; exact h3, fun i _ => zero_bits n i⟩

theorem g8_ok (a0 : Int) (a1 : Int) (r0 : IntKind.u8.has a0) (r1 : IntKind.u64.has a1) : g8 a0 a1 = some (true, ()) := by
  have hu := has_u8 r0
  have hv := has_u64 r1
  unfold g8
  have e1 : Int.tmod a0 9 = a0 % 9 := tmod_nn hu.1
  have e2 : IntKind.wrap .i64 (a0 % 9) = a0 % 9 := wi64 (by omega) (by omega)
  have e3 : IntKind.wrap .i64 (8192 - a0 % 9) = 8192 - a0 % 9 := wi64 (by omega) (by omega)
  have e4 : IntKind.wrap .i64 (8192 - a0 % 9 + 7) = 8192 - a0 % 9 + 7 := wi64 (by omega) (by omega)
  have e5 : Int.tdiv (8192 - a0 % 9 + 7) 8 = (8192 - a0 % 9 + 7) / 8 := tdiv_nn (by omega)
  have e6 : IntKind.wrap .i64 ((8192 - a0 % 9 + 7) / 8) = (8192 - a0 % 9 + 7) / 8 := wi64 (by omega) (by omega)
  have e7 : Int.tdiv a0 9 = a0 / 9 := tdiv_nn hu.1
  have e8 : IntKind.wrap .u8 (a0 / 9) = a0 / 9 := wu8 (by omega) (by omega)
  have e9 : IntKind.wrap .i64 (a0 / 9) = a0 / 9 := wi64 (by omega) (by omega)
  have e10 : Int.tmod (a0 / 9) 10 = a0 / 9 % 10 := tmod_nn (by omega)
  have e11 : IntKind.wrap .i64 (a0 / 9 % 10 + 1) = a0 / 9 % 10 + 1 := wi64 (by omega) (by omega)
  have e12 : Int.tmod a1 2 = a1 % 2 := tmod_nn hv.1
  have e13 : IntKind.wrap .i64 (8192 - a0 % 9 + a0 / 9 % 10) = 8192 - a0 % 9 + a0 / 9 % 10 := wi64 (by omega) (by omega)
  have e14 : IntKind.wrap .i64 (8192 - a0 % 9 + a0 / 9 % 10 + 1) = 8192 - a0 % 9 + a0 / 9 % 10 + 1 := wi64 (by omega) (by omega)
  have e15 : IntKind.wrap .i64 (a0 / 9 % 10 + 7) = a0 / 9 % 10 + 7 := wi64 (by omega) (by omega)
  have e16 : Int.tdiv (a0 / 9 % 10 + 7) 8 = (a0 / 9 % 10 + 7) / 8 := tdiv_nn (by omega)
  have e17 : IntKind.wrap .i64 ((a0 / 9 % 10 + 7) / 8) = (a0 / 9 % 10 + 7) / 8 := wi64 (by omega) (by omega)
  simp only [e1, e2, e3, e4, e5, e6, e7, e8, e9, e10, e11, e12, e13, e14, e15, e16, e17, List.drop_zero]
  generalize hm : a0 % 9 = m
  generalize hk : a0 / 9 % 10 = k
  have m1 : 0 ≤ m ∧ m < 9 := by omega
  have k1 : 0 ≤ k ∧ k < 10 := by omega
  have t1 : List.take ((8192 - m + 7) / 8).toNat (List.replicate 1024 (0 : Int)) = List.replicate ((8192 - m + 7) / 8).toNat 0 := by
    rw [List.take_replicate]; congr 1; omega
  have t2 : List.take ((k + 7) / 8).toNat ((0 : Int) :: 0 :: []) = List.replicate ((k + 7) / 8).toNat 0 := by
    have : ((0 : Int) :: 0 :: []) = List.replicate 2 0 := rfl
    rw [this, List.take_replicate]; congr 1; omega
  have va : valid (List.replicate ((8192 - m + 7) / 8).toNat 0, 8192 - m, ()) = true := valid_zero (by omega) (by omega) (by omega)
  have vz : valid (List.replicate ((k + 7) / 8).toNat 0, k, ()) = true := valid_zero (by omega) (by omega) (by omega)
  have c1 : (0 : Int) ≤ (8192 - m + 7) / 8 := by omega
  have c2 : (8192 - m + 7) / 8 ≤ (1024 : Int) := by omega
  have c3 : (0 : Int) ≤ (k + 7) / 8 := by omega
  have c4 : (k + 7) / 8 ≤ (2 : Int) := by omega
  have hap : Sp02.append (List.replicate ((8192 - m + 7) / 8).toNat 0, 8192 - m, ()) (a1 % 2) (k + 1) =
      bif decide (m < k + 1) then (zs, 3, ()) else (Sp02.enc (Sp02.bits (List.replicate ((8192 - m + 7) / 8).toNat 0, 8192 - m, ()) ++ vbits (a1 % 2).toNat (k + 1).toNat), 0, ()) := by
    unfold Sp02.append
    have d1 : ¬ k + 1 < 0 := by omega
    have d2 : ¬ 64 < k + 1 := by omega
    have d3 : a1 % 2 / 2 ^ (k + 1).toNat = 0 := by
      have p : (2 : Int) ≤ 2 ^ (k + 1).toNat := by
        have : (2 : Nat) ^ 1 ≤ 2 ^ (k + 1).toNat := Nat.pow_le_pow_right (by omega) (by omega)
        rw [pow_cast]; omega
      exact Int.ediv_eq_zero_of_lt (by omega) (by omega)
    have d4 : decide (8192 < 8192 - m + (k + 1)) = decide (m < k + 1) := by congr 1; apply propext; omega
    simp only [va, d1, d2, d3, d4, Bool.not_true, decide_true, decide_false, Bool.or_self, Bool.and_false, cond_false]
  have hjn : (join (List.replicate ((8192 - m + 7) / 8).toNat 0, 8192 - m, ()) (List.replicate ((k + 7) / 8).toNat 0, k, ())).2.1 = bif decide (m < k) then 3 else 0 := by
    unfold join
    have d4 : decide (8192 < 8192 - m + k) = decide (m < k) := by congr 1; apply propext; omega
    simp only [va, vz, d4, Bool.and_self, Bool.not_true, cond_false]
    cases decide (m < k) <;> rfl
  have hlen : m ≥ k + 1 → (Sp02.enc (Sp02.bits (List.replicate ((8192 - m + 7) / 8).toNat 0, 8192 - m, ()) ++ vbits (a1 % 2).toNat (k + 1).toNat)).2.1 = 8192 - m + k + 1 := by
    intro _
    show ((Sp02.bits (List.replicate ((8192 - m + 7) / 8).toNat 0, 8192 - m, ()) ++ vbits (a1 % 2).toNat (k + 1).toNat).length : Int) = _
    rw [List.length_append, bits_length, vbits_length]; simp only; omega
  simp only [t1, t2, c1, c2, c3, c4, hap, hjn, decide_true, Bool.and_self, cond_true]
  by_cases h1 : m < k + 1
  · have h2 : ¬ m ≥ k + 1 := by omega
    by_cases h3 : m < k
    · have h4 : ¬ m ≥ k := by omega
      simp [h1, h2, h3, h4]
    · have h4 : m ≥ k := by omega
      simp [h1, h2, h3, h4]
  · have h2 : m ≥ k + 1 := by omega
    have h3 : ¬ m < k := by omega
    have h4 : m ≥ k := by omega
    simp [h1, h2, h3, h4, hlen h2]
end Go.Abs.C02

/- Chapter 02: the law BitioBack. -/
namespace Go.Abs.C02
open Go Go.Proofs Sp02

/-- Fields and their widths, one behind the other. -/
def cat : List Int → List Int → List Bool
  | v :: vs, w :: ws => vbits v.toNat w.toNat ++ cat vs ws
  | _, _ => []
theorem cat_snoc : ∀ (vs ws : List Int) (v w : Int), vs.length = ws.length → cat (vs ++ [v]) (ws ++ [w]) = cat vs ws ++ vbits v.toNat w.toNat
  | [], [], v, w, _ => by simp [cat]
  | [], _ :: _, _, _, h => by simp at h
  | _ :: _, [], _, _, h => by simp at h
  | a :: vs, b :: ws, v, w, h => by
    simp only [List.cons_append, cat, cat_snoc vs ws v w (by simpa using h), List.append_assoc]
/-- Fields that are of their widths. -/
def fits : List Int → List Int → Prop
  | [], [] => True
  | v :: vs, w :: ws => (0 ≤ w ∧ w ≤ 64 ∧ 0 ≤ v ∧ v < 2 ^ w.toNat) ∧ fits vs ws
  | _, _ => False
theorem fits_len : ∀ {vs ws : List Int}, fits vs ws → vs.length = ws.length
  | [], [], _ => rfl
  | [], _ :: _, h => h.elim
  | _ :: _, [], h => h.elim
  | _ :: vs, _ :: ws, h => by simp [fits_len h.2]
theorem fits_snoc : ∀ {vs ws : List Int} {v w : Int}, fits vs ws → (0 ≤ w ∧ w ≤ 64 ∧ 0 ≤ v ∧ v < 2 ^ w.toNat) → fits (vs ++ [v]) (ws ++ [w])
  | [], [], _, _, _, h => ⟨h, trivial⟩
  | [], _ :: _, _, _, h, _ => h.elim
  | _ :: _, [], _, _, h, _ => h.elim
  | _ :: vs, _ :: ws, _, _, h, h2 => ⟨h.1, fits_snoc h.2 h2⟩
theorem fits_at : ∀ {vs ws : List Int} {i : Nat}, fits vs ws → i < ws.length → (0 ≤ ws.getD i 0 ∧ ws.getD i 0 ≤ 64 ∧ 0 ≤ vs.getD i 0 ∧ vs.getD i 0 < 2 ^ (ws.getD i 0).toNat) ∧
    ∃ rest, cat vs ws = cat (vs.take i) (ws.take i) ++ (vbits (vs.getD i 0).toNat (ws.getD i 0).toNat ++ rest)
  | [], [], i, _, h => by simp at h
  | [], _ :: _, _, h, _ => h.elim
  | _ :: _, [], _, h, _ => h.elim
  | v :: vs, w :: ws, 0, h, _ => ⟨h.1, cat vs ws, by simp [cat]⟩
  | v :: vs, w :: ws, i + 1, h, hi => by
    obtain ⟨h1, rest, h2⟩ := fits_at (i := i) h.2 (by simpa using hi)
    refine ⟨h1, rest, ?_⟩
    simp only [List.take_succ_cons, cat, List.append_assoc]
    rw [h2]
    rfl
theorem cat_len : ∀ {vs ws : List Int}, fits vs ws → (cat vs ws).length ≤ 64 * ws.length
  | [], [], _ => by simp [cat]
  | [], _ :: _, h => h.elim
  | _ :: _, [], h => h.elim
  | v :: vs, w :: ws, h => by
    have := cat_len h.2
    have h1 := h.1.2.1
    simp only [cat, List.length_append, vbits_length, List.length_cons]
    omega
theorem cat_take_succ {vs ws : List Int} {i : Nat} (h : fits vs ws) (hi : i < ws.length) : cat (vs.take (i + 1)) (ws.take (i + 1)) = cat (vs.take i) (ws.take i) ++ vbits (vs.getD i 0).toNat (ws.getD i 0).toNat := by
  have hl := fits_len h
  have e1 : vs.take (i + 1) = vs.take i ++ [vs.getD i 0] := by
    rw [List.take_add_one, List.getD_eq_getElem?_getD, List.getElem?_eq_getElem (by omega : i < vs.length)]; rfl
  have e2 : ws.take (i + 1) = ws.take i ++ [ws.getD i 0] := by
    rw [List.take_add_one, List.getD_eq_getElem?_getD, List.getElem?_eq_getElem hi]; rfl
  rw [e1, e2, cat_snoc _ _ _ _ (by simp; omega)]

theorem append_good {bs : List Bool} {v w : Int} (h1 : bs.length ≤ 8000) (hw : 0 ≤ w ∧ w ≤ 64 ∧ 0 ≤ v ∧ v < 2 ^ w.toNat) : Sp02.append (Sp02.enc bs) v w = (Sp02.enc (bs ++ vbits v.toNat w.toNat), 0, ()) := by
  unfold Sp02.append
  have d1 : ¬ w < 0 := by omega
  have d2 : ¬ 64 < w := by omega
  have d3 : v / 2 ^ w.toNat = 0 := Int.ediv_eq_zero_of_lt hw.2.2.1 hw.2.2.2
  have d4 : ¬ 8192 < (Sp02.enc bs).2.1 + w := by
    have : (Sp02.enc bs).2.1 = (bs.length : Int) := rfl
    omega
  simp only [valid_enc (show bs.length ≤ 8192 by omega), d1, d2, d3, d4, bits_enc, Bool.not_true, decide_true, decide_false, Bool.or_self, Bool.and_false, cond_false]
theorem bitsR_pack {bs pre mid post : List Bool} (h : bs = pre ++ (mid ++ post)) : bitsR (pack bs) pre.length mid.length = mid := by
  refine bools_ext (bitsR_length _ _ _) fun i hi => ?_
  rw [bitsR_length] at hi
  rw [bitsR_getD, if_pos hi, bitAt_pack, h, getD_append, if_neg (by omega), show pre.length + i - pre.length = i by omega, getD_append, if_pos hi]

theorem enc_nil : Sp02.enc [] = ([], 0, ()) := by unfold Sp02.enc pack; simp
theorem u64_range (x : Int) : 0 ≤ IntKind.wrap .u64 x ∧ IntKind.wrap .u64 x < 18446744073709551616 := by rw [wu64m]; omega
theorem mask_val {p0 w : Int} (h1 : 0 ≤ p0) (h2 : p0 < 18446744073709551616) (hw : 0 ≤ w) (hw2 : w < 64) :
    IntKind.wrap .u64 ((BitVec.and (BitVec.ofInt 64 p0) (BitVec.ofInt 64 (IntKind.wrap .u64 ((bif decide (w < 0) || decide (63 < w) then (0 : Int) else Int.pow 2 w.toNat) - 1)))).toNat : Int) = ((p0.toNat % 2 ^ w.toNat : Nat) : Int) := by
  have d1 : ¬ w < 0 := by omega
  have d2 : ¬ 63 < w := by omega
  have p1 := pow2_pos w.toNat
  have p2 : (2 : Int) ^ w.toNat ≤ 9223372036854775808 := by
    have : (2 : Nat) ^ w.toNat ≤ 2 ^ 63 := Nat.pow_le_pow_right (by omega) (by omega)
    rw [pow_cast]; omega
  simp only [d1, d2, decide_false, Bool.or_self, cond_false, pow2]
  rw [wu64 (n := 2 ^ w.toNat - 1) (by omega) (by omega), bvand h1 (by omega) (by omega) (by omega)]
  have : ((2 : Int) ^ w.toNat - 1).toNat = 2 ^ w.toNat - 1 := by rw [pow_cast]; omega
  rw [this, Nat.and_two_pow_sub_one_eq_mod]
  have hlt : p0.toNat % 2 ^ w.toNat < 2 ^ w.toNat := Nat.mod_lt _ (Nat.two_pow_pos _)
  have : (2 : Int) ^ w.toNat = ((2 ^ w.toNat : Nat) : Int) := pow_cast _
  exact wu64 (by omega) (by omega)

theorem back_loop1 (n : Int) (t : Tp) (h0 : 0 ≤ n) (hn : n ≤ 7) (hw : wf t = true) :
    ∃ e, Loop g7_s0 (n, [], [], ([], (0 : Int), ()), t, ()) = some e ∧ (∃ vs ws, fits vs ws ∧ ws.length ≤ 7 ∧ e = (false, (false, ()), vs, ws, Sp02.enc (cat vs ws), ())) := by
  refine Loop_post (fun v : Int × List Int × List Int × S × Tp × Unit => 0 ≤ v.1 ∧ fits v.2.1 v.2.2.1 ∧ (v.2.2.1.length : Int) + v.1 ≤ 7 ∧ v.2.2.2.1 = Sp02.enc (cat v.2.1 v.2.2.1) ∧ wf v.2.2.2.2.1 = true)
    (fun v : Int × List Int × List Int × S × Tp × Unit => v.1.toNat) _ ?_ (v := (n, [], [], ([], 0, ()), t, ())) ⟨h0, trivial, by simp; omega, enc_nil.symm, hw⟩
  rintro ⟨n, vs, ws, a, t, ⟨⟩⟩ ⟨k0, k1, k2, k3, k4⟩
  simp only at k0 k1 k2 k3 k4
  subst k3
  have hvl := fits_len k1
  have hcl := cat_len k1
  unfold g7_s0
  by_cases h : 0 < n
  · right
    have hr := next_range (t := t) (n := 65) (by omega)
    have w1 := next_wf (n := 65) k4
    have w2 := raw_wf w1
    simp only [GT.gt, h, decide_true, cond_true, k4, w1, on_true, Option.bind_some, Int.ofNat_eq_natCast]
    generalize hw : (next t 65).1 = w at hr
    have hpr := u64_range (IntKind.wrap .u64 (raw (next t 65).2).1 * 11400714819323198485)
    generalize IntKind.wrap .u64 (IntKind.wrap .u64 (raw (next t 65).2).1 * 11400714819323198485) = p0 at hpr
    obtain ⟨p, hp, hp1, hp2⟩ : ∃ p, (bif decide (w < 64) then some (IntKind.wrap .u64 ((BitVec.and (BitVec.ofInt 64 p0) (BitVec.ofInt 64 (IntKind.wrap .u64 ((bif decide (w < 0) || decide (63 < w) then (0 : Int) else Int.pow 2 w.toNat) - 1)))).toNat : Int), ()) else some (p0, ())) = some (p, ()) ∧ 0 ≤ p ∧
        p < 2 ^ w.toNat := by
      by_cases hw64 : w < 64
      · refine ⟨_, by simp only [hw64, decide_true, cond_true]; rfl, ?_⟩
        rw [mask_val hpr.1 hpr.2 hr.1 hw64, pow_cast]
        have hlt : p0.toNat % 2 ^ w.toNat < 2 ^ w.toNat := Nat.mod_lt _ (Nat.two_pow_pos _)
        omega
      · refine ⟨p0, by simp only [hw64, decide_false, cond_false], hpr.1, ?_⟩
        have : w.toNat = 64 := by omega
        rw [this]
        exact hpr.2
    have hfit : 0 ≤ w ∧ w ≤ 64 ∧ 0 ≤ p ∧ p < 2 ^ w.toNat := ⟨hr.1, by omega, hp1, hp2⟩
    have hlen : (cat vs ws ++ vbits p.toNat w.toNat).length = (cat vs ws).length + w.toNat := by simp [vbits_length]
    have hbits : (Sp02.enc (cat vs ws ++ vbits p.toNat w.toNat)).2.1 = ((cat vs ws).length : Int) + w := by
      show ((cat vs ws ++ vbits p.toNat w.toNat).length : Int) = _
      rw [hlen]; omega
    have e1 : IntKind.wrap .i64 (((cat vs ws).length : Int) + w) = ((cat vs ws).length : Int) + w := wi64 (by omega) (by omega)
    have e0 : (Sp02.enc (cat vs ws)).2.1 = ((cat vs ws).length : Int) := rfl
    have e2 : IntKind.wrap .i64 (n - 1) = n - 1 := wi64 (by omega) (by omega)
    rw [hp]
    simp only [Option.bind_some, append_good (show (cat vs ws).length ≤ 8000 by omega) hfit, hbits, e0, e1, e2, decide_true, Bool.not_true, Bool.not_false, cond_true, cond_false]
    rw [ble_t (by omega), ble_t (by omega)]
    refine ⟨_, rfl, ⟨by simp only; omega, fits_snoc k1 hfit, by simp; omega, ?_, w2⟩, by simp only; omega⟩
    simp only
    rw [cat_snoc _ _ _ _ hvl]
  · left
    refine ⟨_, by simp only [GT.gt, h, decide_false, cond_false], vs, ws, k1, by omega, rfl⟩

theorem take_good {vs ws : List Int} (hf : fits vs ws) (hl : ws.length ≤ 7) {i : Nat} (hi : i < ws.length) :
    Sp02.take (Sp02.enc (cat vs ws)) ((cat (vs.take i) (ws.take i)).length : Nat) (ws.getD i 0) = (vs.getD i 0, 0, ()) := by
  obtain ⟨⟨h1, h2, h3, h4⟩, rest, h5⟩ := fits_at hf hi
  have hcl := cat_len hf
  have hlen : (cat vs ws).length = (cat (vs.take i) (ws.take i)).length + ((ws.getD i 0).toNat + rest.length) := by
    rw [h5, List.length_append, List.length_append, vbits_length]
  unfold Sp02.take
  have d1 : ¬ ws.getD i 0 < 0 := by omega
  have d2 : ¬ 64 < ws.getD i 0 := by omega
  have d3 : ¬ (((cat (vs.take i) (ws.take i)).length : Nat) : Int) < 0 := by omega
  have d4 : ¬ (Sp02.enc (cat vs ws)).2.1 - ws.getD i 0 < (((cat (vs.take i) (ws.take i)).length : Nat) : Int) := by
    have : (Sp02.enc (cat vs ws)).2.1 = ((cat vs ws).length : Int) := rfl
    omega
  simp only [valid_enc (show (cat vs ws).length ≤ 8192 by omega), d1, d2, d3, d4, Bool.not_true, decide_false, Bool.or_self, cond_false, Int.toNat_natCast]
  have hb := bitsR_pack (bs := cat vs ws) (mid := vbits (vs.getD i 0).toNat (ws.getD i 0).toNat) h5
  rw [vbits_length] at hb
  have hb2 : bitsR (Sp02.enc (cat vs ws)).1 (cat (vs.take i) (ws.take i)).length (ws.getD i 0).toNat = vbits (vs.getD i 0).toNat (ws.getD i 0).toNat := hb
  rw [hb2, valOf_vbits _ _ (by rw [pow_cast] at h4; omega)]
  congr 1
  omega

theorem back_loop2 (vs ws : List Int) (hf : fits vs ws) (hl : ws.length ≤ 7) :
    Loop g7_s1 ((0 : Int), (0 : Int), vs, Sp02.enc (cat vs ws), ws, ()) = some (false, (false, ()), (Sp02.enc (cat vs ws)).2.1, Sp02.enc (cat vs ws), ()) := by
  have hvl := fits_len hf
  have hcl := cat_len hf
  refine Loop_inv (fun v : Int × Int × List Int × S × List Int × Unit => 0 ≤ v.1 ∧ v.1 ≤ (ws.length : Int) ∧ v.2.1 = ((cat (vs.take v.1.toNat) (ws.take v.1.toNat)).length : Int) ∧ v.2.2 = (vs, Sp02.enc (cat vs ws), ws, ())) (fun v : Int × Int × List Int × S × List Int × Unit => ((ws.length : Int) - v.1).toNat)
    (fun _ => (false, (false, ()), (Sp02.enc (cat vs ws)).2.1, Sp02.enc (cat vs ws), ())) ?_ (v := (0, 0, vs, Sp02.enc (cat vs ws), ws, ())) ⟨by simp, by simp, by simp [cat], rfl⟩
  rintro ⟨i, x, r⟩ ⟨k1, k2, k3, k4⟩
  simp only at k1 k2 k3 k4
  subst k3
  subst k4
  unfold g7_s1
  by_cases h : i < (ws.length : Int)
  · right
    have hi : i.toNat < ws.length := by omega
    have c1 : i < (vs.length : Int) := by omega
    have c2 : Nat.blt i.toNat ws.length = true := blt_t hi
    have hcs := cat_take_succ hf hi
    obtain ⟨⟨b1, b2, b3, b4⟩, rest, h5⟩ := fits_at hf hi
    have hlen : (cat vs ws).length = (cat (vs.take i.toNat) (ws.take i.toNat)).length + ((ws.getD i.toNat 0).toNat + rest.length) := by
      rw [h5, List.length_append, List.length_append, vbits_length]
    have e1 : IntKind.wrap .i64 (i + 1) = i + 1 := wi64 (by omega) (by omega)
    have e2 : IntKind.wrap .i64 (((cat (vs.take i.toNat) (ws.take i.toNat)).length : Int) + ws.getD i.toNat 0) = ((cat (vs.take i.toNat) (ws.take i.toNat)).length : Int) + ws.getD i.toNat 0 := wi64 (by omega) (by omega)
    simp only [h, k1, c1, c2, decide_true, cond_true, cond_false, Bool.and_self, Int.ofNat_eq_natCast, take_good hf hl hi, Bool.not_true, Bool.not_false, Option.bind_some, e1, e2]
    refine ⟨_, rfl, ⟨by simp only; omega, by simp only; omega, ?_, rfl⟩, by simp only; omega, trivial⟩
    simp only
    rw [show (i + 1).toNat = i.toNat + 1 by omega, hcs, List.length_append, vbits_length]
    omega
  · left
    have : i.toNat = ws.length := by omega
    simp only [h, decide_false, cond_false, Int.ofNat_eq_natCast]
    rw [this, List.take_length, show vs.take ws.length = vs by rw [← hvl]; exact List.take_length]
    rfl

theorem g7_ok (a0 : (List Int)) (r0 : (Ty.sl (.int .i64)).ok a0) : g7 a0 = some (true, ()) := by
  unfold g7
  have w0 := tape_wf a0
  have w1 := next_wf (n := 8) w0
  have hr := next_range (t := Sp02.tape a0) (n := 8) (by omega)
  rw [on_true w0]
  obtain ⟨e, h1, vs, ws, hf, hl, rfl⟩ := back_loop1 (next (Sp02.tape a0) 8).1 (next (Sp02.tape a0) 8).2 hr.1 (by omega) w1
  have hcl := cat_len hf
  simp only [Option.bind_some, h1, cond_false, back_loop2 vs ws hf hl, decide_true, cond_true, valid_enc (show (cat vs ws).length ≤ 8192 by omega)]
end Go.Abs.C02

/- Chapter 02: check numbers as words of 16 bits. -/
namespace Sp02
open Go Go.Abs

abbrev W := BitVec 16
def X : W := 0x8000#16
def shx (v : W) : W := (v <<< 1) ^^^ (bif v.msb then 0x1021#16 else 0#16)
def bx (b : Bool) : W := bif b then X else 0#16
def stepW (r : W) (b : Bool) : W := shx (r ^^^ bx b)
def crcW (bs : List Bool) : W := bs.foldl stepW 0xFFFF#16

theorem xlc (a b c : W) : a ^^^ (b ^^^ c) = b ^^^ (a ^^^ c) := by rw [← BitVec.xor_assoc, BitVec.xor_comm a, BitVec.xor_assoc]
theorem xcc (a b : W) : a ^^^ (b ^^^ a) = b := by rw [xlc, BitVec.xor_self, BitVec.xor_zero]
theorem shx_xor (a b : W) : shx (a ^^^ b) = shx a ^^^ shx b := by
  unfold shx
  rw [BitVec.shiftLeft_xor_distrib, BitVec.msb_xor]
  cases a.msb <;> cases b.msb
  · simp
  · simp [BitVec.xor_assoc]
  · simp only [Bool.true_xor, Bool.not_false, cond_true, cond_false, BitVec.xor_zero, BitVec.xor_assoc]
    rw [BitVec.xor_comm (b <<< 1)]
  · simp only [Bool.xor_self, cond_true, cond_false, BitVec.xor_zero, BitVec.xor_assoc, xcc]
theorem bx_xor (a b : Bool) : bx (a ^^ b) = bx a ^^^ bx b := by cases a <;> cases b <;> decide
theorem stepW_xor (r s : W) (a b : Bool) : stepW r a ^^^ stepW s b = stepW (r ^^^ s) (a ^^ b) := by
  unfold stepW
  rw [← shx_xor, bx_xor]
  congr 1
  simp only [BitVec.xor_assoc]
  rw [xlc (bx a) s]

theorem crcB_step (r : W) (b : Bool) : crcB r.toNat b = (stepW r b).toNat := by
  have hm : Nat.testBit r.toNat 15 = r.msb := by
    rw [BitVec.msb_eq_getLsbD_last]; rfl
  have h2 : 2 * r.toNat % 65536 = (r <<< 1).toNat := by
    rw [BitVec.toNat_shiftLeft, Nat.shiftLeft_eq, Nat.pow_one, Nat.mul_comm]
  have hX : ∀ v : W, (v ^^^ X) <<< 1 = v <<< 1 := fun v => by
    rw [BitVec.shiftLeft_xor_distrib]
    have : X <<< 1 = 0#16 := by decide
    rw [this, BitVec.xor_zero]
  have hXm : ∀ v : W, (v ^^^ X).msb = !v.msb := fun v => by
    rw [BitVec.msb_xor]
    have : X.msb = true := by decide
    rw [this]; cases v.msb <;> rfl
  unfold crcB stepW
  rw [hm, h2]
  cases b with
  | false =>
    have : bx false = 0#16 := rfl
    rw [this, BitVec.xor_zero]
    unfold shx
    cases r.msb with
    | false => simp
    | true =>
      show Nat.xor (r <<< 1).toNat 4129 = ((r <<< 1) ^^^ 0x1021#16).toNat
      rw [BitVec.toNat_xor]; rfl
  | true =>
    have : bx true = X := rfl
    rw [this]
    unfold shx
    rw [hX, hXm]
    cases r.msb with
    | true => simp
    | false =>
      show Nat.xor (r <<< 1).toNat 4129 = ((r <<< 1) ^^^ 0x1021#16).toNat
      rw [BitVec.toNat_xor]; rfl
theorem crc_word (bs : List Bool) : crc bs = (crcW bs).toNat := by
  unfold crc crcW
  suffices h : ∀ (bs : List Bool) (r : W), bs.foldl crcB r.toNat = (bs.foldl stepW r).toNat from h bs 0xFFFF#16
  intro bs
  induction bs with
  | nil => intro r; rfl
  | cons b l ih => intro r; simp only [List.foldl_cons]; rw [crcB_step, ih]

/-! One bit turned. -/
def tog (bs : List Bool) (p : Nat) : List Bool := bs.set p (!(bs.getD p false))
def iter : Nat → W → W
  | 0, v => v
  | n + 1, v => iter n (shx v)
theorem iter_xor (n : Nat) (a b : W) : iter n (a ^^^ b) = iter n a ^^^ iter n b := by
  induction n generalizing a b with
  | zero => rfl
  | succ n ih => simp only [iter, shx_xor, ih]
theorem shx_zero : shx 0#16 = 0#16 := by decide
theorem iter_zero (n : Nat) : iter n 0#16 = 0#16 := by
  induction n with
  | zero => rfl
  | succ n ih => simp only [iter, shx_zero, ih]
theorem iter_succ (n : Nat) (v : W) : iter (n + 1) v = shx (iter n v) := by
  induction n generalizing v with
  | zero => rfl
  | succ n ih => rw [iter, ih]; rfl
theorem iter_add (n m : Nat) (v : W) : iter (n + m) v = iter n (iter m v) := by
  induction m generalizing v with
  | zero => rfl
  | succ m ih => rw [Nat.add_succ, iter, ih]; rfl
theorem fold_diff (bs : List Bool) : ∀ (r s : W), bs.foldl stepW r ^^^ bs.foldl stepW s = iter bs.length (r ^^^ s) := by
  induction bs with
  | nil => intro r s; rfl
  | cons b l ih =>
    intro r s
    simp only [List.foldl_cons, List.length_cons, iter]
    rw [ih, stepW_xor]
    have : stepW (r ^^^ s) (b ^^ b) = shx (r ^^^ s) := by
      unfold stepW
      have : bx (b ^^ b) = 0#16 := by cases b <;> rfl
      rw [this, BitVec.xor_zero]
    rw [this]
theorem fold_tog : ∀ (bs : List Bool) (p : Nat) (r : W), p < bs.length → bs.foldl stepW r ^^^ (tog bs p).foldl stepW r = iter (bs.length - p) X := by
  intro bs
  induction bs with
  | nil => intro p r h; simp at h
  | cons b l ih =>
    intro p r h
    cases p with
    | zero =>
      have e : tog (b :: l) 0 = (!b) :: l := rfl
      rw [e]
      simp only [List.foldl_cons]
      rw [fold_diff, stepW_xor, BitVec.xor_self]
      have : stepW 0#16 (b ^^ !b) = shx X := by cases b <;> decide
      rw [this]
      rfl
    | succ p =>
      have e : tog (b :: l) (p + 1) = b :: tog l p := rfl
      rw [e]
      simp only [List.foldl_cons, List.length_cons]
      rw [ih p _ (by simpa using h)]
      congr 1; omega
theorem crcW_tog {bs : List Bool} {p : Nat} (h : p < bs.length) : crcW bs ^^^ crcW (tog bs p) = iter (bs.length - p) X := fold_tog bs p _ h
theorem tog_length (bs : List Bool) (p : Nat) : (tog bs p).length = bs.length := by simp [tog]

/-! The polynomial is divisible by x + 1: the number of bits stays odd. -/
theorem shl_zero0 (v : W) : (v <<< 1).getLsbD 0 = false := by
  rw [BitVec.getLsbD_shiftLeft]; rfl
theorem shl_succ (v : W) {i : Nat} (h : i + 1 < 16) : (v <<< 1).getLsbD (i + 1) = v.getLsbD i := by
  rw [BitVec.getLsbD_shiftLeft]
  have h2 : ¬ i + 1 < 1 := by omega
  simp only [h, h2, decide_true, decide_false, Bool.not_false, Bool.true_and, Nat.add_sub_cancel]
def parN : Nat → W → Bool
  | 0, _ => false
  | n + 1, v => parN n v ^^ v.getLsbD n
def par (v : W) : Bool := parN 16 v
theorem par_xor (a b : W) : par (a ^^^ b) = (par a ^^ par b) := by
  have key : ∀ n, parN n (a ^^^ b) = (parN n a ^^ parN n b) := by
    intro n
    induction n with
    | zero => rfl
    | succ n ih =>
      simp only [parN, ih, BitVec.getLsbD_xor]
      cases parN n a <;> cases parN n b <;> cases a.getLsbD n <;> cases b.getLsbD n <;> rfl
  exact key 16
theorem par_shl (v : W) : (par (v <<< 1) ^^ v.msb) = par v := by
  have key : ∀ n, n + 1 ≤ 16 → parN (n + 1) (v <<< 1) = parN n v := by
    intro n
    induction n with
    | zero => intro _; simp only [parN, shl_zero0]; rfl
    | succ n ih =>
      intro h
      rw [parN, ih (by omega), shl_succ v (by omega)]
      rfl
  unfold par
  rw [key 15 (by omega), BitVec.msb_eq_getLsbD_last]
  rfl
theorem par_shx (v : W) : par (shx v) = par v := by
  unfold shx
  rw [par_xor]
  have h1 : par 0x1021#16 = true := by decide
  have h0 : par 0#16 = false := by decide
  have := par_shl v
  cases hm : v.msb with
  | true => rw [hm] at this; simp only [cond_true, h1]; exact this
  | false => rw [hm] at this; simp only [cond_false, h0]; exact this
theorem par_iter (n : Nat) (v : W) : par (iter n v) = par v := by
  induction n generalizing v with
  | zero => rfl
  | succ n ih => rw [iter, ih, par_shx]
theorem par_X : par X = true := by decide

/-! Nothing is lost: x has an inverse. -/
theorem shx_inj {v : W} (h : shx v = 0#16) : v = 0#16 := by
  unfold shx at h
  cases hm : v.msb with
  | true =>
    rw [hm] at h
    have := congrArg (fun x : W => x.getLsbD 0) h
    simp only [cond_true, BitVec.getLsbD_xor, shl_zero0] at this
    exact absurd this (by decide)
  | false =>
    rw [hm] at h
    simp only [cond_false, BitVec.xor_zero] at h
    refine BitVec.eq_of_getLsbD_eq fun i hi => ?_
    by_cases h15 : i = 15
    · subst h15
      rw [BitVec.msb_eq_getLsbD_last] at hm
      rw [show (0#16).getLsbD 15 = false from rfl]; exact hm
    · have := congrArg (fun x : W => x.getLsbD (i + 1)) h
      simp only [shl_succ v (show i + 1 < 16 by omega)] at this
      rw [this]
      simp
theorem iter_inj {n : Nat} {v : W} (h : iter n v = 0#16) : v = 0#16 := by
  induction n generalizing v with
  | zero => exact h
  | succ n ih => exact shx_inj (ih h)
/-- The words that the turning of one bit comes to do not come again. -/
def none16 : Nat → W → Bool
  | 0, _ => true
  | n + 1, v => !(decide (v = X)) && none16 n (shx v)
theorem none16_ok : none16 8192 (shx X) = true := by decide +kernel
theorem none16_iter : ∀ {n : Nat} {v : W}, none16 n v = true → ∀ k, k < n → iter k v ≠ X
  | 0, _, _, k, hk => by omega
  | n + 1, v, h, 0, _ => by
    simp only [none16, Bool.and_eq_true, Bool.not_eq_true', decide_eq_false_iff_not] at h
    exact h.1
  | n + 1, v, h, k + 1, hk => by
    simp only [none16, Bool.and_eq_true] at h
    exact none16_iter h.2 k (by omega)
theorem iter_ne {k : Nat} (h0 : 0 < k) (h : k ≤ 8192) : iter k X ≠ X := by
  obtain ⟨m, rfl⟩ : ∃ m, k = m + 1 := ⟨k - 1, by omega⟩
  exact none16_iter none16_ok m (by omega)
theorem iter_two {n p q : Nat} (hpq : p < q) (hq : q ≤ n) (hn : n ≤ 8192) : iter (n - p) X ^^^ iter (n - q) X ≠ 0#16 := by
  intro h
  have e : n - p = (n - q) + (q - p) := by omega
  rw [e, iter_add, ← iter_xor] at h
  have := iter_inj h
  refine iter_ne (k := q - p) (by omega) (by omega) ?_
  have := congrArg (· ^^^ X) this
  simpa [BitVec.xor_assoc] using this

/-! Bursts. -/
theorem fold_append_zero (w : List Bool) (b : Bool) (r : W) : (w ++ [b]).foldl stepW r = shx (w.foldl stepW r ^^^ bx b) := by
  rw [List.foldl_append]; rfl
def top : List Bool → W
  | [] => 0#16
  | b :: w => bx b ^^^ (top w >>> 1)
theorem bx_bit (b : Bool) (i : Nat) (h : i < 15) : (bx b).getLsbD i = false := by
  cases b with
  | false => show (0#16).getLsbD i = false; simp
  | true =>
    show X.getLsbD i = false
    have : ∀ i : Fin 15, X.getLsbD i.val = false := by decide
    exact this ⟨i, h⟩
theorem top_low : ∀ (w : List Bool) (i : Nat), i + w.length < 16 → (top w).getLsbD i = false
  | [], i, _ => by simp [top]
  | b :: w, i, h => by
    simp only [List.length_cons] at h
    simp only [top, BitVec.getLsbD_xor, BitVec.getLsbD_ushiftRight]
    rw [bx_bit b i (by omega), show 1 + i = i + 1 by omega, top_low w (i + 1) (by omega)]
    rfl
theorem shx_low {v y : W} (h : shx v = y) (h0 : y.getLsbD 0 = false) : v = y >>> 1 := by
  unfold shx at h
  cases hm : v.msb with
  | true =>
    rw [hm] at h
    have := congrArg (fun x : W => x.getLsbD 0) h
    simp only [cond_true, BitVec.getLsbD_xor, shl_zero0, h0] at this
    exact absurd this (by decide)
  | false =>
    rw [hm] at h
    simp only [cond_false, BitVec.xor_zero] at h
    subst h
    refine BitVec.eq_of_getLsbD_eq fun i hi => ?_
    rw [BitVec.getLsbD_ushiftRight]
    by_cases h15 : i = 15
    · subst h15
      rw [BitVec.msb_eq_getLsbD_last] at hm
      have : (v <<< 1).getLsbD (1 + 15) = false := BitVec.getLsbD_of_ge _ _ (by omega)
      rw [this]; exact hm
    · rw [show 1 + i = i + 1 by omega, shl_succ v (by omega)]
theorem fold_zero : ∀ (w : List Bool) (r : W), w.length ≤ 16 → w.foldl stepW r = 0#16 → r = top w
  | [], r, _, h => h
  | b :: w, r, hl, h => by
    simp only [List.length_cons] at hl
    have ih := fold_zero w (stepW r b) (by omega) h
    have h1 := shx_low (v := r ^^^ bx b) ih (top_low w 0 (by omega))
    simp only [top]
    rw [← h1, BitVec.xor_comm r, ← BitVec.xor_assoc, BitVec.xor_self, BitVec.zero_xor]
theorem burst_ne {w : List Bool} (hl : w.length ≤ 15) : (true :: w).foldl stepW 0#16 ≠ 0#16 := by
  intro h
  have := fold_zero (true :: w) 0#16 (by simp; omega) h
  have h2 := congrArg (fun x : W => x.msb) this
  simp only [top] at h2
  rw [BitVec.msb_xor] at h2
  have h3 : (top w >>> 1).msb = false := by
    rw [BitVec.msb_eq_getLsbD_last, BitVec.getLsbD_ushiftRight]
    simp
  rw [h3] at h2
  exact absurd h2 (by decide)
end Sp02

/- Chapter 02: the laws BitioChecks, BitioBursts. -/
namespace Go.Abs.C02
open Go Go.Proofs Sp02

theorem bitOf_xor {x : Int} {m j : Nat} (h : 0 ≤ x) : bitOf ((Nat.xor x.toNat (2 ^ m) : Nat) : Int) j = (bitOf x j ^^ decide (m = j)) := by
  rw [bitOf_testBit (by omega), bitOf_testBit h, Int.toNat_natCast]
  show (x.toNat ^^^ 2 ^ m).testBit j = _
  rw [Nat.testBit_xor, Nat.testBit_two_pow]
theorem tog_getD (bs : List Bool) (p i : Nat) (h : p < bs.length) : (tog bs p).getD i false = (bs.getD i false ^^ decide (p = i)) := by
  unfold tog
  rw [getD_set h]
  by_cases hp : p = i
  · subst hp; simp
  · simp [hp]
theorem flip_facts {s : S} {i : Int} (hb : bytesOk s.1) (hv : valid s = true) (h0 : 0 ≤ i) (hi : i < s.2.1) :
    bytesOk (Sp02.flip s i).1 ∧ valid (Sp02.flip s i) = true ∧ (Sp02.flip s i).2.1 = s.2.1 ∧ (Sp02.flip s i).1.length = s.1.length ∧ Sp02.bits (Sp02.flip s i) = tog (Sp02.bits s) i.toNat := by
  obtain ⟨l, n, ⟨⟩⟩ := s
  obtain ⟨v1, v2, v3, v4⟩ := valid_iff.1 hv
  simp only at v1 v2 v3 v4 hb hi
  have hx := bytesOk_getD hb (i.toNat / 8)
  have hpw : (2 : Nat) ^ (7 - i.toNat % 8) < 2 ^ 8 := Nat.pow_lt_pow_right (by omega) (by omega)
  have hlt : Nat.xor (l.getD (i.toNat / 8) 0).toNat (2 ^ (7 - i.toNat % 8)) < 2 ^ 8 := Nat.xor_lt_two_pow (by omega) hpw
  have hbit : ∀ j, bitAt (Sp02.flip (l, n, ()) i).1 j = (bitAt l j ^^ decide (i.toNat = j)) := by
    intro j
    show bitAt (l.set (i.toNat / 8) _) j = _
    rw [bitAt_set (by omega)]
    by_cases h : i.toNat / 8 = j / 8
    · rw [if_pos h, bitOf_xor hx.1]
      unfold bitAt
      rw [h]
      congr 1
      congr 1
      apply propext
      omega
    · rw [if_neg h]
      have : ¬ i.toNat = j := by omega
      simp [this]
  have hlen : (Sp02.flip (l, n, ()) i).1.length = l.length := by show (l.set _ _).length = _; simp
  have hx2 : 0 ≤ ((Nat.xor (l.getD (i.toNat / 8) 0).toNat (2 ^ (7 - i.toNat % 8)) : Nat) : Int) ∧ ((Nat.xor (l.getD (i.toNat / 8) 0).toNat (2 ^ (7 - i.toNat % 8)) : Nat) : Int) < 256 := ⟨by omega, by omega⟩
  refine ⟨bytesOk_set hb hx2, valid_iff.2 ⟨v1, v2, ?_, fun j hj => ?_⟩, rfl, hlen, bools_ext (by rw [tog_length, bits_length, bits_length]; rfl) fun j hj => ?_⟩
  · rw [hlen]; exact v3
  · rw [hbit, v4 j hj]
    have hj : n.toNat ≤ j := hj
    have : ¬ i.toNat = j := by omega
    simp [this]
  · rw [bits_length] at hj
    have hj : j < n.toNat := hj
    rw [tog_getD _ _ _ (by rw [bits_length]; simp only; omega), bits_getD, bits_getD, if_pos, if_pos, hbit]
    · exact hj
    · exact hj

theorem check_valid {s : S} (h : valid s = true) : check s = (((crcW (Sp02.bits s)).toNat : Int), 0, ()) := by
  unfold check
  rw [h, crc_word]
  rfl
theorem check_ok {s : S} (h : (check s).2.1 = 0) : valid s = true := by
  unfold check at h
  cases hv : valid s with
  | true => rfl
  | false => rw [hv] at h; simp at h

/-! Places. -/
theorem orderN_nodup : ∀ (n : Nat) (i : Int) (t : Tp) (acc : List Int), 0 ≤ i → acc.Nodup → (∀ x ∈ acc, 0 ≤ x ∧ x < i) → (orderN n i t acc).1.Nodup ∧ ∀ x ∈ (orderN n i t acc).1, 0 ≤ x ∧ x < i + n
  | 0, i, t, acc, _, h1, h2 => ⟨h1, fun x hx => by have := h2 x hx; omega⟩
  | n + 1, i, t, acc, h0, h1, h2 => by
    unfold orderN
    have hp : (acc.take (next t (i + 1)).1.toNat ++ [i] ++ acc.drop (next t (i + 1)).1.toNat).Perm (i :: acc) := by
      rw [List.append_assoc]
      have := List.perm_middle (a := i) (l₁ := acc.take (next t (i + 1)).1.toNat) (l₂ := acc.drop (next t (i + 1)).1.toNat)
      rw [List.take_append_drop] at this
      exact this
    have := orderN_nodup n (i + 1) (next t (i + 1)).2 _ (by omega) (hp.nodup_iff.2 (List.nodup_cons.2 ⟨fun hi => by have := h2 i hi; omega, h1⟩)) (fun x hx => by
      rcases List.mem_cons.1 (hp.mem_iff.1 hx) with h | h
      · omega
      · have := h2 x h; omega)
    refine ⟨this.1, fun x hx => ?_⟩
    have := this.2 x hx
    omega
theorem order_facts (t : Tp) (n : Int) (h0 : 0 ≤ n) : (order t n).1.length = n.toNat ∧ (order t n).1.Nodup ∧ ∀ x ∈ (order t n).1, 0 ≤ x ∧ x < n := by
  have h1 := order_perm n.toNat 0 t []
  obtain ⟨h2, h3⟩ := orderN_nodup n.toNat 0 t [] (by omega) List.nodup_nil (fun x hx => by cases hx)
  refine ⟨by simpa [order] using h1, h2, fun x hx => ?_⟩
  have := h3 x hx
  omega
theorem place_lt {x m n : Int} (h0 : 0 ≤ x) (h1 : x < m) (hn : m ≤ n) : 0 ≤ x * n / m ∧ x * n / m < n := by
  have hm : 0 < m := by omega
  refine ⟨Int.ediv_nonneg (Int.mul_nonneg h0 (by omega)) (by omega), Int.ediv_lt_of_lt_mul hm ?_⟩
  rw [Int.mul_comm n m]
  exact Int.mul_lt_mul_of_pos_right h1 (by omega)
theorem place_ne {x y m n : Int} (h0 : 0 ≤ x) (hxy : x < y) (h1 : y < m) (hn : m ≤ n) : x * n / m < y * n / m := by
  have hm : 0 < m := by omega
  have h2 : x * n + m ≤ y * n := by
    have : (x + 1) * n ≤ y * n := Int.mul_le_mul_of_nonneg_right (by omega) (by omega)
    rw [Int.add_mul, Int.one_mul] at this
    omega
  have h3 : (x * n + m) / m ≤ y * n / m := Int.ediv_le_ediv hm h2
  have h4 : (x * n + m) / m = x * n / m + 1 := by rw [Int.add_ediv_of_dvd_right (Int.dvd_refl m), Int.ediv_self (by omega)]
  omega
theorem bytes1_ok {l : List Int} (h : bytesOk l) : bytesOk (bytes1 l) := by
  unfold bytes1
  by_cases hl : 0 < l.length
  · simp only [hl, decide_true, cond_true]
    have hx := bytesOk_getD h (l.length - 1)
    have : Nat.lor (l.getD (l.length - 1) 0).toNat 1 < 2 ^ 8 := Nat.or_lt_two_pow (by omega) (by omega)
    exact bytesOk_set h (by omega)
  · simp only [hl, decide_false, cond_false]; exact h
theorem stream_ok (t : Tp) (m n : Int) : bytesOk (stream t m n).1.1 := by
  unfold stream
  simp only
  generalize bitsN (range t 0 m).1.toNat (range t 0 m).2 [] = b
  have hb : bytesOk (Sp02.enc b.1).1 := enc_ok _
  by_cases hp : 0 < n
  · simp only [hp, decide_true, cond_true]
    cases (one b.2 n).1 with
    | false => exact hb
    | true =>
      simp only [cond_true]
      unfold Sp02.spoil
      simp only
      by_cases q0 : (next (one b.2 n).2 4).1 = 0
      · simp only [q0, decide_true, cond_true]; exact hb
      · by_cases q1 : (next (one b.2 n).2 4).1 = 1
        · simp only [q0, q1, decide_true, decide_false, cond_true, cond_false]
          have hx := next_range (t := (next (one b.2 n).2 4).2) (n := 2) (by omega)
          exact bytesOk_app hb (bytesOk_one (by omega))
        · by_cases q2 : (next (one b.2 n).2 4).1 = 2
          · simp only [q0, q1, q2, decide_true, decide_false, cond_true, cond_false]; exact hb
          · simp only [q0, q1, q2, decide_false, cond_false]; exact bytes1_ok hb
  · simp only [hp, decide_false, cond_false]; exact hb

/-- What the first k turned bits come to. -/
def sumU (n : Nat) (p : Nat → Nat) : Nat → W
  | 0 => 0#16
  | k + 1 => sumU n p k ^^^ iter (n - p k) X
theorem sumU_ne {n : Nat} {p : Nat → Nat} (hn : n ≤ 8192) (h : ∀ i, i < 3 → p i < n) (hd : ∀ i j, i < 3 → j < 3 → i ≠ j → p i ≠ p j) : ∀ k, 1 ≤ k → k ≤ 3 → sumU n p k ≠ 0#16 := by
  intro k h1 h3 hk
  have hp : par (0#16 : W) = false := by decide
  match k, h1, h3 with
  | 1, _, _ =>
    have := congrArg par hk
    simp only [sumU, BitVec.zero_xor, par_iter, par_X, hp] at this
    cases this
  | 2, _, _ =>
    simp only [sumU, BitVec.zero_xor] at hk
    have h0 := h 0 (by omega)
    have h1 := h 1 (by omega)
    have := hd 0 1 (by omega) (by omega) (by omega)
    rcases Nat.lt_or_gt_of_ne this with h2 | h2
    · exact iter_two h2 (by omega) hn hk
    · rw [BitVec.xor_comm] at hk
      exact iter_two h2 (by omega) hn hk
  | 3, _, _ =>
    have := congrArg par hk
    simp only [sumU, BitVec.zero_xor, par_xor, par_iter, par_X, hp] at this
    cases this

theorem checks_loop (y : S × Tp) (z : List Int × Tp) (m : Int) (hb : bytesOk y.1.1) (hv : valid y.1 = true) (h3 : 3 ≤ m) (hm : m ≤ y.1.2.1) (hz : z.1.length = m.toNat) (hnd : z.1.Nodup) (hr : ∀ x ∈ z.1, 0 ≤ x ∧ x < m) :
    ∃ e, Loop (g5_s0 y z) ((0 : Int), y.1, ()) = some e ∧ e = (false, (false, ()), ()) := by
  obtain ⟨v1, v2, v3, v4⟩ := valid_iff.1 hv
  have hp : ∀ i : Nat, i < 3 → 0 ≤ z.1.getD i 0 * y.1.2.1 / m ∧ z.1.getD i 0 * y.1.2.1 / m < y.1.2.1 := fun i hi =>
    have hx := hr _ (getD_mem (d := 0) (show i < z.1.length by omega))
    place_lt hx.1 hx.2 hm
  have hpd : ∀ i j : Nat, i < 3 → j < 3 → i ≠ j → (z.1.getD i 0 * y.1.2.1 / m).toNat ≠ (z.1.getD j 0 * y.1.2.1 / m).toNat := by
    intro i j hi hj hij
    have hxi := hr _ (getD_mem (d := 0) (show i < z.1.length by omega))
    have hxj := hr _ (getD_mem (d := 0) (show j < z.1.length by omega))
    have hne : z.1.getD i 0 ≠ z.1.getD j 0 := by
      intro h
      rw [List.getD_eq_getElem?_getD, List.getD_eq_getElem?_getD, List.getElem?_eq_getElem (show i < z.1.length by omega), List.getElem?_eq_getElem (show j < z.1.length by omega)] at h
      exact hij ((List.getElem_inj hnd).1 h)
    have pi := hp i hi
    have pj := hp j hj
    rcases Int.lt_or_gt_of_ne hne with h | h
    · have := place_ne hxi.1 h hxj.2 hm; omega
    · have := place_ne hxj.1 h hxi.2 hm; omega
  have hne := sumU_ne (n := y.1.2.1.toNat) (p := fun i => (z.1.getD i 0 * y.1.2.1 / m).toNat) (by omega) (fun i hi => by have := hp i hi; show (z.1.getD i 0 * y.1.2.1 / m).toNat < y.1.2.1.toNat; omega) hpd
  refine Loop_post (fun v : Int × S × Unit => 0 ≤ v.1 ∧ v.1 ≤ 3 ∧ bytesOk v.2.1.1 ∧ valid v.2.1 = true ∧ v.2.1.2.1 = y.1.2.1 ∧
      crcW (Sp02.bits y.1) ^^^ crcW (Sp02.bits v.2.1) = sumU y.1.2.1.toNat (fun i => (z.1.getD i 0 * y.1.2.1 / m).toNat) v.1.toNat) (fun v : Int × S × Unit => (3 - v.1).toNat) _ ?_ (v := (0, y.1, ())) ⟨by simp, by simp, hb, hv, rfl, BitVec.xor_self⟩
  rintro ⟨i, b, ⟨⟩⟩ ⟨k1, k2, k3, k4, k5, k6⟩
  simp only at k1 k2 k3 k4 k5 k6
  unfold g5_s0
  by_cases h : i < 3
  · right
    have hpi := hp i.toNat (by omega)
    have hx := hr _ (getD_mem (d := 0) (show i.toNat < z.1.length by omega))
    have c1 : i < (z.1.length : Int) := by omega
    have c2 : ¬ (z.1.length : Int) = 0 := by omega
    have hmul : 0 ≤ z.1.getD i.toNat 0 * y.1.2.1 := Int.mul_nonneg hx.1 v1
    have hmul2 : z.1.getD i.toNat 0 * y.1.2.1 ≤ 8192 * 8192 := Int.le_trans (Int.mul_le_mul_of_nonneg_left v2 hx.1) (Int.mul_le_mul_of_nonneg_right (by omega) (by omega))
    have hl : (z.1.length : Int) = m := by omega
    have e1 : IntKind.wrap .i64 (z.1.getD i.toNat 0 * y.1.2.1) = z.1.getD i.toNat 0 * y.1.2.1 := wi64 (by omega) (by omega)
    have e2 : Int.tdiv (z.1.getD i.toNat 0 * y.1.2.1) m = z.1.getD i.toNat 0 * y.1.2.1 / m := tdiv_nn hmul
    have e3 : IntKind.wrap .i64 (z.1.getD i.toNat 0 * y.1.2.1 / m) = z.1.getD i.toNat 0 * y.1.2.1 / m := wi64 (by omega) (by omega)
    have e4 : IntKind.wrap .i64 (i + 1) = i + 1 := wi64 (by omega) (by omega)
    obtain ⟨w1, w2, w3, w4⟩ := valid_iff.1 k4
    have c3 : z.1.getD i.toNat 0 * y.1.2.1 / m < 8 * (b.1.length : Int) := by omega
    have c0 : ¬ m = 0 := by omega
    have c4 : i < m := by omega
    obtain ⟨f1, f2, f3, f4, f5⟩ := flip_facts k3 k4 hpi.1 (by rw [k5]; exact hpi.2)
    have hd : crcW (Sp02.bits y.1) ^^^ crcW (Sp02.bits (Sp02.flip b (z.1.getD i.toNat 0 * y.1.2.1 / m))) = sumU y.1.2.1.toNat (fun i => (z.1.getD i 0 * y.1.2.1 / m).toNat) (i.toNat + 1) := by
      have h1 := crcW_tog (bs := Sp02.bits b) (p := (z.1.getD i.toNat 0 * y.1.2.1 / m).toNat) (by rw [bits_length, k5]; omega)
      rw [bits_length, k5, ← f5] at h1
      simp only [sumU]
      rw [← k6, ← h1]
      rw [BitVec.xor_assoc, ← BitVec.xor_assoc (crcW (Sp02.bits b)), BitVec.xor_self, BitVec.zero_xor]
    have hcne : ¬ ((crcW (Sp02.bits (Sp02.flip b (z.1.getD i.toNat 0 * y.1.2.1 / m)))).toNat : Int) = ((crcW (Sp02.bits y.1)).toNat : Int) := by
      intro hc
      have : crcW (Sp02.bits (Sp02.flip b (z.1.getD i.toNat 0 * y.1.2.1 / m))) = crcW (Sp02.bits y.1) := BitVec.eq_of_toNat_eq (by omega)
      rw [this, BitVec.xor_self] at hd
      exact hne (i.toNat + 1) (by omega) (by omega) hd.symm
    simp only [h, k1, Int.ofNat_eq_natCast, hl, c0, c4, e1, e2, e3, e4, hpi.1, c3, decide_true, decide_false, cond_true, cond_false, Bool.and_self, on_true, Option.bind_some, check_valid f2, check_valid hv, hcne, Bool.not_true, Bool.not_false]
    refine ⟨_, rfl, ⟨by simp only; omega, by simp only; omega, f1, f2, f3.trans k5, ?_⟩, by simp only; omega⟩
    simp only
    rw [show (i + 1).toNat = i.toNat + 1 by omega, hd]
  · left
    refine ⟨_, by simp only [h, decide_false, cond_false], rfl⟩

theorem g5_ok (a0 : (List Int)) (a1 : (List Int)) (a2 : Int) (r0 : (Ty.sl (.int .i64)).ok a0) (r1 : (Ty.sl (.int .u8)).ok a1) (r2 : IntKind.i64.has a2) : g5 a0 a1 a2 = some (true, ()) := by
  unfold g5
  rw [stream_on a0 200 8 (by omega) (by omega) rfl]
  have w1 := stream_wf (m := 200) (n := 8) (tape_wf a0)
  have hb := stream_ok (Sp02.tape a0) 200 8
  simp only [Option.bind_some, decide_true, Bool.not_true, Bool.not_false, cond_true, cond_false]
  generalize hy : stream (Sp02.tape a0) 200 8 = y at w1 hb
  have hraw : (bif decide (Int.ofNat a1.length ≤ 1024) then some (false, (false, ()), ()) else some (false, (false, ()), ())) = some (false, (false, ()), ()) := by
    cases decide (Int.ofNat a1.length ≤ 1024) <;> rfl
  rw [hraw]
  simp only [Option.bind_some, cond_false]
  by_cases hc : (check y.1).2.1 = 0
  · have hv := check_ok hc
    obtain ⟨v1, v2, v3, v4⟩ := valid_iff.1 hv
    simp only [hc, decide_true, Bool.not_true, Bool.not_false, cond_true, Option.bind_some]
    by_cases h3 : y.1.2.1 < 3
    · simp only [h3, decide_true, cond_true]
    · simp only [h3, decide_false, cond_false]
      obtain ⟨m, hm, m1, m2, m3⟩ : ∃ m : Int, (bif decide (40 < y.1.2.1) then (40 : Int) else y.1.2.1) = m ∧ 3 ≤ m ∧ m ≤ y.1.2.1 ∧ m ≤ 1000 := by
        by_cases h40 : 40 < y.1.2.1
        · exact ⟨40, by simp [h40], by omega, by omega, by omega⟩
        · exact ⟨y.1.2.1, by simp [h40], by omega, by omega, by omega⟩
      rw [hm]
      obtain ⟨o1, o2, o3⟩ := order_facts y.2 m (by omega)
      have c1 : (0 : Int) ≤ m := by omega
      obtain ⟨e, l1, rfl⟩ := checks_loop y (order y.2 m) m hb hv m1 m2 o1 o2 o3
      simp only [w1, c1, m3, decide_true, Bool.and_self, on_true, Option.bind_some, l1, cond_false]
  · simp only [hc, decide_false, Bool.not_false, Bool.not_true, cond_false, Option.bind_some, cond_true]

theorem bursts_loop (y : Int × Tp) (a : S) (b : S) (t : Tp) (hv : valid a = true) (hb : bytesOk b.1) (hvb : valid b = true) (hbits : b.2.1 = a.2.1) (hw : wf t = true) (h0 : 0 ≤ y.1) (h1 : y.1 + 16 ≤ a.2.1)
    (hd : crcW (Sp02.bits a) ^^^ crcW (Sp02.bits b) = iter (a.2.1.toNat - y.1.toNat) X) :
    ∃ e, Loop (g6_s0 y) ((1 : Int), b, t, ()) = some e ∧ (valid e.1 = true ∧ crcW (Sp02.bits a) ≠ crcW (Sp02.bits e.1)) := by
  obtain ⟨v1, v2, v3, v4⟩ := valid_iff.1 hv
  refine Loop_post (fun v : Int × S × Tp × Unit => 1 ≤ v.1 ∧ v.1 ≤ 16 ∧ bytesOk v.2.1.1 ∧ valid v.2.1 = true ∧ v.2.1.2.1 = a.2.1 ∧ wf v.2.2.1 = true ∧
      ∃ w : List Bool, w.length + 1 = v.1.toNat ∧ crcW (Sp02.bits a) ^^^ crcW (Sp02.bits v.2.1) = iter (a.2.1.toNat - y.1.toNat - v.1.toNat) ((true :: w).foldl stepW 0#16)) (fun v : Int × S × Tp × Unit => (16 - v.1).toNat) _ ?_ (v := (1, b, t, ()))
    ⟨by simp, by simp, hb, hvb, hbits, hw, [], rfl, ?_⟩
  · rintro ⟨i, b, t, ⟨⟩⟩ ⟨k1, k2, k3, k4, k5, k6, w, k7, k8⟩
    simp only at k1 k2 k3 k4 k5 k6 k7 k8
    obtain ⟨w1, w2, w3, w4⟩ := valid_iff.1 k4
    unfold g6_s0
    by_cases h : i < 16
    · right
      have e1 : IntKind.wrap .i64 (y.1 + i) = y.1 + i := wi64 (by omega) (by omega)
      have e2 : IntKind.wrap .i64 (i + 1) = i + 1 := wi64 (by omega) (by omega)
      have c1 : (0 : Int) ≤ y.1 + i := by omega
      have c2 : y.1 + i < 8 * (b.1.length : Int) := by omega
      have hk : a.2.1.toNat - y.1.toNat - i.toNat = (a.2.1.toNat - y.1.toNat - (i + 1).toNat) + 1 := by omega
      have wn := next_wf (n := 2) k6
      simp only [h, decide_true, cond_true, k6, on_true, Option.bind_some, e1, e2, c1, c2, Bool.and_self, Int.ofNat_eq_natCast]
      by_cases hbit : (next t 2).1 = 1
      · obtain ⟨f1, f2, f3, f4, f5⟩ := flip_facts k3 k4 c1 (by omega)
        simp only [hbit, decide_true, cond_true, Option.bind_some]
        refine ⟨_, rfl, ⟨by simp only; omega, by simp only; omega, f1, f2, f3.trans k5, wn, w ++ [true], by simp; omega, ?_⟩, by simp only; omega⟩
        simp only
        have h1 := crcW_tog (bs := Sp02.bits b) (p := (y.1 + i).toNat) (by rw [bits_length]; omega)
        rw [bits_length, k5, ← f5] at h1
        have e : crcW (Sp02.bits a) ^^^ crcW (Sp02.bits (Sp02.flip b (y.1 + i))) = (crcW (Sp02.bits a) ^^^ crcW (Sp02.bits b)) ^^^ (crcW (Sp02.bits b) ^^^ crcW (Sp02.bits (Sp02.flip b (y.1 + i)))) := by
          rw [BitVec.xor_assoc, ← BitVec.xor_assoc (crcW (Sp02.bits b)), BitVec.xor_self, BitVec.zero_xor]
        rw [e, k8, h1, ← List.cons_append, fold_append_zero, show a.2.1.toNat - (y.1 + i).toNat = a.2.1.toNat - y.1.toNat - i.toNat by omega, ← iter_xor, hk]
        rfl
      · simp only [hbit, decide_false, cond_false, Option.bind_some]
        refine ⟨_, rfl, ⟨by simp only; omega, by simp only; omega, k3, k4, k5, wn, w ++ [false], by simp; omega, ?_⟩, by simp only; omega⟩
        simp only
        rw [k8, ← List.cons_append, fold_append_zero, hk]
        have : bx false = 0#16 := rfl
        rw [this, BitVec.xor_zero]
        rfl
    · left
      refine ⟨(b, ()), by simp only [h, decide_false, cond_false], k4, fun hc => ?_⟩
      rw [hc] at k8
      simp only at k8
      rw [BitVec.xor_self] at k8
      exact burst_ne (by omega) (iter_inj k8.symm)
  · simp only
    rw [hd, show a.2.1.toNat - y.1.toNat = (a.2.1.toNat - y.1.toNat - (1 : Int).toNat) + 1 by omega]
    rfl

theorem g6_ok (a0 : (List Int)) (r0 : (Ty.sl (.int .i64)).ok a0) : g6 a0 = some (true, ()) := by
  unfold g6
  rw [stream_on a0 120 0 (by omega) (by omega) rfl]
  have w1 := stream_wf (m := 120) (n := 0) (tape_wf a0)
  have hb := stream_ok (Sp02.tape a0) 120 0
  have hv : valid (stream (Sp02.tape a0) 120 0).1 = true := by
    unfold stream
    simp only [show decide ((0 : Int) < 0) = false from rfl, cond_false]
    refine valid_enc ?_
    rw [bitsN_length]
    have := range_in (t := Sp02.tape a0) (a := 0) (b := 120) (by omega)
    simp; omega
  simp only [Option.bind_some]
  generalize hy : stream (Sp02.tape a0) 120 0 = y at w1 hb hv
  obtain ⟨v1, v2, v3, v4⟩ := valid_iff.1 hv
  by_cases h16 : y.1.2.1 < 16
  · simp only [h16, decide_true, cond_true]
  · have e1 : IntKind.wrap .i64 (y.1.2.1 - 15) = y.1.2.1 - 15 := wi64 (by omega) (by omega)
    have hr := next_range (t := y.2) (n := y.1.2.1 - 15) (by omega)
    have w2 := next_wf (n := y.1.2.1 - 15) w1
    have c1 : (next y.2 (y.1.2.1 - 15)).1 < 8 * (y.1.1.length : Int) := by omega
    obtain ⟨f1, f2, f3, f4, f5⟩ := flip_facts hb hv hr.1 (by omega)
    have h1 := crcW_tog (bs := Sp02.bits y.1) (p := (next y.2 (y.1.2.1 - 15)).1.toNat) (by rw [bits_length]; omega)
    rw [bits_length, ← f5] at h1
    obtain ⟨e, l1, l2, l3⟩ := bursts_loop (next y.2 (y.1.2.1 - 15)) y.1 (Sp02.flip y.1 (next y.2 (y.1.2.1 - 15)).1) (next y.2 (y.1.2.1 - 15)).2 hv f1 f2 f3 w2 hr.1 (by omega) h1
    have hcne : ¬ ((crcW (Sp02.bits y.1)).toNat : Int) = ((crcW (Sp02.bits e.1)).toNat : Int) := by
      intro hc
      exact l3 (BitVec.eq_of_toNat_eq (by omega))
    simp only [h16, decide_false, cond_false, w1, on_true, Option.bind_some, e1, hr.1, c1, decide_true, Bool.and_self, Int.ofNat_eq_natCast, l1, check_valid hv, check_valid l2, hcne, Bool.not_false, cond_true]
end Go.Abs.C02

/- Chapter 02: the laws keep the contract. -/
namespace Go.Abs.C02
open Go Go.Proofs
theorem ok5 : FunOk Try.prog B 5 c5 := glue L33 all33 plan5 Try.func5 (by kernel_rfl) (by
  rintro ⟨⟨⟩, a0, ⟨a1, a2, ⟨⟩⟩, ⟨⟩⟩ y r h
  exact (g5_eq a0 a1 a2).trans ((g5_ok a0 a1 a2 r.2.1 r.2.2.1.1 r.2.2.1.2.1).trans h))
theorem ok6 : FunOk Try.prog B 6 c6 := glue L33 all33 plan6 Try.func6 (by kernel_rfl) (by
  rintro ⟨⟨⟩, a0, ⟨⟩⟩ y r h
  exact (g6_eq a0).trans ((g6_ok a0 r.2.1).trans h))
theorem ok7 : FunOk Try.prog B 7 c7 := glue L33 all33 plan7 Try.func7 (by kernel_rfl) (by
  rintro ⟨⟨⟩, a0, ⟨⟩⟩ y r h
  exact (g7_eq a0).trans ((g7_ok a0 r.2.1).trans h))
theorem ok8 : FunOk Try.prog B 8 c8 := glue L33 all33 plan8 Try.func8 (by kernel_rfl) (by
  rintro ⟨⟨⟩, a0, a1, ⟨⟩⟩ y r h
  exact (g8_eq a0 a1).trans ((g8_ok a0 a1 r.2.1 r.2.2.1).trans h))
theorem ok9 : FunOk Try.prog B 9 c9 := glue L33 all33 plan9 Try.func9 (by kernel_rfl) (by
  rintro ⟨⟨⟩, a0, ⟨⟩⟩ y r h
  exact (g9_eq a0).trans ((g9_ok a0 r.2.1).trans h))
theorem ok10 : FunOk Try.prog B 10 c10 := glue L33 all33 plan10 Try.func10 (by kernel_rfl) (by
  rintro ⟨⟨⟩, a0, a1, a2, ⟨⟩⟩ y r h
  exact (g10_eq a0 a1 a2).trans ((g10_ok a0 a1 a2 r.2.1 r.2.2.1 r.2.2.2.1).trans h))
end Go.Abs.C02
