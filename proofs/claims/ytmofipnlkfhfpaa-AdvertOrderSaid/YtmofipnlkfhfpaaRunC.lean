/- Chapter 07: proved is that each function that the laws reach keeps its contract; no conditions but those that each theorem states. -/
import Derived.Test.YtmofipnlkfhfpaaRunB
import Derived.Lib.Bytealg
import Derived.KernelRfl
set_option linter.unusedVariables false
set_option linter.unusedSimpArgs false
/- Chapter 07: the functions keep their contracts: reading. -/
namespace Go.Abs.C07
open Go Go.Proofs Sp07
set_option maxRecDepth 100000

theorem take_range (s : S) (p n : Int) (h : n ≤ 63) : 0 ≤ (Sp07.take s p n).1 ∧ (Sp07.take s p n).1 < 9223372036854775808 := by
  unfold Sp07.take
  cases Sp07.valid s with
  | false => simp
  | true =>
    by_cases h1 : (decide (n < 0) || decide (64 < n) || decide (p < 0)) = true
    · simp [h1]
    · by_cases h2 : s.2.1 - n < p
      · simp [h1, h2]
      · simp only [Bool.not_eq_true] at h1
        simp only [h1, h2, decide_false, cond_false, Bool.not_true]
        have k := valOf_lt (bitsR s.1 p.toNat n.toNat)
        rw [bitsR_length] at k
        have k2 : 2 ^ n.toNat ≤ 2 ^ 63 := Nat.pow_le_pow_right (by decide) (by omega)
        have k3 : (2 : Nat) ^ 63 = 9223372036854775808 := by decide
        omega

theorem g42_ok (a0 : (List Int)) (a1 : Int) (a2 : Int) (a3 : Bool) (a4 : Int) (r0 : (Ty.sl (.int .u8)).ok a0) (r1 : IntKind.i64.has a1) (r2 : IntKind.i64.has a2) (r4 : IntKind.i64.has a4) (h : (Sp07.inside a4 0 63 && Sp07.inside a2 0 100000) = true) : g42 a0 a1 a2 a3 a4 = some (Sp07.rtake (a0, a1, a2, a3, ()) a4) := by
  rw [Bool.and_eq_true, inside_iff, inside_iff] at h
  have k := take_range (a0, a1, ()) a2 a4 h.1.2
  have e1 : IntKind.wrap .i64 (Sp07.take (a0, a1, ()) a2 a4).1 = (Sp07.take (a0, a1, ()) a2 a4).1 := wi64 (by omega) (by omega)
  have e2 : IntKind.wrap .i64 (a2 + a4) = a2 + a4 := wi64 (by omega) (by omega)
  unfold g42 rtake
  simp only [e1]
  cases a3 <;> simp [e2]

theorem g46_ok (a0 : (List Int)) (a1 : Int) (a2 : Int) (a3 : Int) (r0 : (Ty.sl (.int .u8)).ok a0) (r1 : IntKind.i64.has a1) (r2 : IntKind.i64.has a2) (r3 : IntKind.i64.has a3) (h : (Sp07.inside a3 0 63) = true) : g46 a0 a1 a2 a3 = some (Sp07.getR (a0, a1, ()) a2 a3, ()) := by
  rw [inside_iff] at h
  have k := take_range (a0, a1, ()) a2 a3 h.2
  have e1 : IntKind.wrap .i64 (Sp07.take (a0, a1, ()) a2 a3).1 = (Sp07.take (a0, a1, ()) a2 a3).1 := wi64 (by omega) (by omega)
  unfold g46 getR
  rw [e1]
  by_cases hq : (Sp07.take (a0, a1, ()) a2 a3).2.1 = 0 <;> simp [hq]

theorem valid_bytes {l : List Int} (h : l.length ≤ 1024) : valid (l, 8 * (l.length : Int), ()) = true := by
  refine valid_iff.2 ⟨by simp only; omega, by simp only; omega, by simp only; omega, fun i hi => bitAt_ge ?_⟩
  simp only at hi ⊢
  omega
theorem take_bytes {l : List Int} (h : l.length ≤ 1024) (p n : Nat) (hn : n ≤ 64) : Sp07.take (l, 8 * (l.length : Int), ()) p n = bif decide (p + n ≤ 8 * l.length) then (gv l p n, 0, ()) else (0, 20, ()) := by
  unfold Sp07.take
  have c1 : ¬ (n : Int) < 0 := by omega
  have c2 : ¬ 64 < (n : Int) := by omega
  have c3 : ¬ (p : Int) < 0 := by omega
  rw [valid_bytes h]
  by_cases hq : p + n ≤ 8 * l.length
  · have c4 : ¬ 8 * (l.length : Int) - n < p := by omega
    simp only [c1, c2, c3, c4, decide_false, Bool.not_true, cond_false, Bool.or_self, hq, decide_true, cond_true, gv, Int.toNat_natCast]
  · have c4 : 8 * (l.length : Int) - n < p := by omega
    simp only [c1, c2, c3, c4, decide_false, Bool.not_true, cond_false, Bool.or_self, hq, decide_true, cond_true]

theorem gv_range (l : List Int) (p w : Nat) : 0 ≤ gv l p w ∧ gv l p w < (2 ^ w : Nat) := by
  unfold gv
  by_cases h : p + w ≤ 8 * l.length
  · have k := valOf_lt (bitsR l p w)
    rw [bitsR_length] at k
    simp only [h, decide_true, cond_true]
    omega
  · have := Nat.two_pow_pos w
    simp only [h, decide_false, cond_false]
    omega
theorem nL_lt (l : List Int) : nL l < 32 := by
  have := gv_range l 28 5
  unfold nL
  have k : 2 ^ 5 = 32 := by decide
  omega
theorem nC_lt (l : List Int) : nC l < 16 := by
  have := gv_range l (atC l) 4
  unfold nC
  have k : 2 ^ 4 = 16 := by decide
  omega
theorem atC_le (l : List Int) : 33 ≤ atC l ∧ atC l ≤ 870 := by
  have := nL_lt l
  unfold atC
  omega
theorem end_le (l : List Int) : 37 ≤ endB l ∧ endB l ≤ 1084 := by
  have := nC_lt l
  have := atC_le l
  unfold endB
  omega

/-- The reader over bytes, at a place. -/
def rst (l : List Int) (p : Nat) : Rd := (l, 8 * (l.length : Int), p, decide (8 * l.length < p), ())
theorem rd {l : List Int} (h : l.length ≤ 1024) (p n : Nat) (hn : n ≤ 64) : rtake (rst l p) n = (gv l p n, rst l (p + n)) := by
  unfold rtake rst
  simp only
  rw [take_bytes h p n hn]
  by_cases hq : p + n ≤ 8 * l.length
  · have c1 : ¬ 8 * l.length < p := by omega
    have c2 : ¬ 8 * l.length < p + n := by omega
    simp [hq, c1, c2]
  · have c2 : 8 * l.length < p + n := by omega
    simp [hq, c2, gv]
theorem on_rd {l : List Int} (h : l.length ≤ 1024) (p n : Nat) (w : Int) (hw : w = n) (hn : n ≤ 63) (hp : p ≤ 100000) : on (inside w 0 63 && inside (rst l p).2.2.1 0 100000) (rtake (rst l p) w) = some (gv l p n, rst l (p + n)) := by
  subst hw
  rw [rd h p n (by omega)]
  exact on_true (by rw [Bool.and_eq_true, inside_iff, inside_iff]; simp only [rst]; omega)

/-! A front part reads the same. -/
theorem bitAt_take (l : List Int) (m i : Nat) (h : i < 8 * m) : bitAt (l.take m) i = bitAt l i := by
  unfold bitAt
  congr 1
  simp only [List.getD_eq_getElem?_getD]
  rw [List.getElem?_take_of_lt (by omega)]
theorem bitsR_take (l : List Int) (m p n : Nat) (h : p + n ≤ 8 * m) : bitsR (l.take m) p n = bitsR l p n := by
  unfold bitsR
  refine List.map_congr_left fun j hj => ?_
  rw [List.mem_range] at hj
  exact bitAt_take l m _ (by omega)
theorem gv_cut (l : List Int) (m p n : Nat) (h : p + n ≤ 8 * m) : gv (l.take m) p n = gv l p n := by
  unfold gv
  rw [bitsR_take l m p n h, List.length_take]
  have : (p + n ≤ 8 * min m l.length) = (p + n ≤ 8 * l.length) := propext (by omega)
  simp only [this]
theorem nL_cut (l : List Int) (m : Nat) (h : 200 ≤ m) : nL (l.take m) = nL l := by
  unfold nL
  rw [gv_cut _ _ _ _ (by omega)]
theorem atC_cut (l : List Int) (m : Nat) (h : 200 ≤ m) : atC (l.take m) = atC l := by
  unfold atC
  rw [nL_cut l m h]
theorem nC_cut (l : List Int) (m : Nat) (h : 200 ≤ m) : nC (l.take m) = nC l := by
  have := atC_le l
  unfold nC
  rw [atC_cut l m h, gv_cut _ _ _ _ (by omega)]
theorem end_cut (l : List Int) (m : Nat) (h : 200 ≤ m) : endB (l.take m) = endB l := by
  unfold endB
  rw [atC_cut l m h, nC_cut l m h]
theorem fields_cut (l : List Int) (m : Nat) (h : 200 ≤ m) : fields (l.take m) = fields l := by
  have h1 := nL_lt l
  have h2 := nC_lt l
  have h3 := atC_le l
  unfold fields
  rw [nL_cut l m h, nC_cut l m h, atC_cut l m h, gv_cut _ _ _ _ (by omega), gv_cut _ _ _ _ (by omega), gv_cut _ _ _ _ (by omega)]
  have e1 : (List.range (nL l)).map (fun i => rdL (l.take m) (33 + 27 * i)) = (List.range (nL l)).map (fun i => rdL l (33 + 27 * i)) := by
    refine List.map_congr_left fun j hj => ?_
    rw [List.mem_range] at hj
    unfold rdL
    rw [gv_cut _ _ _ _ (by omega), gv_cut _ _ _ _ (by omega), gv_cut _ _ _ _ (by omega)]
  have e2 : (List.range (nC l)).map (fun i => rdC (l.take m) (atC l + 4 + 14 * i)) = (List.range (nC l)).map (fun i => rdC l (atC l + 4 + 14 * i)) := by
    refine List.map_congr_left fun j hj => ?_
    rw [List.mem_range] at hj
    unfold rdC
    rw [gv_cut _ _ _ _ (by omega), gv_cut _ _ _ _ (by omega), gv_cut _ _ _ _ (by omega)]
  rw [e1, e2]

/-! The loops of the reader. -/
theorem room {n : Nat} (h : n ≤ 1000) : Nat.ble ((n + 1) * 24) 140737488355328 = true := ble_t (by omega)
theorem rlinks {l : List Int} (h : l.length ≤ 1024) : ∀ (k p : Nat) (ad : Ad), p + 27 * k ≤ 5000 → ad.2.2.2.1.length + k ≤ 100 →
    Loop g16_s0 (rst l p, ad, (k : Int), ()) = some (rst l (p + 27 * k), (ad.1, ad.2.1, ad.2.2.1, ad.2.2.2.1 ++ (List.range k).map (fun i => rdL l (p + 27 * i)), ad.2.2.2.2), ()) := by
  intro k
  induction k with
  | zero =>
    intro p ad h1 h2
    rw [Loop_step]
    have : g16_s0 (rst l p, ad, ((0 : Nat) : Int), ()) = some (.inr (rst l p, ad, ())) := rfl
    rw [this]
    simp
  | succ k ih =>
    intro p ad h1 h2
    have hs : g16_s0 (rst l p, ad, ((k + 1 : Nat) : Int), ()) = some (.inl (rst l (p + 27), (ad.1, ad.2.1, ad.2.2.1, ad.2.2.2.1 ++ [rdL l p], ad.2.2.2.2), (k : Int), ())) := by
      have c : ((k + 1 : Nat) : Int) > 0 := by omega
      have e : IntKind.wrap .i64 (((k + 1 : Nat) : Int) - 1) = (k : Int) := by rw [wi64 (by omega) (by omega)]; omega
      unfold g16_s0
      simp only [c, decide_true, cond_true, on_rd h p 7 7 rfl (by decide) (by omega), Option.bind_some, on_rd h (p + 7) 10 10 rfl (by decide) (by omega), on_rd h (p + 7 + 10) 10 10 rfl (by decide) (by omega), e, room (n := ad.2.2.2.1.length) (by omega)]
      rfl
    rw [Loop_step, hs]
    simp only
    rw [ih (p + 27) _ (by omega) (by simp only [List.length_append, List.length_singleton]; omega)]
    simp only [List.append_assoc, List.singleton_append]
    rw [List.range_succ_eq_map, List.map_cons, List.map_map]
    have e1 : p + 27 + 27 * k = p + 27 * (k + 1) := by omega
    have e2 : (fun i => rdL l (p + 27 + 27 * i)) = (fun i => rdL l (p + 27 * i)) ∘ Nat.succ := by
      funext i
      simp only [Function.comp]
      congr 1
      omega
    rw [e1, e2]
    simp
theorem dec_run {y : Int} (h0 : 0 ≤ y) (h : y < 4) : IntKind.wrap .i64 (8 * Int.pow 2 (min y.toNat 64)) = decoded y := by
  have : y = 0 ∨ y = 1 ∨ y = 2 ∨ y = 3 := by omega
  rcases this with rfl | rfl | rfl | rfl <;> rfl
theorem gv2 (l : List Int) (p : Nat) : 0 ≤ gv l p 2 ∧ gv l p 2 < 4 := gv_range l p 2
theorem rclaims {l : List Int} (h : l.length ≤ 1024) : ∀ (k p : Nat) (ad : Ad), p + 14 * k ≤ 5000 → ad.2.2.2.2.1.length + k ≤ 100 →
    Loop g16_s1 ((k : Int), ad, rst l p, ()) = some ((ad.1, ad.2.1, ad.2.2.1, ad.2.2.2.1, ad.2.2.2.2.1 ++ (List.range k).map (fun i => rdC l (p + 14 * i)), ()), rst l (p + 14 * k), ()) := by
  intro k
  induction k with
  | zero =>
    intro p ad h1 h2
    rw [Loop_step]
    have : g16_s1 (((0 : Nat) : Int), ad, rst l p, ()) = some (.inr (ad, rst l p, ())) := rfl
    rw [this]
    simp
  | succ k ih =>
    intro p ad h1 h2
    have hs : g16_s1 (((k + 1 : Nat) : Int), ad, rst l p, ()) = some (.inl ((k : Int), (ad.1, ad.2.1, ad.2.2.1, ad.2.2.2.1, ad.2.2.2.2.1 ++ [rdC l p], ()), rst l (p + 14), ())) := by
      have c : ((k + 1 : Nat) : Int) > 0 := by omega
      have e : IntKind.wrap .i64 (((k + 1 : Nat) : Int) - 1) = (k : Int) := by rw [wi64 (by omega) (by omega)]; omega
      have g := gv2 l (p + 3 + 9)
      unfold g16_s1
      simp only [c, decide_true, cond_true, on_rd h p 3 3 rfl (by decide) (by omega), Option.bind_some, on_rd h (p + 3) 9 9 rfl (by decide) (by omega), on_rd h (p + 3 + 9) 2 2 rfl (by decide) (by omega), e, room (n := ad.2.2.2.2.1.length) (by omega), dec_run g.1 g.2, g.1]
      rfl
    rw [Loop_step, hs]
    simp only
    rw [ih (p + 14) _ (by omega) (by simp only [List.length_append, List.length_singleton]; omega)]
    simp only [List.append_assoc, List.singleton_append]
    rw [List.range_succ_eq_map, List.map_cons, List.map_map]
    have e1 : p + 14 + 14 * k = p + 14 * (k + 1) := by omega
    have e2 : (fun i => rdC l (p + 14 + 14 * i)) = (fun i => rdC l (p + 14 * i)) ∘ Nat.succ := by
      funext i
      simp only [Function.comp]
      congr 1
      omega
    rw [e1, e2]
    simp
theorem check_slice {l : List Int} (h : l.length ≤ 1024) {e : Nat} (he : e ≤ 8 * l.length) : IntKind.wrap .i64 (Sp07.check (Sp07.slice (l, 8 * (l.length : Int), ()) 0 e).1).1 = (crc (bitsR l 0 e) : Nat) := by
  have hs : (Sp07.slice (l, 8 * (l.length : Int), ()) 0 e).1 = Sp07.enc (bitsR l 0 e) := by
    unfold Sp07.slice
    have c1 : ¬ (0 : Int) < 0 := by omega
    have c2 : ¬ (e : Int) < 0 := by omega
    have c3 : ¬ 8 * (l.length : Int) < e := by omega
    rw [valid_bytes h]
    simp only [c1, c2, c3, decide_false, Bool.not_true, cond_false, Bool.or_self]
    simp
  have hl : (bitsR l 0 e).length ≤ 8192 := by rw [bitsR_length]; omega
  rw [hs]
  unfold Sp07.check
  rw [valid_enc hl, bits_enc]
  have := crc_small (bitsR l 0 e)
  simp only [Bool.not_true, cond_false]
  exact wi64 (by omega) (by omega)
theorem free_end : ∀ e : Fin 1100, IntKind.wrap .i64 (Int.ofNat (BitVec.and (BitVec.ofInt 64 (IntKind.wrap .i64 (0 - (((e.val + 16 : Nat)) : Int)))) (BitVec.ofInt 64 7)).toNat) = ((free e.val : Nat) : Int) := by decide +kernel
theorem free_le (e : Nat) : free e ≤ 7 ∧ e + 16 + free e = 8 * ((e + 23) / 8) := by unfold free; omega
theorem gvN (l : List Int) (p w : Nat) : gv l p w = ((gv l p w).toNat : Nat) := (Int.toNat_of_nonneg (gv_range l p w).1).symm
end Go.Abs.C07

/- Chapter 07: the functions keep their contracts: reading an advert. -/
namespace Go.Abs.C07
open Go Go.Proofs Sp07
set_option maxRecDepth 100000

theorem front (l : List Int) : List.drop 0 (List.take (Int.toNat (bif decide ((1024 : Int) < Int.ofNat l.length) then (1024 : Int) else Int.ofNat l.length)) l) = l.take 1024 := by
  rw [List.drop_zero]
  by_cases h : (1024 : Int) < Int.ofNat l.length
  · simp only [h, decide_true, cond_true]; rfl
  · have h' : l.length ≤ 1024 := by simp only [Int.ofNat_eq_natCast] at h; omega
    rw [decide_eq_false h]
    simp only [cond_false, Int.ofNat_eq_natCast, Int.toNat_natCast]
    rw [List.take_of_length_le (Nat.le_refl _), List.take_of_length_le h']

theorem nL_cast (l : List Int) : gv l 28 5 = (nL l : Int) := gvN l 28 5
theorem nC_cast (l : List Int) : gv l (atC l) 4 = (nC l : Int) := gvN l _ 4

theorem g16_ok (a0 : (List Int)) (r0 : (Ty.sl (.int .u8)).ok a0) : g16 a0 = some (Sp07.decode a0, ()) := by
  have hlen := (dat r0).1
  have hb : (a0.take 1024).length ≤ 1024 := by rw [List.length_take]; omega
  have e0 : IntKind.wrap .i64 (8 * Int.ofNat (a0.take 1024).length) = 8 * ((a0.take 1024).length : Int) := wi64 (by simp only [Int.ofNat_eq_natCast]; omega) (by simp only [Int.ofNat_eq_natCast]; omega)
  have c0 : (true && (decide ((0 : Int) ≤ (bif (decide ((1024 : Int) < (Int.ofNat a0.length))) then (1024 : Int) else (Int.ofNat a0.length)))) && (decide ((bif (decide ((1024 : Int) < (Int.ofNat a0.length))) then (1024 : Int) else (Int.ofNat a0.length)) ≤ (Int.ofNat a0.length)))) = true := by
    by_cases h : (1024 : Int) < Int.ofNat a0.length
    · simp only [h, decide_true, cond_true, Bool.true_and, Bool.and_eq_true, decide_eq_true_eq]
      simp only [Int.ofNat_eq_natCast] at h ⊢
      omega
    · simp only [h, decide_false, cond_false, Bool.true_and, Bool.and_eq_true, decide_eq_true_eq]
      simp only [Int.ofNat_eq_natCast] at h ⊢
      omega
  have st : ((a0.take 1024), 8 * ((a0.take 1024).length : Int), (0 : Int), false, ()) = rst (a0.take 1024) 0 := by
    unfold rst
    simp
  unfold g16
  rw [c0]
  simp only [cond_true, front, e0]
  rw [st]
  have e1 := nL_lt (a0.take 1024)
  have e2 := nC_lt (a0.take 1024)
  have e3 := atC_le (a0.take 1024)
  have e4 := end_le (a0.take 1024)
  have f1 : 33 + 27 * nL (a0.take 1024) = atC (a0.take 1024) := rfl
  have f2 : atC (a0.take 1024) + 4 + 14 * nC (a0.take 1024) = endB (a0.take 1024) := rfl
  have i0 : on (inside 7 0 63 && inside (0 : Int) 0 100000) (rtake (rst (a0.take 1024) 0) 7) = some (gv (a0.take 1024) 0 7, rst (a0.take 1024) 7) := on_rd hb 0 7 7 rfl (by decide) (by omega)
  simp only [i0, Option.bind_some, on_rd hb 7 20 20 rfl (by decide) (by omega), on_rd hb (7 + 20) 1 1 rfl (by decide) (by omega), on_rd hb (7 + 20 + 1) 5 5 rfl (by decide) (by omega)]
  rw [nL_cast, rlinks hb _ _ _ (by omega) (by simp only [List.length_nil]; omega)]
  simp only [Option.bind_some, f1]
  rw [on_rd hb _ 4 4 rfl (by decide) (by omega)]
  simp only [Option.bind_some]
  rw [nC_cast, rclaims hb _ _ _ (by omega) (by simp only [List.length_nil]; omega)]
  simp only [Option.bind_some, f2]
  rw [on_rd hb _ 16 16 rfl (by decide) (by omega)]
  simp only [Option.bind_some]
  have hf : ((gv (a0.take 1024) 0 7, gv (a0.take 1024) 7 20, decide (gv (a0.take 1024) (7 + 20) 1 = 1), [] ++ (List.range (nL (a0.take 1024))).map (fun i => rdL (a0.take 1024) (7 + 20 + 1 + 5 + 27 * i)), [] ++ (List.range (nC (a0.take 1024))).map (fun i => rdC (a0.take 1024) (atC (a0.take 1024) + 4 + 14 * i)), ()) : Ad) = fields a0 := by
    rw [← fields_cut a0 1024 (by decide)]
    rfl
  rw [hf]
  have hfr : (rst (a0.take 1024) (endB (a0.take 1024) + 16)).2.2.1 = ((endB (a0.take 1024) + 16 : Nat) : Int) := rfl
  rw [hfr, free_end ⟨endB (a0.take 1024), by omega⟩]
  have hfl := free_le (endB (a0.take 1024))
  have hon := on_rd hb (endB (a0.take 1024) + 16) (free (endB (a0.take 1024))) _ rfl (by omega) (by omega)
  rw [hfr] at hon
  simp only
  rw [hon]
  simp only [Option.bind_some]
  have ec : endB (a0.take 1024) = endB a0 := end_cut a0 1024 (by decide)
  have hbad : (rst (a0.take 1024) (endB (a0.take 1024) + 16)).2.2.2.1 = decide (8 * a0.length < endB a0 + 16) := by
    show decide (8 * (a0.take 1024).length < endB (a0.take 1024) + 16) = _
    rw [List.length_take, ec]
    rw [ec] at e4
    congr 1
    exact propext (by omega)
  rw [hbad]
  unfold Sp07.decode
  by_cases hs : 8 * a0.length < endB a0 + 16
  · simp only [hs, decide_true, cond_true]
    rfl
  simp only [hs, decide_false, cond_false]
  rw [ec] at e4 hfl
  rw [ec]
  have hlb : endB a0 ≤ 8 * (a0.take 1024).length := by rw [List.length_take]; omega
  have hck := check_slice hb hlb
  rw [bitsR_take a0 1024 0 _ (by omega)] at hck
  have g1 : gv (a0.take 1024) (endB a0) 16 = gv a0 (endB a0) 16 := gv_cut _ _ _ _ (by omega)
  have g2 : gv (a0.take 1024) (endB a0 + 16) (free (endB a0)) = gv a0 (endB a0 + 16) (free (endB a0)) := gv_cut _ _ _ _ (by omega)
  have hck2 : IntKind.wrap .i64 (Sp07.check (Sp07.slice ((rst (a0.take 1024) (endB a0 + 16)).1, (rst (a0.take 1024) (endB a0 + 16)).2.1, ()) 0 (rst (a0.take 1024) (endB a0)).2.2.1).1).1 = (crc (bitsR a0 0 (endB a0)) : Nat) := hck
  rw [hck2, g1, g2]
  have hl8 : IntKind.wrap .i64 (8 * Int.ofNat a0.length) = 8 * (a0.length : Int) := wi64 (by simp only [Int.ofNat_eq_natCast]; omega) (by simp only [Int.ofNat_eq_natCast]; omega)
  rw [hl8]
  have hend : decide (8 * (a0.length : Int) > (rst (a0.take 1024) (endB a0 + 16 + free (endB a0))).2.2.1) = decide (8 * ((endB a0 + 23) / 8) < 8 * a0.length) := by
    show decide (8 * (a0.length : Int) > ((endB a0 + 16 + free (endB a0) : Nat) : Int)) = _
    congr 1
    exact propext (by omega)
  rw [hend]
  cases decide (gv a0 (endB a0) 16 = ((crc (bitsR a0 0 (endB a0)) : Nat) : Int)) with
  | false => rfl
  | true =>
    cases decide (gv a0 (endB a0 + 16) (free (endB a0)) = 0) with
    | false => rfl
    | true =>
      cases decide (8 * ((endB a0 + 23) / 8) < 8 * a0.length) with
      | true => rfl
      | false => cases Sp07.validA (fields a0) <;> rfl
end Go.Abs.C07

/- Chapter 07: the functions keep their contracts: the reference reads an advert. -/
namespace Go.Abs.C07
open Go Go.Proofs Sp07
set_option maxRecDepth 100000

theorem wp {P : Int} (p : Nat) (h : P = p) (hp : p ≤ 1000000) : IntKind.wrap .i64 P = (p : Int) := by
  subst h
  exact wi64 (by omega) (by omega)
theorem get_bytes {l : List Int} (h : l.length ≤ 1024) (p n : Nat) (hn : n ≤ 64) : getR (l, 8 * (l.length : Int), ()) p n = bif decide (p + n ≤ 8 * l.length) then gv l p n else -1 := by
  unfold getR
  rw [take_bytes h p n hn]
  cases decide (p + n ≤ 8 * l.length) <;> rfl
theorem on_get {l : List Int} (h : l.length ≤ 1024) (p n : Nat) (w : Int) (hw : w = n) (hn : n ≤ 63) (hi : p + n ≤ 8 * l.length) : on (inside w 0 63) (getR (l, 8 * (l.length : Int), ()) p w, ()) = some (gv l p n, ()) := by
  subst hw
  rw [get_bytes h p n (by omega), decide_eq_true hi]
  exact on_true (inside_iff.2 (by omega))
theorem on_no {l : List Int} (h : l.length ≤ 1024) (p n : Nat) (w : Int) (hw : w = n) (hn : n ≤ 63) (hi : ¬ p + n ≤ 8 * l.length) : on (inside w 0 63) (getR (l, 8 * (l.length : Int), ()) p w, ()) = some (-1, ()) := by
  subst hw
  rw [get_bytes h p n (by omega), decide_eq_false hi]
  exact on_true (inside_iff.2 (by omega))
theorem len8 {l : List Int} (h : l.length ≤ 1024) : IntKind.wrap .i64 (8 * Int.ofNat l.length) = 8 * (l.length : Int) := wi64 (by simp only [Int.ofNat_eq_natCast]; omega) (by simp only [Int.ofNat_eq_natCast]; omega)

theorem rlinks2 {l : List Int} (h : l.length ≤ 1024) (x : Int) (N : Nat) (hN : N ≤ 100) (hl : 33 + 27 * N ≤ 8 * l.length) : ∀ (k i : Nat) (ad : Ad), i + k = N → ad.2.2.2.1.length + k ≤ 100 →
    Loop (g20_s0 (x, l, ()) ((N : Int), ())) (ad, (i : Int), ()) = some ((ad.1, ad.2.1, ad.2.2.1, ad.2.2.2.1 ++ (List.range k).map (fun j => rdL l (33 + 27 * (i + j))), ad.2.2.2.2), ()) := by
  intro k
  induction k with
  | zero =>
    intro i ad h1 h2
    rw [Loop_step]
    have c : ¬ (i : Int) < (N : Int) := by omega
    have : g20_s0 (x, l, ()) ((N : Int), ()) (ad, (i : Int), ()) = some (.inr (ad, ())) := by
      unfold g20_s0
      simp only [c, decide_false, cond_false]
    rw [this]
    simp
  | succ k ih =>
    intro i ad h1 h2
    have hs : g20_s0 (x, l, ()) ((N : Int), ()) (ad, (i : Int), ()) = some (.inl ((ad.1, ad.2.1, ad.2.2.1, ad.2.2.2.1 ++ [rdL l (33 + 27 * i)], ad.2.2.2.2), ((i + 1 : Nat) : Int), ())) := by
      have c : (i : Int) < (N : Int) := by omega
      have e : IntKind.wrap .i64 ((i : Int) + 1) = ((i + 1 : Nat) : Int) := wp _ (by omega) (by omega)
      have e1 : IntKind.wrap .i64 (27 * (i : Int)) = ((27 * i : Nat) : Int) := wp _ (by omega) (by omega)
      have e2 : IntKind.wrap .i64 (33 + ((27 * i : Nat) : Int)) = ((33 + 27 * i : Nat) : Int) := wp _ (by omega) (by omega)
      have e3 : IntKind.wrap .i64 (((33 + 27 * i : Nat) : Int) + 7) = ((33 + 27 * i + 7 : Nat) : Int) := wp _ (by omega) (by omega)
      have e4 : IntKind.wrap .i64 (((33 + 27 * i : Nat) : Int) + 17) = ((33 + 27 * i + 17 : Nat) : Int) := wp _ (by omega) (by omega)
      unfold g20_s0
      simp only [c, decide_true, cond_true, len8 h, e1, e2, e3, e4, e, on_get h (33 + 27 * i) 7 7 rfl (by decide) (by omega), Option.bind_some, on_get h (33 + 27 * i + 7) 10 10 rfl (by decide) (by omega), on_get h (33 + 27 * i + 17) 10 10 rfl (by decide) (by omega), room (n := ad.2.2.2.1.length) (by omega)]
      rfl
    rw [Loop_step, hs]
    simp only
    rw [ih (i + 1) _ (by omega) (by simp only [List.length_append, List.length_singleton]; omega)]
    simp only [List.append_assoc, List.singleton_append]
    rw [List.range_succ_eq_map, List.map_cons, List.map_map]
    have e2 : (fun j => rdL l (33 + 27 * (i + 1 + j))) = (fun j => rdL l (33 + 27 * (i + j))) ∘ Nat.succ := by
      funext j
      simp only [Function.comp]
      congr 3
      omega
    rw [e2]
    simp

theorem rclaims2 {l : List Int} (h : l.length ≤ 1024) (x : Int) (M N q : Nat) (hM : M ≤ 100) (hN : N ≤ 100) (hq : q = 33 + 27 * M + 4) (hl : q + 14 * N ≤ 8 * l.length) : ∀ (k i : Nat) (ad : Ad), i + k = N → ad.2.2.2.2.1.length + k ≤ 100 →
    Loop (g20_s1 (x, l, ()) ((M : Int), ()) ((N : Int), ())) (ad, (i : Int), ()) = some ((ad.1, ad.2.1, ad.2.2.1, ad.2.2.2.1, ad.2.2.2.2.1 ++ (List.range k).map (fun j => rdC l (q + 14 * (i + j))), ()), ()) := by
  intro k
  induction k with
  | zero =>
    intro i ad h1 h2
    rw [Loop_step]
    have c : ¬ (i : Int) < (N : Int) := by omega
    have : g20_s1 (x, l, ()) ((M : Int), ()) ((N : Int), ()) (ad, (i : Int), ()) = some (.inr (ad, ())) := by
      unfold g20_s1
      simp only [c, decide_false, cond_false]
    rw [this]
    simp
  | succ k ih =>
    intro i ad h1 h2
    have hs : g20_s1 (x, l, ()) ((M : Int), ()) ((N : Int), ()) (ad, (i : Int), ()) = some (.inl ((ad.1, ad.2.1, ad.2.2.1, ad.2.2.2.1, ad.2.2.2.2.1 ++ [rdC l (q + 14 * i)], ()), ((i + 1 : Nat) : Int), ())) := by
      have c : (i : Int) < (N : Int) := by omega
      have e : IntKind.wrap .i64 ((i : Int) + 1) = ((i + 1 : Nat) : Int) := wp _ (by omega) (by omega)
      have e1 : IntKind.wrap .i64 (27 * (M : Int)) = ((27 * M : Nat) : Int) := wp _ (by omega) (by omega)
      have e2 : IntKind.wrap .i64 (33 + ((27 * M : Nat) : Int)) = ((33 + 27 * M : Nat) : Int) := wp _ (by omega) (by omega)
      have e3 : IntKind.wrap .i64 (((33 + 27 * M : Nat) : Int) + 4) = ((q : Nat) : Int) := wp _ (by omega) (by omega)
      have e4 : IntKind.wrap .i64 (14 * (i : Int)) = ((14 * i : Nat) : Int) := wp _ (by omega) (by omega)
      have e5 : IntKind.wrap .i64 ((q : Int) + ((14 * i : Nat) : Int)) = ((q + 14 * i : Nat) : Int) := wp _ (by omega) (by omega)
      have e6 : IntKind.wrap .i64 (((q + 14 * i : Nat) : Int) + 3) = ((q + 14 * i + 3 : Nat) : Int) := wp _ (by omega) (by omega)
      have e7 : IntKind.wrap .i64 (((q + 14 * i : Nat) : Int) + 12) = ((q + 14 * i + 12 : Nat) : Int) := wp _ (by omega) (by omega)
      have g := gv2 l (q + 14 * i + 12)
      have hd : on (inside (gv l (q + 14 * i + 12) 2) 0 3) (decoded (gv l (q + 14 * i + 12) 2), ()) = some (decoded (gv l (q + 14 * i + 12) 2), ()) := on_true (inside_iff.2 (by omega))
      unfold g20_s1
      simp only [c, decide_true, cond_true, len8 h, e1, e2, e3, e4, e5, e6, e7, e, on_get h (q + 14 * i) 3 3 rfl (by decide) (by omega), Option.bind_some, on_get h (q + 14 * i + 3) 9 9 rfl (by decide) (by omega), on_get h (q + 14 * i + 12) 2 2 rfl (by decide) (by omega), hd, room (n := ad.2.2.2.2.1.length) (by omega)]
      rfl
    rw [Loop_step, hs]
    simp only
    rw [ih (i + 1) _ (by omega) (by simp only [List.length_append, List.length_singleton]; omega)]
    simp only [List.append_assoc, List.singleton_append]
    rw [List.range_succ_eq_map, List.map_cons, List.map_map]
    have e2 : (fun j => rdC l (q + 14 * (i + 1 + j))) = (fun j => rdC l (q + 14 * (i + j))) ∘ Nat.succ := by
      funext j
      simp only [Function.comp]
      congr 3
      omega
    rw [e2]
    simp

theorem front2 (l : List Int) (hl : l.length ≤ 140737488355328) : (bif (decide ((Int.ofNat l.length) > (200 : Int))) then (bif (true && (decide ((200 : Int) ≤ (Int.ofNat l.length)))) then (some ((IntKind.wrap Go.IntKind.i64 ((Int.ofNat l.length) - (200 : Int))), ((List.drop 0 (List.take 200 l)), ()))) else none) else (some ((0 : Int), (l, ())))) = some (((l.length - 200 : Nat) : Int), l.take 200, ()) := by
  by_cases h : 200 < l.length
  · have c1 : Int.ofNat l.length > 200 := by simp only [Int.ofNat_eq_natCast]; omega
    have c2 : (200 : Int) ≤ Int.ofNat l.length := by simp only [Int.ofNat_eq_natCast]; omega
    have e : IntKind.wrap .i64 (Int.ofNat l.length - 200) = ((l.length - 200 : Nat) : Int) := by
      rw [wi64 (by simp only [Int.ofNat_eq_natCast]; omega) (by simp only [Int.ofNat_eq_natCast]; omega)]
      simp only [Int.ofNat_eq_natCast]
      omega
    rw [decide_eq_true c1, decide_eq_true c2, e]
    rfl
  · have c1 : ¬ Int.ofNat l.length > 200 := by simp only [Int.ofNat_eq_natCast]; omega
    rw [decide_eq_false c1, List.take_of_length_le (by omega), show l.length - 200 = 0 by omega]
    rfl

theorem g20_ok (a0 : (List Int)) (r0 : (Ty.sl (.int .u8)).ok a0) : g20 a0 = some (Sp07.decode a0, ()) := by
  have hlen := (dat r0).1
  have hb : (a0.take 200).length ≤ 1024 := by rw [List.length_take]; omega
  have hbl : (a0.take 200).length = min 200 a0.length := List.length_take
  have e1 := nL_lt a0
  have e2 := nC_lt a0
  have e4 := end_le a0
  have f1 : 33 + 27 * nL a0 = atC a0 := rfl
  have f2 : atC a0 + 4 + 14 * nC a0 = endB a0 := rfl
  have e3 := atC_le a0
  unfold g20
  rw [front2 a0 hlen]
  simp only [Option.bind_some, len8 hb]
  have hdec : ¬ endB a0 + 16 ≤ 8 * (a0.take 200).length → Sp07.decode a0 = (za, 20, ()) := by
    intro k
    unfold Sp07.decode
    have : 8 * a0.length < endB a0 + 16 := by omega
    rw [decide_eq_true this]
    rfl
  by_cases h1 : 28 + 5 ≤ 8 * (a0.take 200).length
  rotate_left
  · have hr : on (inside 5 0 63) (getR (a0.take 200, 8 * ((a0.take 200).length : Int), ()) 28 5, ()) = some (-1, ()) := on_no hb 28 5 5 rfl (by decide) h1
    rw [hr, hdec (by omega)]
    rfl
  have hr : on (inside 5 0 63) (getR (a0.take 200, 8 * ((a0.take 200).length : Int), ()) 28 5, ()) = some ((nL a0 : Int), ()) := by
    rw [← nL_cut a0 200 (by decide), ← nL_cast]
    exact on_get hb 28 5 5 rfl (by decide) h1
  have w1 : IntKind.wrap .i64 (27 * (nL a0 : Int)) = ((27 * nL a0 : Nat) : Int) := wp _ (by omega) (by omega)
  have w2 : IntKind.wrap .i64 (33 + ((27 * nL a0 : Nat) : Int)) = ((atC a0 : Nat) : Int) := wp _ (by omega) (by omega)
  have p1 : ¬ (nL a0 : Int) < 0 := by omega
  simp only [hr, Option.bind_some, w1, w2, p1, decide_false, cond_false]
  by_cases h2 : atC a0 + 4 ≤ 8 * (a0.take 200).length
  rotate_left
  · have hr2 : on (inside 4 0 63) (getR (a0.take 200, 8 * ((a0.take 200).length : Int), ()) ((atC a0 : Nat) : Int) 4, ()) = some (-1, ()) := on_no hb _ 4 4 rfl (by decide) h2
    rw [hr2, hdec (by omega)]
    rfl
  have hr2 : on (inside 4 0 63) (getR (a0.take 200, 8 * ((a0.take 200).length : Int), ()) ((atC a0 : Nat) : Int) 4, ()) = some ((nC a0 : Int), ()) := by
    rw [← nC_cut a0 200 (by decide), ← nC_cast, atC_cut a0 200 (by decide)]
    exact on_get hb _ 4 4 rfl (by decide) h2
  have w3 : IntKind.wrap .i64 ((atC a0 : Int) + 4) = ((atC a0 + 4 : Nat) : Int) := wp _ (by omega) (by omega)
  have w4 : IntKind.wrap .i64 (14 * (nC a0 : Int)) = ((14 * nC a0 : Nat) : Int) := wp _ (by omega) (by omega)
  have w5 : IntKind.wrap .i64 (((atC a0 + 4 : Nat) : Int) + ((14 * nC a0 : Nat) : Int)) = ((endB a0 : Nat) : Int) := wp _ (by omega) (by omega)
  have p2 : ¬ (nC a0 : Int) < 0 := by omega
  simp only [hr2, Option.bind_some, w3, w4, w5, p2, decide_false, Bool.not_false, cond_true]
  by_cases h3 : endB a0 + 16 ≤ 8 * (a0.take 200).length
  rotate_left
  · have hr3 : on (inside 16 0 63) (getR (a0.take 200, 8 * ((a0.take 200).length : Int), ()) ((endB a0 : Nat) : Int) 16, ()) = some (-1, ()) := on_no hb _ 16 16 rfl (by decide) h3
    rw [hr3, hdec (by omega)]
    rfl
  have hr3 : on (inside 16 0 63) (getR (a0.take 200, 8 * ((a0.take 200).length : Int), ()) ((endB a0 : Nat) : Int) 16, ()) = some (gv a0 (endB a0) 16, ()) := by
    rw [← gv_cut a0 200 _ _ (by omega)]
    exact on_get hb _ 16 16 rfl (by decide) h3
  have p3 : ¬ gv a0 (endB a0) 16 < 0 := by
    have := (gv_range a0 (endB a0) 16).1
    omega
  have r1 : on (inside 7 0 63) (getR (a0.take 200, 8 * ((a0.take 200).length : Int), ()) 0 7, ()) = some (gv (a0.take 200) 0 7, ()) := on_get hb 0 7 7 rfl (by decide) (by omega)
  have r2 : on (inside 20 0 63) (getR (a0.take 200, 8 * ((a0.take 200).length : Int), ()) 7 20, ()) = some (gv (a0.take 200) 7 20, ()) := on_get hb 7 20 20 rfl (by decide) (by omega)
  have r3 : on (inside 1 0 63) (getR (a0.take 200, 8 * ((a0.take 200).length : Int), ()) 27 1, ()) = some (gv (a0.take 200) 27 1, ()) := on_get hb 27 1 1 rfl (by decide) (by omega)
  simp only [hr3, Option.bind_some, p3, decide_false, cond_false, r1, r2, r3]
  have l1 := rlinks2 hb ((a0.length - 200 : Nat) : Int) (nL a0) (by omega) (by omega) (nL a0) 0 (gv (a0.take 200) 0 7, gv (a0.take 200) 7 20, decide (gv (a0.take 200) 27 1 = 1), [], [], ()) (by omega) (by simp only [List.length_nil]; omega)
  simp only [Int.natCast_zero, Nat.zero_add] at l1
  simp only [l1, Option.bind_some]
  have l2 := rclaims2 hb ((a0.length - 200 : Nat) : Int) (nL a0) (nC a0) (atC a0 + 4) (by omega) (by omega) (by omega) (by omega) (nC a0) 0 (gv (a0.take 200) 0 7, gv (a0.take 200) 7 20, decide (gv (a0.take 200) 27 1 = 1), [] ++ (List.range (nL a0)).map (fun j => rdL (a0.take 200) (33 + 27 * j)), [], ()) (by omega) (by simp only [List.length_nil]; omega)
  simp only [Int.natCast_zero, Nat.zero_add] at l2
  simp only [l2, Option.bind_some]
  have hf : ((gv (a0.take 200) 0 7, gv (a0.take 200) 7 20, decide (gv (a0.take 200) 27 1 = 1), [] ++ (List.range (nL a0)).map (fun j => rdL (a0.take 200) (33 + 27 * j)), [] ++ (List.range (nC a0)).map (fun j => rdC (a0.take 200) (atC a0 + 4 + 14 * j)), ()) : Ad) = fields a0 := by
    rw [← fields_cut a0 200 (by decide)]
    unfold fields
    rw [nL_cut a0 200 (by decide), nC_cut a0 200 (by decide), atC_cut a0 200 (by decide)]
    rfl
  rw [hf]
  have hfl := free_le (endB a0)
  have w6 : IntKind.wrap .i64 ((endB a0 : Int) + 16) = ((endB a0 + 16 : Nat) : Int) := wp _ (by omega) (by omega)
  have w7 : IntKind.wrap .i64 (((endB a0 + 16 : Nat) : Int) + 7) = ((endB a0 + 23 : Nat) : Int) := wp _ (by omega) (by omega)
  have w8 : Int.tdiv ((endB a0 + 23 : Nat) : Int) 8 = (((endB a0 + 23) / 8 : Nat) : Int) := by rw [tdiv_nn (by omega)]; omega
  have w9 : IntKind.wrap .i64 (((endB a0 + 23) / 8 : Nat) : Int) = (((endB a0 + 23) / 8 : Nat) : Int) := wp _ rfl (by omega)
  have w10 : IntKind.wrap .i64 (8 * (((endB a0 + 23) / 8 : Nat) : Int)) = ((endB a0 + 16 + free (endB a0) : Nat) : Int) := wp _ (by omega) (by omega)
  have w11 : IntKind.wrap .i64 (((endB a0 + 16 + free (endB a0) : Nat) : Int) - (endB a0 : Int)) = ((16 + free (endB a0) : Nat) : Int) := wp _ (by omega) (by omega)
  have w12 : IntKind.wrap .i64 (((16 + free (endB a0) : Nat) : Int) - 16) = ((free (endB a0) : Nat) : Int) := wp _ (by omega) (by omega)
  have hck := check_slice hb (e := endB a0) (by omega)
  rw [bitsR_take a0 200 0 _ (by omega)] at hck
  have r4 : on (inside ((free (endB a0) : Nat) : Int) 0 63) (getR (a0.take 200, 8 * ((a0.take 200).length : Int), ()) ((endB a0 + 16 : Nat) : Int) ((free (endB a0) : Nat) : Int), ()) = some (gv a0 (endB a0 + 16) (free (endB a0)), ()) := by
    rw [← gv_cut a0 200 _ _ (by omega)]
    exact on_get hb _ _ _ rfl (by omega) (by omega)
  have w13 : IntKind.wrap .i64 (Int.ofNat (a0.take 200).length + ((a0.length - 200 : Nat) : Int)) = (a0.length : Int) := by
    rw [wi64 (by simp only [Int.ofNat_eq_natCast]; omega) (by simp only [Int.ofNat_eq_natCast]; omega)]
    simp only [Int.ofNat_eq_natCast]
    omega
  simp only [hck, w6, w7, w8, w9, w10, w11, w12, r4, w13, Option.bind_some]
  have hend : decide ((a0.length : Int) > (((endB a0 + 23) / 8 : Nat) : Int)) = decide (8 * ((endB a0 + 23) / 8) < 8 * a0.length) := by
    congr 1
    exact propext (by omega)
  rw [hend]
  unfold Sp07.decode
  rw [decide_eq_false (p := 8 * a0.length < endB a0 + 16) (by omega)]
  cases decide (gv a0 (endB a0) 16 = ((crc (bitsR a0 0 (endB a0)) : Nat) : Int)) with
  | false => rfl
  | true =>
    cases decide (gv a0 (endB a0 + 16) (free (endB a0)) = 0) with
    | false => rfl
    | true =>
      cases decide (8 * ((endB a0 + 23) / 8) < 8 * a0.length) with
      | true => rfl
      | false => cases Sp07.validA (fields a0) <;> rfl
end Go.Abs.C07

/- Chapter 07: the functions keep their contracts: an advert of a tape, newer adverts. -/
namespace Go.Abs.C07
open Go Go.Proofs Sp07
set_option maxRecDepth 100000

theorem pick_wf {t : Tp} {l : List Int} (h : wf t = true) : wf (Sp07.pick t l).2 = true := next_wf (n := (l.length : Int)) h

theorem g35_ok (a0 : (List Int)) (a1 : Int) (r0 : (Ty.sl (.int .i64)).ok a0) (r1 : IntKind.i64.has a1) (h : (Sp07.wf (a0, a1, ())) = true) : g35 a0 a1 = some (Sp07.length (a0, a1, ())) := by
  unfold g35 Sp07.length
  rw [on_true (by rw [h]; rfl)]
  rfl

theorem length_wf {t : Tp} (h : wf t = true) : wf (Sp07.length t).2 = true := pick_wf h

theorem g25_ok (a0 : Int) (a1 : Int) (a2 : Bool) (a3 : (List (Int × (Int × (Int × Unit))))) (a4 : (List (Int × (Int × (Int × Unit))))) (a5 : Int) (a6 : Int) (a7 : Bool) (a8 : (List (Int × (Int × (Int × Unit))))) (a9 : (List (Int × (Int × (Int × Unit))))) (r0 : IntKind.i64.has a0) (r1 : IntKind.i64.has a1) (r3 : (Ty.sl (rc)).ok a3) (r4 : (Ty.sl (rc)).ok a4) (r5 : IntKind.i64.has a5) (r6 : IntKind.i64.has a6) (r8 : (Ty.sl (rc)).ok a8) (r9 : (Ty.sl (rc)).ok a9) : g25 a0 a1 a2 a3 a4 a5 a6 a7 a8 a9 = some (Sp07.newer (a0, a1, a2, a3, a4, ()) (a5, a6, a7, a8, a9, ()), ()) := by
  have k : ∀ a : Ad, decide ((Sp07.encode a).2.1 = 0) = Sp07.validA a := by
    intro a
    unfold Sp07.encode
    cases Sp07.validA a <;> rfl
  have k2 : ∀ x y : List Int, decide (cmpB x y > 0) = gtB x y := by
    intro x y
    unfold cmpB gtB
    cases Go.Abs.ltBytes x y
    · cases x == y <;> rfl
    · rfl
  unfold g25 Sp07.newer
  simp only [k, k2, gt_iff_lt]
  cases Sp07.validA (a0, a1, a2, a3, a4, ()) <;> cases Sp07.validA (a5, a6, a7, a8, a9, ()) <;> cases decide (a0 = a5) <;> cases decide (a6 < a1) <;> cases decide (a1 = a6) <;> rfl

theorem g26_ok (a0 : Int) (a1 : Int) (a2 : Bool) (a3 : (List (Int × (Int × (Int × Unit))))) (a4 : (List (Int × (Int × (Int × Unit))))) (a5 : Int) (a6 : Int) (a7 : Bool) (a8 : (List (Int × (Int × (Int × Unit))))) (a9 : (List (Int × (Int × (Int × Unit))))) (r0 : IntKind.i64.has a0) (r1 : IntKind.i64.has a1) (r3 : (Ty.sl (rc)).ok a3) (r4 : (Ty.sl (rc)).ok a4) (r5 : IntKind.i64.has a5) (r6 : IntKind.i64.has a6) (r8 : (Ty.sl (rc)).ok a8) (r9 : (Ty.sl (rc)).ok a9) : g26 a0 a1 a2 a3 a4 a5 a6 a7 a8 a9 = some (Sp07.newer (a0, a1, a2, a3, a4, ()) (a5, a6, a7, a8, a9, ()), ()) := by
  unfold g26 Sp07.newer gtB
  simp only [gt_iff_lt]
  cases Sp07.validA (a0, a1, a2, a3, a4, ()) <;> cases Sp07.validA (a5, a6, a7, a8, a9, ()) <;> cases decide (a0 = a5) <;> cases decide (a6 < a1) <;> cases decide (a1 = a6) <;> rfl

/-! The links, the claims. -/
theorem link_wf {r i : Int} {s : List Rc × Tp} (h : wf s.2 = true) : wf (linkS r i s).2 = true := by
  unfold linkS
  cases decide (i = r) with
  | true => exact h
  | false =>
    cases decide ((next s.2 2).1 = 0) with
    | true => exact next_wf (n := 3) (range_wf (next_wf h))
    | false => exact next_wf (n := 2) h
theorem link_len (r i : Int) (s : List Rc × Tp) : (linkS r i s).1.length ≤ s.1.length + 1 := by
  unfold linkS
  cases decide (i = r) with
  | true => simp
  | false => cases decide ((next s.2 2).1 = 0) <;> simp
theorem links_wf {r : Int} {t : Tp} (h : wf t = true) : ∀ k, wf (linksN r t k).2 = true ∧ (linksN r t k).1.length ≤ k
  | 0 => ⟨h, by simp [linksN]⟩
  | k + 1 => ⟨link_wf (links_wf h k).1, Nat.le_trans (link_len _ _ _) (by have := (links_wf (r := r) h k).2; omega)⟩
theorem link_step (r i : Int) (s : List Rc × Tp) (x q : Int) (c : Bool) (cl : List Rc) (h : wf s.2 = true) (hl : s.1.length ≤ 100) (h1 : 1 ≤ i) (h6 : i ≤ 6) :
    g11_s0 r (i, s.2, (x, q, c, s.1, cl, ()), ()) = some (.inl (i + 1, (linkS r i s).2, (x, q, c, (linkS r i s).1, cl, ()), ())) := by
  have e : IntKind.wrap .i64 (i + 1) = i + 1 := wi64 (by omega) (by omega)
  unfold g11_s0 linkS
  simp only [h6, decide_true, cond_true, e, on_true h, Option.bind_some]
  by_cases hr : i = r
  · rw [decide_eq_true hr]
    rfl
  · rw [decide_eq_false hr]
    have h2 : (wf (next s.2 2).2 && small 1 && small 3) = true := by rw [next_wf h]; decide
    have h3 : wf (range (next s.2 2).2 1 3).2 = true := range_wf (next_wf h)
    simp only [Bool.not_false, cond_true, Option.bind_some, on_true h2, on_true h3, room (n := s.1.length) (by omega), cond_false]
    cases decide ((next s.2 2).1 = 0) <;> rfl
theorem links_run (r : Int) (t : Tp) (x q : Int) (c : Bool) (cl : List Rc) (h : wf t = true) :
    Loop (g11_s0 r) (1, t, (x, q, c, [], cl, ()), ()) = some ((linksN r t 6).2, (x, q, c, (linksN r t 6).1, cl, ()), ()) := by
  have st : ∀ k : Nat, k < 6 → Loop (g11_s0 r) (((k + 1 : Nat) : Int), (linksN r t k).2, (x, q, c, (linksN r t k).1, cl, ()), ()) = Loop (g11_s0 r) (((k + 1 + 1 : Nat) : Int), (linksN r t (k + 1)).2, (x, q, c, (linksN r t (k + 1)).1, cl, ()), ()) := by
    intro k hk
    have hw := links_wf (r := r) h k
    rw [Loop_step, link_step r _ _ x q c cl hw.1 (by omega) (by omega) (by omega)]
    rfl
  have e0 := st 0 (by decide)
  rw [st 1 (by decide), st 2 (by decide), st 3 (by decide), st 4 (by decide), st 5 (by decide)] at e0
  have e1 : Loop (g11_s0 r) (1, t, (x, q, c, [], cl, ()), ()) = Loop (g11_s0 r) (((5 + 1 + 1 : Nat) : Int), (linksN r t 6).2, (x, q, c, (linksN r t 6).1, cl, ()), ()) := e0
  rw [e1, Loop_step]
  rfl

theorem claim_wf {i : Int} {s : List Rc × Tp} (h : wf s.2 = true) : wf (claimS i s).2 = true := by
  unfold claimS
  cases decide ((next s.2 2).1 = 0) with
  | true => exact length_wf (range_wf (next_wf h))
  | false => exact next_wf (n := 2) h
theorem claim_len (i : Int) (s : List Rc × Tp) : (claimS i s).1.length ≤ s.1.length + 1 := by
  unfold claimS
  cases decide ((next s.2 2).1 = 0) <;> simp
theorem claims_wf {t : Tp} (h : wf t = true) : ∀ k, wf (claimsN t k).2 = true ∧ (claimsN t k).1.length ≤ k
  | 0 => ⟨h, by simp [claimsN]⟩
  | k + 1 => ⟨claim_wf (claims_wf h k).1, Nat.le_trans (claim_len _ _) (by have := (claims_wf h k).2; omega)⟩
theorem claim_step (i : Int) (s : List Rc × Tp) (x q : Int) (c : Bool) (ls : List Rc) (h : wf s.2 = true) (hl : s.1.length ≤ 100) (h1 : 0 ≤ i) (h6 : i < 2) :
    g11_s1 (i, s.2, (x, q, c, ls, s.1, ()), ()) = some (.inl (i + 1, (claimS i s).2, (x, q, c, ls, (claimS i s).1, ()), ())) := by
  have e : IntKind.wrap .i64 (i + 1) = i + 1 := wi64 (by omega) (by omega)
  have h2 : (wf (next s.2 2).2 && small 1 && small 9) = true := by rw [next_wf h]; decide
  have h3 : wf (range (next s.2 2).2 1 9).2 = true := range_wf (next_wf h)
  unfold g11_s1 claimS
  simp only [h6, decide_true, cond_true, e, on_true h, on_true h2, on_true h3, Option.bind_some, room (n := s.1.length) (by omega)]
  cases decide ((next s.2 2).1 = 0) <;> rfl
theorem claims_run (t : Tp) (x q : Int) (c : Bool) (ls : List Rc) (h : wf t = true) :
    Loop g11_s1 (0, t, (x, q, c, ls, [], ()), ()) = some ((claimsN t 2).2, (x, q, c, ls, (claimsN t 2).1, ()), ()) := by
  have st : ∀ k : Nat, k < 2 → Loop g11_s1 (((k : Nat) : Int), (claimsN t k).2, (x, q, c, ls, (claimsN t k).1, ()), ()) = Loop g11_s1 (((k + 1 : Nat) : Int), (claimsN t (k + 1)).2, (x, q, c, ls, (claimsN t (k + 1)).1, ()), ()) := by
    intro k hk
    have hw := claims_wf h k
    rw [Loop_step, claim_step _ _ x q c ls hw.1 (by omega) (by omega) (by omega)]
    rfl
  have e0 := st 0 (by decide)
  rw [st 1 (by decide)] at e0
  have e1 : Loop g11_s1 (0, t, (x, q, c, ls, [], ()), ()) = Loop g11_s1 (((1 + 1 : Nat) : Int), (claimsN t 2).2, (x, q, c, ls, (claimsN t 2).1, ()), ()) := e0
  rw [e1, Loop_step]
  rfl

theorem many_len (l : List Rc) : ∀ k, (many l k).length = l.length + k
  | 0 => rfl
  | k + 1 => by rw [many, List.length_append, many_len l k]; rfl
theorem many_step (x q : Int) (c : Bool) (l cl : List Rc) (k : Nat) (hk : k < 24) (hl : l.length ≤ 100) :
    g11_s2 ((x, q, c, many l k, cl, ()), 30 + (k : Int), ()) = some (.inl ((x, q, c, many l (k + 1), cl, ()), 30 + ((k + 1 : Nat) : Int), ())) := by
  have c1 : 30 + (k : Int) < 54 := by omega
  have e : IntKind.wrap .i64 (30 + (k : Int) + 1) = 30 + ((k + 1 : Nat) : Int) := by rw [wi64 (by omega) (by omega)]; omega
  have hl2 : (many l k).length ≤ 1000 := by rw [many_len]; omega
  unfold g11_s2
  simp only [c1, decide_true, cond_true, e, room hl2]
  rfl
theorem many_run (x q : Int) (c : Bool) (l cl : List Rc) (hl : l.length ≤ 100) : Loop g11_s2 ((x, q, c, l, cl, ()), 30, ()) = some ((x, q, c, many l 24, cl, ()), ()) := by
  have key : ∀ k, k ≤ 24 → Loop g11_s2 ((x, q, c, many l (24 - k), cl, ()), 30 + ((24 - k : Nat) : Int), ()) = some ((x, q, c, many l 24, cl, ()), ()) := by
    intro k
    induction k with
    | zero => intro _; rw [Loop_step]; rfl
    | succ k ih =>
      intro hk
      rw [Loop_step, many_step x q c l cl _ (by omega) hl]
      simp only
      have e : 24 - (k + 1) + 1 = 24 - k := by omega
      rw [e]
      exact ih (by omega)
  exact key 24 (by decide)

theorem g11_ok (a0 : (List Int)) (a1 : Int) (a2 : Int) (a3 : Int) (r0 : (Ty.sl (.int .i64)).ok a0) (r1 : IntKind.i64.has a1) (r2 : IntKind.i64.has a2) (r3 : IntKind.i64.has a3) (h : (Sp07.wf (a0, a1, ()) && Sp07.inside a3 0 1000) = true) : g11 a0 a1 a2 a3 = some (Sp07.advert (a0, a1, ()) a2 a3) := by
  simp only [Bool.and_eq_true, inside_iff] at h
  have h0 := h.1
  have h1 := h.2
  have o1 : (wf (a0, a1, ()) && decide (0 < 7) && decide (7 ≤ 1000)) = true := by rw [h0]; rfl
  have w1 : wf (Sp07.pick (a0, a1, ()) [1, 1, 2, 3, 3, 500000, 1000000]).2 = true := pick_wf h0
  unfold g11 Sp07.advert
  simp only [on_true o1, Option.bind_some, on_true w1]
  have w2 := next_wf (n := 3) w1
  rw [links_run _ _ _ _ _ _ w2]
  simp only [Option.bind_some]
  have w3 := links_wf (r := a2) w2 6
  rw [claims_run _ _ _ _ _ w3.1]
  have w4 := claims_wf w3.1 2
  simp only [Option.bind_some]
  have hp : plainA (a0, a1, ()) a2 = ((a2, (Sp07.pick (a0, a1, ()) [1, 1, 2, 3, 3, 500000, 1000000]).1, decide ((next (Sp07.pick (a0, a1, ()) [1, 1, 2, 3, 3, 500000, 1000000]).2 3).1 > 0), (linksN a2 (next (Sp07.pick (a0, a1, ()) [1, 1, 2, 3, 3, 500000, 1000000]).2 3).2 6).1, (claimsN (linksN a2 (next (Sp07.pick (a0, a1, ()) [1, 1, 2, 3, 3, 500000, 1000000]).2 3).2 6).2 2).1, ()), (claimsN (linksN a2 (next (Sp07.pick (a0, a1, ()) [1, 1, 2, 3, 3, 500000, 1000000]).2 3).2 6).2 2).2) := rfl
  rw [hp]
  have g1 := w3.2
  have g2 := w4.2
  have g3 := w4.1
  revert g1 g2 g3
  generalize (linksN a2 (next (Sp07.pick (a0, a1, ()) [1, 1, 2, 3, 3, 500000, 1000000]).2 3).2 6).1 = ls
  generalize claimsN (linksN a2 (next (Sp07.pick (a0, a1, ()) [1, 1, 2, 3, 3, 500000, 1000000]).2 3).2 6).2 2 = cs
  generalize decide ((next (Sp07.pick (a0, a1, ()) [1, 1, 2, 3, 3, 500000, 1000000]).2 3).1 > 0) = cc
  generalize (Sp07.pick (a0, a1, ()) [1, 1, 2, 3, 3, 500000, 1000000]).1 = q
  intro g1 g2 g3
  clear hp w1 w2 w3 w4 o1
  simp only [gt_iff_lt]
  by_cases hn : 0 < a3
  rotate_left
  · rw [decide_eq_false hn]
    rfl
  have o2 : (wf cs.2 && small a3) = true := by rw [g3, Bool.true_and]; exact small_iff.2 (by omega)
  have g4 : wf (Sp07.one cs.2 a3).2 = true := one_wf g3
  rw [decide_eq_true hn]
  simp only [cond_true, on_true o2, Option.bind_some]
  cases (Sp07.one cs.2 a3).1 with
  | false => rfl
  | true =>
    have g5 : wf (next (Sp07.one cs.2 a3).2 6).2 = true := next_wf g4
    simp only [cond_true, on_true g4, Option.bind_some]
    unfold spoilA
    generalize next (Sp07.one cs.2 a3).2 6 = k at g5
    simp only [on_true g5]
    by_cases k0 : k.1 = 0
    · simp only [k0, decide_true, cond_true, Option.bind_some]
    rw [decide_eq_false k0]
    by_cases k1 : k.1 = 1
    · simp only [k1, decide_true, cond_true, cond_false, Option.bind_some]
    rw [decide_eq_false k1]
    by_cases k2 : k.1 = 2
    · have o3 : ∀ l : List Int, (wf (Sp07.pick k.2 l).2 && decide (0 < 4) && decide (4 ≤ 1000)) = true := fun l => by rw [pick_wf g5]; rfl
      have o4 : ∀ l l' : List Int, (wf (Sp07.pick (Sp07.pick k.2 l).2 l').2 && decide (0 < 4) && decide (4 ≤ 1000)) = true := fun l l' => by rw [pick_wf (pick_wf g5)]; rfl
      have o5 : (wf k.2 && decide (0 < ([0, a2, 6, 99, 100] : List Int).length) && decide (([0, a2, 6, 99, 100] : List Int).length ≤ 1000)) = true := by rw [g5]; rfl
      simp only [k2, decide_true, cond_true, cond_false, on_true o5, on_true (o3 _), on_true (o4 _ _), Option.bind_some, room (n := ls.length) (by omega)]
      rfl
    rw [decide_eq_false k2]
    by_cases k3 : k.1 = 3
    · have o3 : ∀ l : List Int, (wf (Sp07.pick k.2 l).2 && decide (0 < 4) && decide (4 ≤ 1000)) = true := fun l => by rw [pick_wf g5]; rfl
      have o4 : ∀ l l' : List Int, (wf (Sp07.pick (Sp07.pick k.2 l).2 l').2 && decide (0 < 4) && decide (4 ≤ 1000)) = true := fun l l' => by rw [pick_wf (pick_wf g5)]; rfl
      have o5 : (wf k.2 && decide (0 < 4) && decide (4 ≤ 1000)) = true := by rw [g5]; rfl
      simp only [k3, decide_true, cond_true, cond_false, on_true o5, on_true (o3 _), on_true (o4 _ _), Option.bind_some, room (n := cs.1.length) (by omega)]
      rfl
    rw [decide_eq_false k3]
    by_cases k4 : k.1 = 4
    · simp only [k4, decide_true, cond_true, cond_false, many_run _ _ _ ls _ (by omega), Option.bind_some]
    rw [decide_eq_false k4]
    by_cases k5 : 0 < ls.length
    · have c1 : 0 < Int.ofNat ls.length := by simp only [Int.ofNat_eq_natCast]; omega
      have c3 : Nat.blt 0 ls.length = true := blt_t k5
      rw [decide_eq_true c1, c3, decide_eq_true k5]
      rfl
    · have c1 : ¬ 0 < Int.ofNat ls.length := by simp only [Int.ofNat_eq_natCast]; omega
      rw [decide_eq_false c1, decide_eq_false k5]
      rfl
end Go.Abs.C07

/- Chapter 07: the comparison of two rows of bytes, whose work the model does by itself. -/
namespace Go.Abs.C07
open Go Go.Proofs Sp07

def u8 (l : List Int) : List UInt8 := l.map fun x => x.toNat.toUInt8
theorem load_bytes {P : Program} (w : World) : ∀ (xs : List Int) (b o : Nat) (acc : ByteArray), (∀ j (h : j < xs.length), w.cell? ⟨b, o + j, none⟩ = some (.int .u8 xs[j])) →
    (Extern.Bytes.loadBytes ⟨b, o, none⟩ xs.length acc).run P w = .ok ⟨acc.data ++ (u8 xs).toArray⟩ w
  | [], b, o, acc, _ => by simp [Extern.Bytes.loadBytes, u8]
  | x :: l, b, o, acc, h => by
    have h0 : w.cell? ⟨b, o, none⟩ = some (.int .u8 x) := h 0 (by simp)
    have ih := load_bytes (P := P) w l b (o + 1) (acc.push x.toNat.toUInt8) (fun j hj => by
      have := h (j + 1) (by simpa using hj)
      rw [show o + 1 + j = o + (j + 1) by omega]
      exact this)
    have ea : (⟨b, o, none⟩ : Addr).add 1 = ⟨b, o + 1, none⟩ := by simp [Addr.add]
    simp only [List.length_cons, Extern.Bytes.loadBytes, Sem.run_bind, run_load, h0, Result.andThen, ea]
    rw [ih]
    congr 1
    apply ByteArray.ext
    simp [ByteArray.push, u8]
/-- A view of bytes. -/
def SlB (w : World) (a : Option Addr) (l : List Int) : Prop := l = [] ∨ ∃ b o, a = some ⟨b, o, none⟩ ∧ ∀ i (h : i < l.length), w.cell? ⟨b, o + i, none⟩ = some (.int .u8 l[i])
theorem bytesOf_run {P : Program} {w : World} {a : Option Addr} {l : List Int} (h : SlB w a l) (c : Nat) : (Extern.Bytes.bytesOf (.slice a l.length c)).run P w = .ok ⟨(u8 l).toArray⟩ w := by
  rcases h with rfl | ⟨b, o, rfl, h⟩
  · cases a with
    | none => rfl
    | some a => rfl
  · have := load_bytes (P := P) w l b o .empty h
    simp only [Extern.Bytes.bytesOf]
    rw [this]
    congr 1
    apply ByteArray.ext
    simp
theorem cmp_run {P : Program} {w : World} {a b : Option Addr} {x y : List Int} (h1 : SlB w a x) (h2 : SlB w b y) (c d : Nat) :
    (Extern.BytealgCompare.compare #[.slice a x.length c, .slice b y.length d]).run P w = .ok (.int .i64 (Lib.compareBytes (u8 x) (u8 y))) w := by
  change Sem.run P (do pure (goInt (Extern.BytealgCompare.cmp (← Extern.Bytes.bytesOf (.slice a x.length c)) (← Extern.Bytes.bytesOf (.slice b y.length d))))) w = _
  simp only [Sem.run_bind, Sem.run_pure, Result.andThen, bytesOf_run h1, bytesOf_run h2]
  rw [Lib.cmp_eq]
  rfl

set_option maxRecDepth 100000 in
set_option maxHeartbeats 1000000 in
theorem cmp_calls {w : World} {a b : Option Addr} {x y : List Int} (h1 : SlB w a x) (h2 : SlB w b y) (c d : Nat) :
    Calls Try.prog 53 #[.slice a x.length c, .slice b y.length d] w fun e w' => e = .returned (.int .i64 (Lib.compareBytes (u8 x) (u8 y))) ∧ w' = w := by
  go_enter Try.func53, Try.ntmps53
  go_wp2
  rw [run_callFunc_extern Try.func75 (by kernel_rfl) (by kernel_rfl) (by kernel_rfl) (e := Extern.BytealgCompare.compare) (by kernel_rfl), cmp_run h1 h2]
  simp only [Result.andThen]
  rw [Oper.upon_value]
  go_wp2
  go_ret
  exact ⟨rfl, rfl⟩

theorem cmp_plain : ∀ (x y : List Int), bytesOk x → bytesOk y → Lib.compareBytes (u8 x) (u8 y) = cmpB x y
  | [], [], _, _ => rfl
  | [], _ :: _, _, _ => rfl
  | _ :: _, [], _, _ => rfl
  | a :: x, b :: y, hx, hy => by
    have ih := cmp_plain x y (fun z hz => hx z (List.mem_cons_of_mem _ hz)) (fun z hz => hy z (List.mem_cons_of_mem _ hz))
    have ha := hx a (List.mem_cons_self ..)
    have hb := hy b (List.mem_cons_self ..)
    have lt : ∀ {a b : Int}, 0 ≤ a ∧ a < 256 → 0 ≤ b ∧ b < 256 → (a.toNat.toUInt8 < b.toNat.toUInt8 ↔ a < b) := by
      intro a b ha hb
      rw [UInt8.lt_iff_toNat_lt]
      simp only [Nat.toUInt8_eq, UInt8.toNat_ofNat']
      omega
    show (if a.toNat.toUInt8 < b.toNat.toUInt8 then (-1 : Int) else if b.toNat.toUInt8 < a.toNat.toUInt8 then 1 else Lib.compareBytes (u8 x) (u8 y)) = _
    rw [ih]
    unfold cmpB
    by_cases h1 : a < b
    · rw [if_pos ((lt ha hb).2 h1)]
      have : Go.Abs.ltBytes (a :: x) (b :: y) = true := by simp [Go.Abs.ltBytes, h1]
      rw [this]
      rfl
    · rw [if_neg (fun h => h1 ((lt ha hb).1 h))]
      by_cases h2 : b < a
      · rw [if_pos ((lt hb ha).2 h2)]
        have e1 : Go.Abs.ltBytes (a :: x) (b :: y) = false := by simp [Go.Abs.ltBytes, h1, h2]; try omega
        have e2 : (a :: x == b :: y) = false := by
          rw [beq_eq_false_iff_ne]
          intro h
          have := (List.cons.inj h).1
          omega
        rw [e1, e2]
        rfl
      · rw [if_neg (fun h => h2 ((lt hb ha).1 h))]
        have : a = b := by omega
        subst this
        have e1 : Go.Abs.ltBytes (a :: x) (a :: y) = Go.Abs.ltBytes x y := by simp [Go.Abs.ltBytes]
        have e2 : (a :: x == a :: y) = (x == y) := by simp
        rw [e1, e2]

theorem slB {w : World} {G : Nat → Nat} {l : List Int} {a : Option Addr} {c : Nat} (h : SlR w G 0 (.int .u8) l a c) : SlB w a l := by
  rcases h.2 with h | ⟨b, o, h1, _, h3⟩
  · exact .inl h
  · refine .inr ⟨b, o, h1, fun i hi => ?_⟩
    have := (h3 i hi).1
    simpa [Ty.nc] using this
theorem slBytes {w : World} {G : Nat → Nat} {l : List Int} {a : Option Addr} {c : Nat} (h : SlR w G 0 (.int .u8) l a c) : bytesOk l := by
  rcases h.2 with h | ⟨b, o, h1, _, h3⟩
  · have h : l = [] := h
    subst h
    intro x hx; simp at hx
  · intro x hx
    obtain ⟨i, hi, rfl⟩ := List.getElem_of_mem hx
    have := (h3 i hi).2
    have h1 : 0 ≤ l[i] := this.1
    have h2 : l[i] ≤ 255 := this.2
    omega
theorem cmpB_has (x y : List Int) : IntKind.i64.has (cmpB x y) := by
  have h : cmpB x y = -1 ∨ cmpB x y = 0 ∨ cmpB x y = 1 := by
    unfold cmpB
    cases Go.Abs.ltBytes x y
    · cases x == y
      · exact .inr (.inr rfl)
      · exact .inr (.inl rfl)
    · exact .inl rfl
  rcases h with h | h | h <;> rw [h] <;> exact ⟨by decide, by decide⟩

theorem nbeq_f {a b : Nat} (h : a ≠ b) : Nat.beq a b = false := by
  cases hb : Nat.beq a b with
  | false => rfl
  | true => exact absurd (Nat.eq_of_beq_eq_true hb) h
theorem sem53 {E : Env} : CallSem Try.prog E 53 c53 := by
  rintro ⟨⟨⟩, x0, x1, ⟨⟩⟩ y hy C args w G pt hm hpin hargs R K hK
  have hy : (cmpB x0 x1, ()) = y := Option.some.inj hy
  subst hy
  obtain ⟨v0, v1, rfl⟩ : ∃ v0 v1, args = #[v0, v1] := by
    have : args.size = 2 := hargs
    match args, this with
    | ⟨[v0, v1]⟩, _ => exact ⟨v0, v1, rfl⟩
  have t0 : RepL w G pt (.sl 0 (.int .u8) x0) v0 := R.tm 0
  have t1 : RepL w G pt (.sl 0 (.int .u8) x1) v1 := R.tm 1
  obtain ⟨a, n, c, rfl, rfl, _, s0⟩ := t0
  obtain ⟨b, m, d, rfl, rfl, _, s1⟩ := t1
  have key := cmp_calls (slB s0) (slB s1) c d
  rw [cmp_plain x0 x1 (slBytes s0) (slBytes s1)] at key
  refine key.mono ?_
  rintro e w' ⟨rfl, rfl⟩
  have g0 : ∀ id, get (entrySt c53 ((), x0, x1, ())) (2 * id + 1) = .undef := by
    intro id
    show get [(0, D.sl 0 (.int .u8) x0), (2, D.sl 0 (.int .u8) x1)] (2 * id + 1) = .undef
    have e0 : Nat.beq (2 * id + 1) 0 = false := nbeq_f (by omega)
    have e1 : Nat.beq (2 * id + 1) 2 = false := nbeq_f (by omega)
    simp only [get, e0, e1, cond_false]
  have g1 : ∀ id, get (ifOut c53 (cmpB x0 x1, ())) (2 * id + 1) = .undef := by
    intro id
    show get [(0, D.int .i64 (cmpB x0 x1))] (2 * id + 1) = .undef
    have e0 : Nat.beq (2 * id + 1) 0 = false := nbeq_f (by omega)
    simp only [get, e0, cond_false]
  have g2 : ∀ t, 1 ≤ t → get (ifOut c53 (cmpB x0 x1, ())) (2 * t) = .undef := by
    intro t ht
    show get [(0, D.int .i64 (cmpB x0 x1))] (2 * t) = .undef
    have e0 : Nat.beq (2 * t) 0 = false := nbeq_f (by omega)
    simp only [get, e0, cond_false]
  have R' : Rel (ifE E c53.rs.num c53.hasP) C (ifOut c53 (cmpB x0 x1, ())) { tmps := #[.int .i64 (cmpB x0 x1)], defers := [] } w' G pt := by
    refine R.make rfl rfl rfl rfl rfl rfl (fun t => ?_) (fun id => ?_) (fun t ht => g2 t ht) (fun id hid => g1 id) (fun b => ?_) (fun id st h => ?_) R.pn
    · cases t with
      | zero => exact ⟨rfl, cmpB_has _ _⟩
      | succ t => rw [g2 (t + 1) (by omega)]; trivial
    · rw [g1]; trivial
    · have z1 : sumN (ifE E c53.rs.num c53.hasP).n (cT (ifOut c53 (cmpB x0 x1, ())) { tmps := #[.int .i64 (cmpB x0 x1)], defers := [] } b) = 0 := sumN_zero fun i hi => by
        have : i = 0 := by have : i < 1 := hi; omega
        subst this
        rfl
      have z2 : sumN C.m (cB (ifOut c53 (cmpB x0 x1, ())) w' pt b) = 0 := sumN_zero fun i hi => by
        rw [cB, g1]
        rfl
      unfold TC
      rw [z1, z2]
      omega
    · rw [g1] at h
      have := R.pf id st
      rw [g0] at this
      exact this h
  exact hK _ _ _ _ R'
theorem ok53 : FunOk Try.prog B 53 c53 := ⟨by decide, sem53, Try.f53, Try.func53, by kernel_rfl, by kernel_rfl⟩
end Go.Abs.C07

/- Chapter 07: the advert that is tried first. -/
namespace Go.Abs.C07
open Go Go.Proofs Sp07

theorem g18_ok   : g18  = some (true, ()) := by
  kernel_rfl
end Go.Abs.C07

/- Chapter 07: the functions keep their contracts. -/
namespace Go.Abs.C07
open Go Go.Proofs
theorem ok94 : FunOk Try.prog B 94 c94 := glue L0 gam_nil plan94 Try.func94 (by kernel_rfl) (by
  rintro ⟨⟨⟩, a0, ⟨⟩⟩ y r h
  obtain ⟨h1, h2⟩ := Sp07.on_some h
  subst h2
  exact (g94_eq a0).trans (g94_ok a0 r.2.1 h1))
theorem all94 : ∀ g con, lookC L94 g = some con → FunOk Try.prog B g con := gam_cons rfl ok94 gam_nil

theorem ok51 : FunOk Try.prog B 51 c51 := glue L94 all94 plan51 Try.func51 (by kernel_rfl) (by
  rintro ⟨⟨⟩, a0, a1, ⟨⟩⟩ y r h
  obtain ⟨h1, h2⟩ := Sp07.on_some h
  subst h2
  exact (g51_eq a0 a1).trans (g51_ok a0 a1 r.2.1 r.2.2.1 h1))
theorem all51 : ∀ g con, lookC L51 g = some con → FunOk Try.prog B g con := gam_cons rfl ok51 all94

theorem ok71 : FunOk Try.prog B 71 c71 := glue L51 all51 plan71 Try.func71 (by kernel_rfl) (by
  rintro ⟨⟨⟩, ⟨a0, a1, ⟨⟩⟩, a2, ⟨⟩⟩ y r h
  obtain ⟨h1, h2⟩ := Sp07.on_some h
  subst h2
  exact (g71_eq a0 a1 a2).trans (g71_ok a0 a1 a2 r.2.1.1 r.2.1.2.1 r.2.2.1 h1))
theorem all71 : ∀ g con, lookC L71 g = some con → FunOk Try.prog B g con := gam_cons rfl ok71 all51

theorem ok70 : FunOk Try.prog B 70 c70 := glue L71 all71 plan70 Try.func70 (by kernel_rfl) (by
  rintro ⟨⟨⟩, ⟨a0, a1, ⟨⟩⟩, ⟨⟩⟩ y r h
  exact (g70_eq a0 a1).trans ((g70_ok a0 a1 r.2.1.1 r.2.1.2.1).trans h))
theorem all70 : ∀ g con, lookC L70 g = some con → FunOk Try.prog B g con := gam_cons rfl ok70 all71

theorem ok50 : FunOk Try.prog B 50 c50 := glue L70 all70 plan50 Try.func50 (by kernel_rfl) (by
  rintro ⟨⟨⟩, ⟨a0, a1, ⟨⟩⟩, ⟨⟩⟩ y r h
  exact (g50_eq a0 a1).trans ((g50_ok a0 a1 r.2.1.1 r.2.1.2.1).trans h))
theorem all50 : ∀ g con, lookC L50 g = some con → FunOk Try.prog B g con := gam_cons rfl ok50 all70

theorem ok45 : FunOk Try.prog B 45 c45 := glue L50 all50 plan45 Try.func45 (by kernel_rfl) (by
  rintro ⟨⟨a0, a1, ⟨⟩⟩, ⟨⟩⟩ y r h
  obtain ⟨h1, h2⟩ := Sp07.on_some h
  subst h2
  exact (g45_eq a0 a1).trans (g45_ok a0 a1 r.1.1 r.1.2.1 h1))
theorem all45 : ∀ g con, lookC L45 g = some con → FunOk Try.prog B g con := gam_cons rfl ok45 all50

theorem ok44 : FunOk Try.prog B 44 c44 := glue L45 all45 plan44 Try.func44 (by kernel_rfl) (by
  rintro ⟨⟨⟩, a0, a1, ⟨⟩⟩ y r h
  exact (g44_eq a0 a1).trans ((g44_ok a0 a1 r.2.1 r.2.2.1).trans h))
theorem all44 : ∀ g con, lookC L44 g = some con → FunOk Try.prog B g con := gam_cons rfl ok44 all45

theorem ok19 : FunOk Try.prog B 19 c19 := glue L44 all44 plan19 Try.func19 (by kernel_rfl) (by
  rintro ⟨⟨a0, a1, ⟨⟩⟩, a2, ⟨⟩⟩ y r h
  obtain ⟨h1, h2⟩ := Sp07.on_some h
  subst h2
  exact (g19_eq a0 a1 a2).trans (g19_ok a0 a1 a2 r.1.1 r.1.2.1 r.2.1 h1))
theorem all19 : ∀ g con, lookC L19 g = some con → FunOk Try.prog B g con := gam_cons rfl ok19 all44

theorem ok12 : FunOk Try.prog B 12 c12 := glue L19 all19 plan12 Try.func12 (by kernel_rfl) (by
  rintro ⟨⟨a0, a1, ⟨⟩⟩, a2, a3, ⟨⟩⟩ y r h
  obtain ⟨h1, h2⟩ := Sp07.on_some h
  subst h2
  exact (g12_eq a0 a1 a2 a3).trans (g12_ok a0 a1 a2 a3 r.1.1 r.1.2.1 r.2.1 r.2.2.1 h1))
theorem all12 : ∀ g con, lookC L12 g = some con → FunOk Try.prog B g con := gam_cons rfl ok12 all19

theorem ok36 : FunOk Try.prog B 36 c36 := glue L12 all12 plan36 Try.func36 (by kernel_rfl) (by
  rintro ⟨⟨a0, a1, ⟨⟩⟩, a2, ⟨⟩⟩ y r h
  obtain ⟨h1, h2⟩ := Sp07.on_some h
  subst h2
  exact (g36_eq a0 a1 a2).trans (g36_ok a0 a1 a2 r.1.1 r.1.2.1 r.2.1 h1))
theorem all36 : ∀ g con, lookC L36 g = some con → FunOk Try.prog B g con := gam_cons rfl ok36 all12

theorem ok22 : FunOk Try.prog B 22 c22 := glue L36 all36 plan22 Try.func22 (by kernel_rfl) (by
  rintro ⟨⟨a0, a1, ⟨⟩⟩, a2, ⟨⟩⟩ y r h
  obtain ⟨h1, h2⟩ := Sp07.on_some h
  subst h2
  exact (g22_eq a0 a1 a2).trans (g22_ok a0 a1 a2 r.1.1 r.1.2.1 r.2.1 h1))
theorem all22 : ∀ g con, lookC L22 g = some con → FunOk Try.prog B g con := gam_cons rfl ok22 all36

theorem ok37 : FunOk Try.prog B 37 c37 := glue L22 all22 plan37 Try.func37 (by kernel_rfl) (by
  rintro ⟨⟨a0, a1, ⟨⟩⟩, ⟨⟩⟩ y r h
  obtain ⟨h1, h2⟩ := Sp07.on_some h
  subst h2
  exact (g37_eq a0 a1).trans (g37_ok a0 a1 r.1.1 r.1.2.1 h1))
theorem all37 : ∀ g con, lookC L37 g = some con → FunOk Try.prog B g con := gam_cons rfl ok37 all22

theorem ok52 : FunOk Try.prog B 52 c52 := glue L37 all37 plan52 Try.func52 (by kernel_rfl) (by
  rintro ⟨⟨⟩, ⟨a0, a1, ⟨⟩⟩, a2, ⟨⟩⟩ y r h
  obtain ⟨h1, h2⟩ := Sp07.on_some h
  subst h2
  exact (g52_eq a0 a1 a2).trans (g52_ok a0 a1 a2 r.2.1.1 r.2.1.2.1 r.2.2.1 h1))
theorem all52 : ∀ g con, lookC L52 g = some con → FunOk Try.prog B g con := gam_cons rfl ok52 all37

theorem ok48 : FunOk Try.prog B 48 c48 := glue L52 all52 plan48 Try.func48 (by kernel_rfl) (by
  rintro ⟨⟨⟩, ⟨a0, a1, ⟨⟩⟩, a2, a3, ⟨⟩⟩ y r h
  exact (g48_eq a0 a1 a2 a3).trans ((g48_ok a0 a1 a2 a3 r.2.1.1 r.2.1.2.1 r.2.2.1 r.2.2.2.1).trans h))
theorem all48 : ∀ g con, lookC L48 g = some con → FunOk Try.prog B g con := gam_cons rfl ok48 all52

theorem ok92 : FunOk Try.prog B 92 c92 := glue L48 all48 plan92 Try.func92 (by kernel_rfl) (by
  rintro ⟨⟨⟩, ⟨a0, a1, ⟨⟩⟩, ⟨⟩⟩ y r h
  exact (g92_eq a0 a1).trans ((g92_ok a0 a1 r.2.1.1 r.2.1.2.1).trans h))
theorem all92 : ∀ g con, lookC L92 g = some con → FunOk Try.prog B g con := gam_cons rfl ok92 all48

theorem ok93 : FunOk Try.prog B 93 c93 := glue L92 all92 plan93 Try.func93 (by kernel_rfl) (by
  rintro ⟨⟨a0, a1, ⟨⟩⟩, a2, a3, ⟨⟩⟩ y r h
  obtain ⟨h1, h2⟩ := Sp07.on_some h
  subst h2
  exact (g93_eq a0 a1 a2 a3).trans (g93_ok a0 a1 a2 a3 r.1.1 r.1.2.1 r.2.1 r.2.2.1 h1))
theorem all93 : ∀ g con, lookC L93 g = some con → FunOk Try.prog B g con := gam_cons rfl ok93 all92

theorem ok95 : FunOk Try.prog B 95 c95 := glue L93 all93 plan95 Try.func95 (by kernel_rfl) (by
  rintro ⟨⟨⟩, ⟨a0, a1, ⟨⟩⟩, a2, a3, ⟨⟩⟩ y r h
  obtain ⟨h1, h2⟩ := Sp07.on_some h
  subst h2
  exact (g95_eq a0 a1 a2 a3).trans (g95_ok a0 a1 a2 a3 r.2.1.1 r.2.1.2.1 r.2.2.1 r.2.2.2.1 h1))
theorem all95 : ∀ g con, lookC L95 g = some con → FunOk Try.prog B g con := gam_cons rfl ok95 all93

theorem ok73 : FunOk Try.prog B 73 c73 := glue L95 all95 plan73 Try.func73 (by kernel_rfl) (by
  rintro ⟨⟨a0, a1, ⟨⟩⟩, ⟨a2, a3, ⟨⟩⟩, a4, a5, ⟨⟩⟩ y r h
  obtain ⟨h1, h2⟩ := Sp07.on_some h
  subst h2
  exact (g73_eq a0 a1 a2 a3 a4 a5).trans (g73_ok a0 a1 a2 a3 a4 a5 r.1.1 r.1.2.1 r.2.1.1 r.2.1.2.1 r.2.2.1 r.2.2.2.1 h1))
theorem all73 : ∀ g con, lookC L73 g = some con → FunOk Try.prog B g con := gam_cons rfl ok73 all95

theorem ok69 : FunOk Try.prog B 69 c69 := glue L73 all73 plan69 Try.func69 (by kernel_rfl) (by
  rintro ⟨⟨⟩, ⟨a0, a1, ⟨⟩⟩, a2, a3, ⟨⟩⟩ y r h
  exact (g69_eq a0 a1 a2 a3).trans ((g69_ok a0 a1 a2 a3 r.2.1.1 r.2.1.2.1 r.2.2.1 r.2.2.2.1).trans h))
theorem all69 : ∀ g con, lookC L69 g = some con → FunOk Try.prog B g con := gam_cons rfl ok69 all73

theorem ok49 : FunOk Try.prog B 49 c49 := glue L69 all69 plan49 Try.func49 (by kernel_rfl) (by
  rintro ⟨⟨⟩, ⟨a0, a1, ⟨⟩⟩, a2, a3, ⟨⟩⟩ y r h
  exact (g49_eq a0 a1 a2 a3).trans ((g49_ok a0 a1 a2 a3 r.2.1.1 r.2.1.2.1 r.2.2.1 r.2.2.2.1).trans h))
theorem all49 : ∀ g con, lookC L49 g = some con → FunOk Try.prog B g con := gam_cons rfl ok49 all69

theorem ok72 : FunOk Try.prog B 72 c72 := glue L49 all49 plan72 Try.func72 (by kernel_rfl) (by
  rintro ⟨⟨⟩, ⟨a0, a1, ⟨⟩⟩, a2, a3, ⟨⟩⟩ y r h
  exact (g72_eq a0 a1 a2 a3).trans ((g72_ok a0 a1 a2 a3 r.2.1.1 r.2.1.2.1 r.2.2.1 r.2.2.2.1).trans h))
theorem all72 : ∀ g con, lookC L72 g = some con → FunOk Try.prog B g con := gam_cons rfl ok72 all49

theorem ok74 : FunOk Try.prog B 74 c74 := glue L72 all72 plan74 Try.func74 (by kernel_rfl) (by
  rintro ⟨⟨⟩, ⟨a0, a1, ⟨⟩⟩, a2, a3, ⟨⟩⟩ y r h
  exact (g74_eq a0 a1 a2 a3).trans ((g74_ok a0 a1 a2 a3 r.2.1.1 r.2.1.2.1 r.2.2.1 r.2.2.2.1).trans h))
theorem all74 : ∀ g con, lookC L74 g = some con → FunOk Try.prog B g con := gam_cons rfl ok74 all72

theorem ok39 : FunOk Try.prog B 39 c39 := glue L74 all74 plan39 Try.func39 (by kernel_rfl) (by
  rintro ⟨⟨⟩, ⟨a0, a1, ⟨⟩⟩, ⟨⟩⟩ y r h
  exact (g39_eq a0 a1).trans ((g39_ok a0 a1 r.2.1.1 r.2.1.2.1).trans h))
theorem all39 : ∀ g con, lookC L39 g = some con → FunOk Try.prog B g con := gam_cons rfl ok39 all74

theorem ok23 : FunOk Try.prog B 23 c23 := glue L39 all39 plan23 Try.func23 (by kernel_rfl) (by
  rintro ⟨⟨⟩, ⟨a0, a1, ⟨⟩⟩, ⟨⟩⟩ y r h
  exact (g23_eq a0 a1).trans ((g23_ok a0 a1 r.2.1.1 r.2.1.2.1).trans h))
theorem all23 : ∀ g con, lookC L23 g = some con → FunOk Try.prog B g con := gam_cons rfl ok23 all39

theorem ok10 : FunOk Try.prog B 10 c10 := glue L23 all23 plan10 Try.func10 (by kernel_rfl) (by
  rintro ⟨⟨⟩, a0, ⟨⟩⟩ y r h
  exact (g10_eq a0).trans ((g10_ok a0 r.2.1).trans h))
theorem all10 : ∀ g con, lookC L10 g = some con → FunOk Try.prog B g con := gam_cons rfl ok10 all23

theorem ok24 : FunOk Try.prog B 24 c24 := glue L10 all10 plan24 Try.func24 (by kernel_rfl) (by
  rintro ⟨⟨⟩, ⟨a0, a1, ⟨⟩⟩, ⟨⟩⟩ y r h
  exact (g24_eq a0 a1).trans ((g24_ok a0 a1 r.2.1.1 r.2.1.2.1).trans h))
theorem all24 : ∀ g con, lookC L24 g = some con → FunOk Try.prog B g con := gam_cons rfl ok24 all10

theorem ok43 : FunOk Try.prog B 43 c43 := glue L24 all24 plan43 Try.func43 (by kernel_rfl) (by
  rintro ⟨⟨⟩, ⟨a0, a1, ⟨⟩⟩, a2, a3, ⟨⟩⟩ y r h
  exact (g43_eq a0 a1 a2 a3).trans ((g43_ok a0 a1 a2 a3 r.2.1.1 r.2.1.2.1 r.2.2.1 r.2.2.2.1).trans h))
theorem all43 : ∀ g con, lookC L43 g = some con → FunOk Try.prog B g con := gam_cons rfl ok43 all24

theorem ok54 : FunOk Try.prog B 54 c54 := glue L43 all43 plan54 Try.func54 (by kernel_rfl) (by
  rintro ⟨⟨⟩, a0, a1, a2, ⟨⟩⟩ y r h
  exact (g54_eq a0 a1 a2).trans ((g54_ok a0 a1 a2 r.2.1 r.2.2.1 r.2.2.2.1).trans h))
theorem all54 : ∀ g con, lookC L54 g = some con → FunOk Try.prog B g con := gam_cons rfl ok54 all43

theorem ok56 : FunOk Try.prog B 56 c56 := glue L54 all54 plan56 Try.func56 (by kernel_rfl) (by
  rintro ⟨⟨⟩, a0, a1, a2, ⟨⟩⟩ y r h
  exact (g56_eq a0 a1 a2).trans ((g56_ok a0 a1 a2 r.2.1 r.2.2.1 r.2.2.2.1).trans h))
theorem all56 : ∀ g con, lookC L56 g = some con → FunOk Try.prog B g con := gam_cons rfl ok56 all54

theorem ok55 : FunOk Try.prog B 55 c55 := glue L56 all56 plan55 Try.func55 (by kernel_rfl) (by
  rintro ⟨⟨⟩, a0, ⟨⟩⟩ y r h
  exact (g55_eq a0).trans ((g55_ok a0 r.2.1).trans h))
theorem all55 : ∀ g con, lookC L55 g = some con → FunOk Try.prog B g con := gam_cons rfl ok55 all56

theorem ok76 : FunOk Try.prog B 76 c76 := glue L55 all55 plan76 Try.func76 (by kernel_rfl) (by
  rintro ⟨⟨⟩, a0, ⟨⟩⟩ y r h
  exact (g76_eq a0).trans ((g76_ok a0 r.2.1).trans h))
theorem all76 : ∀ g con, lookC L76 g = some con → FunOk Try.prog B g con := gam_cons rfl ok76 all55

theorem ok57 : FunOk Try.prog B 57 c57 := glue L76 all76 plan57 Try.func57 (by kernel_rfl) (by
  rintro ⟨⟨⟩, a0, ⟨⟩⟩ y r h
  exact (g57_eq a0).trans ((g57_ok a0 r.2.1).trans h))
theorem all57 : ∀ g con, lookC L57 g = some con → FunOk Try.prog B g con := gam_cons rfl ok57 all76

theorem ok27 : FunOk Try.prog B 27 c27 := glue L57 all57 plan27 Try.func27 (by kernel_rfl) (by
  rintro ⟨⟨⟩, ⟨a0, a1, a2, a3, a4, ⟨⟩⟩, ⟨⟩⟩ y r h
  exact (g27_eq a0 a1 a2 a3 a4).trans ((g27_ok a0 a1 a2 a3 a4 r.2.1.1 r.2.1.2.1 r.2.1.2.2.2.1 r.2.1.2.2.2.2.1).trans h))
theorem all27 : ∀ g con, lookC L27 g = some con → FunOk Try.prog B g con := gam_cons rfl ok27 all57

theorem ok28 : FunOk Try.prog B 28 c28 := glue L27 all27 plan28 Try.func28 (by kernel_rfl) (by
  rintro ⟨⟨⟩, ⟨a0, a1, a2, a3, a4, ⟨⟩⟩, ⟨⟩⟩ y r h
  exact (g28_eq a0 a1 a2 a3 a4).trans ((g28_ok a0 a1 a2 a3 a4 r.2.1.1 r.2.1.2.1 r.2.1.2.2.2.1 r.2.1.2.2.2.2.1).trans h))
theorem all28 : ∀ g con, lookC L28 g = some con → FunOk Try.prog B g con := gam_cons rfl ok28 all27

theorem ok58 : FunOk Try.prog B 58 c58 := glue L28 all28 plan58 Try.func58 (by kernel_rfl) (by
  rintro ⟨⟨⟩, a0, a1, ⟨⟩⟩ y r h
  exact (g58_eq a0 a1).trans ((g58_ok a0 a1 r.2.1 r.2.2.1).trans h))
theorem all58 : ∀ g con, lookC L58 g = some con → FunOk Try.prog B g con := gam_cons rfl ok58 all28

theorem ok59 : FunOk Try.prog B 59 c59 := glue L58 all58 plan59 Try.func59 (by kernel_rfl) (by
  rintro ⟨⟨⟩, a0, a1, ⟨⟩⟩ y r h
  exact (g59_eq a0 a1).trans ((g59_ok a0 a1 r.2.1 r.2.2.1).trans h))
theorem all59 : ∀ g con, lookC L59 g = some con → FunOk Try.prog B g con := gam_cons rfl ok59 all58

theorem ok29 : FunOk Try.prog B 29 c29 := glue L59 all59 plan29 Try.func29 (by kernel_rfl) (by
  rintro ⟨⟨⟩, ⟨a0, a1, a2, a3, a4, ⟨⟩⟩, ⟨a5, a6, a7, a8, a9, ⟨⟩⟩, ⟨⟩⟩ y r h
  exact (g29_eq a0 a1 a2 a3 a4 a5 a6 a7 a8 a9).trans ((g29_ok a0 a1 a2 a3 a4 a5 a6 a7 a8 a9 r.2.1.1 r.2.1.2.1 r.2.1.2.2.2.1 r.2.1.2.2.2.2.1 r.2.2.1.1 r.2.2.1.2.1 r.2.2.1.2.2.2.1 r.2.2.1.2.2.2.2.1).trans h))
theorem all29 : ∀ g con, lookC L29 g = some con → FunOk Try.prog B g con := gam_cons rfl ok29 all59

theorem ok17 : FunOk Try.prog B 17 c17 := glue L29 all29 plan17 Try.func17 (by kernel_rfl) (by
  rintro ⟨⟨⟩, ⟨a0, a1, a2, a3, a4, ⟨⟩⟩, ⟨a5, a6, a7, a8, a9, ⟨⟩⟩, ⟨⟩⟩ y r h
  exact (g17_eq a0 a1 a2 a3 a4 a5 a6 a7 a8 a9).trans ((g17_ok a0 a1 a2 a3 a4 a5 a6 a7 a8 a9 r.2.1.1 r.2.1.2.1 r.2.1.2.2.2.1 r.2.1.2.2.2.2.1 r.2.2.1.1 r.2.2.1.2.1 r.2.2.1.2.2.2.1 r.2.2.1.2.2.2.2.1).trans h))
theorem all17 : ∀ g con, lookC L17 g = some con → FunOk Try.prog B g con := gam_cons rfl ok17 all29

theorem ok13 : FunOk Try.prog B 13 c13 := glue L17 all17 plan13 Try.func13 (by kernel_rfl) (by
  rintro ⟨⟨⟩, ⟨a0, a1, a2, a3, a4, ⟨⟩⟩, ⟨⟩⟩ y r h
  exact (g13_eq a0 a1 a2 a3 a4).trans ((g13_ok a0 a1 a2 a3 a4 r.2.1.1 r.2.1.2.1 r.2.1.2.2.2.1 r.2.1.2.2.2.2.1).trans h))
theorem all13 : ∀ g con, lookC L13 g = some con → FunOk Try.prog B g con := gam_cons rfl ok13 all17

theorem ok38 : FunOk Try.prog B 38 c38 := glue L13 all13 plan38 Try.func38 (by kernel_rfl) (by
  rintro ⟨⟨a0, a1, ⟨⟩⟩, a2, a3, ⟨⟩⟩ y r h
  exact (g38_eq a0 a1 a2 a3).trans ((g38_ok a0 a1 a2 a3 r.1.1 r.1.2.1 r.2.1 r.2.2.1).trans h))
theorem all38 : ∀ g con, lookC L38 g = some con → FunOk Try.prog B g con := gam_cons rfl ok38 all13

theorem ok40 : FunOk Try.prog B 40 c40 := glue L38 all38 plan40 Try.func40 (by kernel_rfl) (by
  rintro ⟨⟨⟩, ⟨a0, a1, ⟨⟩⟩, a2, a3, ⟨⟩⟩ y r h
  exact (g40_eq a0 a1 a2 a3).trans ((g40_ok a0 a1 a2 a3 r.2.1.1 r.2.1.2.1 r.2.2.1 r.2.2.2.1).trans h))
theorem all40 : ∀ g con, lookC L40 g = some con → FunOk Try.prog B g con := gam_cons rfl ok40 all38

theorem ok21 : FunOk Try.prog B 21 c21 := glue L40 all40 plan21 Try.func21 (by kernel_rfl) (by
  rintro ⟨⟨⟩, ⟨a0, a1, ⟨⟩⟩, a2, a3, ⟨⟩⟩ y r h
  exact (g21_eq a0 a1 a2 a3).trans ((g21_ok a0 a1 a2 a3 r.2.1.1 r.2.1.2.1 r.2.2.1 r.2.2.2.1).trans h))
theorem all21 : ∀ g con, lookC L21 g = some con → FunOk Try.prog B g con := gam_cons rfl ok21 all40

theorem ok41 : FunOk Try.prog B 41 c41 := glue L21 all21 plan41 Try.func41 (by kernel_rfl) (by
  rintro ⟨⟨⟩, a0, ⟨⟩⟩ y r h
  obtain ⟨h1, h2⟩ := Sp07.on_some h
  subst h2
  exact (g41_eq a0).trans (g41_ok a0 r.2.1 h1))
theorem all41 : ∀ g con, lookC L41 g = some con → FunOk Try.prog B g con := gam_cons rfl ok41 all21

theorem ok47 : FunOk Try.prog B 47 c47 := glue L41 all41 plan47 Try.func47 (by kernel_rfl) (by
  rintro ⟨⟨⟩, a0, ⟨⟩⟩ y r h
  obtain ⟨h1, h2⟩ := Sp07.on_some h
  subst h2
  exact (g47_eq a0).trans (g47_ok a0 r.2.1 h1))
theorem all47 : ∀ g con, lookC L47 g = some con → FunOk Try.prog B g con := gam_cons rfl ok47 all41

theorem ok14 : FunOk Try.prog B 14 c14 := glue L47 all47 plan14 Try.func14 (by kernel_rfl) (by
  rintro ⟨⟨⟩, ⟨a0, a1, a2, a3, a4, ⟨⟩⟩, ⟨⟩⟩ y r h
  exact (g14_eq a0 a1 a2 a3 a4).trans ((g14_ok a0 a1 a2 a3 a4 r.2.1.1 r.2.1.2.1 r.2.1.2.2.2.1 r.2.1.2.2.2.2.1).trans h))
theorem all14 : ∀ g con, lookC L14 g = some con → FunOk Try.prog B g con := gam_cons rfl ok14 all47

theorem ok15 : FunOk Try.prog B 15 c15 := glue L14 all14 plan15 Try.func15 (by kernel_rfl) (by
  rintro ⟨⟨⟩, ⟨a0, a1, a2, a3, a4, ⟨⟩⟩, ⟨⟩⟩ y r h
  exact (g15_eq a0 a1 a2 a3 a4).trans ((g15_ok a0 a1 a2 a3 a4 r.2.1.1 r.2.1.2.1 r.2.1.2.2.2.1 r.2.1.2.2.2.2.1).trans h))
theorem all15 : ∀ g con, lookC L15 g = some con → FunOk Try.prog B g con := gam_cons rfl ok15 all14

theorem ok42 : FunOk Try.prog B 42 c42 := glue L15 all15 plan42 Try.func42 (by kernel_rfl) (by
  rintro ⟨⟨a0, a1, a2, a3, ⟨⟩⟩, a4, ⟨⟩⟩ y r h
  obtain ⟨h1, h2⟩ := Sp07.on_some h
  subst h2
  exact (g42_eq a0 a1 a2 a3 a4).trans (g42_ok a0 a1 a2 a3 a4 r.1.1 r.1.2.1 r.1.2.2.1 r.2.1 h1))
theorem all42 : ∀ g con, lookC L42 g = some con → FunOk Try.prog B g con := gam_cons rfl ok42 all15

theorem ok46 : FunOk Try.prog B 46 c46 := glue L42 all42 plan46 Try.func46 (by kernel_rfl) (by
  rintro ⟨⟨⟩, ⟨a0, a1, ⟨⟩⟩, a2, a3, ⟨⟩⟩ y r h
  obtain ⟨h1, h2⟩ := Sp07.on_some h
  subst h2
  exact (g46_eq a0 a1 a2 a3).trans (g46_ok a0 a1 a2 a3 r.2.1.1 r.2.1.2.1 r.2.2.1 r.2.2.2.1 h1))
theorem all46 : ∀ g con, lookC L46 g = some con → FunOk Try.prog B g con := gam_cons rfl ok46 all42

theorem ok16 : FunOk Try.prog B 16 c16 := glue L46 all46 plan16 Try.func16 (by kernel_rfl) (by
  rintro ⟨⟨⟩, a0, ⟨⟩⟩ y r h
  exact (g16_eq a0).trans ((g16_ok a0 r.2.1).trans h))
theorem all16 : ∀ g con, lookC L16 g = some con → FunOk Try.prog B g con := gam_cons rfl ok16 all46

theorem ok20 : FunOk Try.prog B 20 c20 := glue L16 all16 plan20 Try.func20 (by kernel_rfl) (by
  rintro ⟨⟨⟩, a0, ⟨⟩⟩ y r h
  exact (g20_eq a0).trans ((g20_ok a0 r.2.1).trans h))
theorem all20 : ∀ g con, lookC L20 g = some con → FunOk Try.prog B g con := gam_cons rfl ok20 all16

theorem all53 : ∀ g con, lookC L53 g = some con → FunOk Try.prog B g con := gam_cons rfl ok53 all20

theorem ok25 : FunOk Try.prog B 25 c25 := glue L53 all53 plan25 Try.func25 (by kernel_rfl) (by
  rintro ⟨⟨⟩, ⟨a0, a1, a2, a3, a4, ⟨⟩⟩, ⟨a5, a6, a7, a8, a9, ⟨⟩⟩, ⟨⟩⟩ y r h
  exact (g25_eq a0 a1 a2 a3 a4 a5 a6 a7 a8 a9).trans ((g25_ok a0 a1 a2 a3 a4 a5 a6 a7 a8 a9 r.2.1.1 r.2.1.2.1 r.2.1.2.2.2.1 r.2.1.2.2.2.2.1 r.2.2.1.1 r.2.2.1.2.1 r.2.2.1.2.2.2.1 r.2.2.1.2.2.2.2.1).trans h))
theorem all25 : ∀ g con, lookC L25 g = some con → FunOk Try.prog B g con := gam_cons rfl ok25 all53

theorem ok26 : FunOk Try.prog B 26 c26 := glue L25 all25 plan26 Try.func26 (by kernel_rfl) (by
  rintro ⟨⟨⟩, ⟨a0, a1, a2, a3, a4, ⟨⟩⟩, ⟨a5, a6, a7, a8, a9, ⟨⟩⟩, ⟨⟩⟩ y r h
  exact (g26_eq a0 a1 a2 a3 a4 a5 a6 a7 a8 a9).trans ((g26_ok a0 a1 a2 a3 a4 a5 a6 a7 a8 a9 r.2.1.1 r.2.1.2.1 r.2.1.2.2.2.1 r.2.1.2.2.2.2.1 r.2.2.1.1 r.2.2.1.2.1 r.2.2.1.2.2.2.1 r.2.2.1.2.2.2.2.1).trans h))
theorem all26 : ∀ g con, lookC L26 g = some con → FunOk Try.prog B g con := gam_cons rfl ok26 all25

theorem ok18 : FunOk Try.prog B 18 c18 := glue L26 all26 plan18 Try.func18 (by kernel_rfl) (by
  rintro ⟨⟨⟩, ⟨⟩⟩ y r h
  exact (g18_eq ).trans ((g18_ok  ).trans h))
theorem all18 : ∀ g con, lookC L18 g = some con → FunOk Try.prog B g con := gam_cons rfl ok18 all26

theorem ok35 : FunOk Try.prog B 35 c35 := glue L18 all18 plan35 Try.func35 (by kernel_rfl) (by
  rintro ⟨⟨a0, a1, ⟨⟩⟩, ⟨⟩⟩ y r h
  obtain ⟨h1, h2⟩ := Sp07.on_some h
  subst h2
  exact (g35_eq a0 a1).trans (g35_ok a0 a1 r.1.1 r.1.2.1 h1))
theorem all35 : ∀ g con, lookC L35 g = some con → FunOk Try.prog B g con := gam_cons rfl ok35 all18

theorem ok11 : FunOk Try.prog B 11 c11 := glue L35 all35 plan11 Try.func11 (by kernel_rfl) (by
  rintro ⟨⟨a0, a1, ⟨⟩⟩, a2, a3, ⟨⟩⟩ y r h
  obtain ⟨h1, h2⟩ := Sp07.on_some h
  subst h2
  exact (g11_eq a0 a1 a2 a3).trans (g11_ok a0 a1 a2 a3 r.1.1 r.1.2.1 r.2.1 r.2.2.1 h1))
theorem all11 : ∀ g con, lookC L11 g = some con → FunOk Try.prog B g con := gam_cons rfl ok11 all35
end Go.Abs.C07

/- Chapter 07: what is written is read, what is read is written. -/
namespace Go.Abs.C07
open Go Go.Proofs Sp07
set_option maxRecDepth 100000

/-! Sameness. -/
theorem sameR_iff : ∀ {a b : List Rc}, sameR a b = true ↔ a = b
  | [], [] => by simp [sameR]
  | [], _ :: _ => by simp [sameR]
  | _ :: _, [] => by simp [sameR]
  | x :: a, y :: b => by
    obtain ⟨x1, x2, x3, ⟨⟩⟩ := x
    obtain ⟨y1, y2, y3, ⟨⟩⟩ := y
    simp only [sameR, Bool.and_eq_true, decide_eq_true_eq, sameR_iff (a := a) (b := b), List.cons.injEq, Prod.mk.injEq, and_true]
    simp only [and_assoc]
theorem sameA_iff {a b : Ad} : sameA a b = true ↔ a = b := by
  obtain ⟨a1, a2, a3, a4, a5, ⟨⟩⟩ := a
  obtain ⟨b1, b2, b3, b4, b5, ⟨⟩⟩ := b
  simp only [sameA, Bool.and_eq_true, decide_eq_true_eq, sameR_iff, beq_iff_eq, Prod.mk.injEq, and_true]
  simp only [and_assoc]
theorem sameA_self (a : Ad) : sameA a a = true := sameA_iff.2 rfl

/-! A field of a packed row. -/
theorem bitsR_pack (bs : List Bool) (p w : Nat) : bitsR (pack bs) p w = (List.range w).map fun j => bs.getD (p + j) false := by
  unfold bitsR
  refine List.map_congr_left fun j _ => ?_
  rw [bitAt_pack]
theorem bitsR_at (pre mid post : List Bool) : bitsR (pack (pre ++ (mid ++ post))) pre.length mid.length = mid := by
  rw [bitsR_pack]
  refine bools_ext (by simp) fun i hi => ?_
  simp only [List.length_map, List.length_range] at hi
  have e : ((List.range mid.length).map fun j => (pre ++ (mid ++ post)).getD (pre.length + j) false).getD i false = (pre ++ (mid ++ post)).getD (pre.length + i) false := by
    simp [List.getD_eq_getElem?_getD, List.getElem?_map, List.getElem?_range hi]
  rw [e, getD_append, if_neg (by omega), getD_append, if_pos (by omega)]
  congr 1
  omega
theorem gv_at {bs : List Bool} (pre post : List Bool) {v w p : Nat} (h : bs = pre ++ (vbits v w ++ post)) (hp : p = pre.length) (hv : v < 2 ^ w) : gv (pack bs) p w = v := by
  subst h; subst hp
  have hlen : (pack (pre ++ (vbits v w ++ post))).length = (pre.length + (w + post.length) + 7) / 8 := by
    rw [pack_length]
    simp only [List.length_append, vbits_length]
  have hr := bitsR_at pre (vbits v w) post
  rw [vbits_length] at hr
  unfold gv
  rw [decide_eq_true (by omega), hr, valOf_vbits v w hv]
  rfl
theorem pow_lt (v n : Int) (w : Nat) (h0 : 0 ≤ v) (h : v < n) (hn : n = ((2 ^ w : Nat) : Int)) : v.toNat < 2 ^ w := by omega

theorem falses (bs : List Bool) (n p w : Nat) (h : bs.length ≤ p) : bitsR (pack bs) p w = vbits 0 w := by
  rw [bitsR_pack]
  unfold vbits
  refine List.map_congr_left fun j _ => ?_
  rw [getD_ge (by omega)]
  simp
theorem gv_end (bs : List Bool) (p w : Nat) (h : bs.length ≤ p) : gv (pack bs) p w = 0 := by
  unfold gv
  rw [falses bs 0 p w h, valOf_vbits 0 w (Nat.two_pow_pos w)]
  cases decide (p + w ≤ 8 * (pack bs).length) <;> rfl

/-- A sealed row is read as its fields say. -/
theorem decode_sealed {B : List Bool} (h : endB (pack (sealed B)) = B.length) : Sp07.decode (pack (sealed B)) = bif !validA (fields (pack (sealed B))) then (za, 1, ()) else (fields (pack (sealed B)), 0, ()) := by
  have hs : (sealed B).length = B.length + 16 := by simp [sealed, vbits_length]
  have hl : (pack (sealed B)).length = (B.length + 23) / 8 := by rw [pack_length, hs]
  have hc := crc_small B
  have g1 : gv (pack (sealed B)) B.length 16 = crc B := gv_at B [] (by simp [sealed]) rfl (by omega)
  have g2 : gv (pack (sealed B)) (B.length + 16) (free B.length) = 0 := gv_end _ _ _ (by omega)
  have g3 : bitsR (pack (sealed B)) 0 B.length = B := by
    have := bitsR_at [] B (vbits (crc B) 16)
    simpa [sealed] using this
  unfold Sp07.decode
  rw [h, g1, g2, g3, decide_eq_false (p := 8 * (pack (sealed B)).length < B.length + 16) (by omega), decide_eq_true (p := ((crc B : Nat) : Int) = ((crc B : Nat) : Int)) rfl, decide_eq_false (p := 8 * ((B.length + 23) / 8) < 8 * (pack (sealed B)).length) (by omega)]
  rfl

theorem flat_at {f : Rc → List Bool} : ∀ {l : List Rc} {i : Nat}, i < l.length → l.flatMap f = (l.take i).flatMap f ++ (f (l.getD i zr) ++ (l.drop (i + 1)).flatMap f)
  | [], i, h => by simp at h
  | x :: l, 0, _ => by simp
  | x :: l, i + 1, h => by
    have ih := flat_at (f := f) (l := l) (i := i) (by simpa using h)
    rw [List.flatMap_cons, List.take_succ_cons, List.flatMap_cons, List.drop_succ_cons, List.getD_cons_succ, List.append_assoc, ← ih]
theorem map_range_getD (l : List Rc) : (List.range l.length).map (fun i => l.getD i zr) = l := by
  refine List.ext_getElem (by simp) fun i hi hi' => ?_
  simp [List.getD_eq_getElem?_getD, hi']

/-! Reading what was written. -/
section
variable {a : Ad}
theorem code_back {n : Int} (h : vlen n = true) : decoded (code n) = n := by
  rcases vlen_iff h with rfl | rfl | rfl | rfl <;> rfl
theorem rdL_at {bs pre post : List Bool} {r : Rc} {p : Nat} (h : bs = pre ++ (bitsL r ++ post)) (hp : p = pre.length) (h1 : 0 ≤ r.1 ∧ r.1 < 128) (h2 : 0 ≤ r.2.1 ∧ r.2.1 < 1024) (h3 : 0 ≤ r.2.2.1 ∧ r.2.2.1 < 1024) : rdL (pack bs) p = r := by
  obtain ⟨r1, r2, r3, ⟨⟩⟩ := r
  simp only at h1 h2 h3
  subst hp
  unfold bitsL at h
  have g1 := gv_at (bs := bs) (p := pre.length) pre (vbits r2.toNat 10 ++ (vbits r3.toNat 10 ++ post)) (v := r1.toNat) (w := 7) (by rw [h]; simp only [List.append_assoc]) rfl (pow_lt r1 128 7 h1.1 h1.2 rfl)
  have g2 := gv_at (bs := bs) (p := pre.length + 7) (pre ++ vbits r1.toNat 7) (vbits r3.toNat 10 ++ post) (v := r2.toNat) (w := 10) (by rw [h]; simp only [List.append_assoc]) (by rw [List.length_append, vbits_length]) (pow_lt r2 1024 10 h2.1 h2.2 rfl)
  have g3 := gv_at (bs := bs) (p := pre.length + 17) (pre ++ (vbits r1.toNat 7 ++ vbits r2.toNat 10)) post (v := r3.toNat) (w := 10) (by rw [h]; simp only [List.append_assoc]) (by simp only [List.length_append, vbits_length]) (pow_lt r3 1024 10 h3.1 h3.2 rfl)
  unfold rdL
  rw [g1, g2, g3, Int.toNat_of_nonneg h1.1, Int.toNat_of_nonneg h2.1, Int.toNat_of_nonneg h3.1]
theorem rdC_at {bs pre post : List Bool} {r : Rc} {p : Nat} (h : bs = pre ++ (bitsC r ++ post)) (hp : p = pre.length) (h1 : 0 ≤ r.1 ∧ r.1 < 8) (h2 : 0 ≤ r.2.1 ∧ r.2.1 < 512) (h3 : vlen r.2.2.1 = true) : rdC (pack bs) p = r := by
  obtain ⟨r1, r2, r3, ⟨⟩⟩ := r
  simp only at h1 h2 h3
  subst hp
  unfold bitsC at h
  have h4 := code_lt (n := r3)
  have g1 := gv_at (bs := bs) (p := pre.length) pre (vbits r2.toNat 9 ++ (vbits (code r3).toNat 2 ++ post)) (v := r1.toNat) (w := 3) (by rw [h]; simp only [List.append_assoc]) rfl (pow_lt r1 8 3 h1.1 h1.2 rfl)
  have g2 := gv_at (bs := bs) (p := pre.length + 3) (pre ++ vbits r1.toNat 3) (vbits (code r3).toNat 2 ++ post) (v := r2.toNat) (w := 9) (by rw [h]; simp only [List.append_assoc]) (by rw [List.length_append, vbits_length]) (pow_lt r2 512 9 h2.1 h2.2 rfl)
  have g3 := gv_at (bs := bs) (p := pre.length + 12) (pre ++ (vbits r1.toNat 3 ++ vbits r2.toNat 9)) post (v := (code r3).toNat) (w := 2) (by rw [h]; simp only [List.append_assoc]) (by simp only [List.length_append, vbits_length]) (pow_lt (code r3) 4 2 h4.1 h4.2 rfl)
  unfold rdC
  rw [g1, g2, g3, Int.toNat_of_nonneg h1.1, Int.toNat_of_nonneg h2.1, Int.toNat_of_nonneg h4.1, code_back h3]

theorem sealed_app (x y : List Bool) : sealed (x ++ y) = x ++ (y ++ vbits (crc (x ++ y)) 16) := by simp only [sealed, List.append_assoc]
theorem written (ha : Good a) : endB (pack (sealed (body a))) = (body a).length ∧ fields (pack (sealed (body a))) = a := by
  obtain ⟨a1, a2, a3, a4, a5, ⟨⟩⟩ := a
  have q1 := ha.r
  have q2 := ha.q
  have q3 := ha.ln
  have q4 := ha.cn
  have q5 := ha.ls
  have q6 := ha.cs
  simp only at q1 q2 q3 q4 q5 q6
  generalize ht : vbits (crc (body (a1, a2, a3, a4, a5, ()))) 16 = tl
  have hb : sealed (body (a1, a2, a3, a4, a5, ())) = vbits a1.toNat 7 ++ (vbits a2.toNat 20 ++ ([a3] ++ (vbits a4.length 5 ++ (a4.flatMap bitsL ++ (vbits a5.length 4 ++ (a5.flatMap bitsC ++ tl)))))) := by
    subst ht
    simp only [sealed, body, head, List.append_assoc]
  have hn : nL (pack (sealed (body (a1, a2, a3, a4, a5, ())))) = a4.length := by
    unfold nL
    rw [gv_at (vbits a1.toNat 7 ++ (vbits a2.toNat 20 ++ [a3])) (a4.flatMap bitsL ++ (vbits a5.length 4 ++ (a5.flatMap bitsC ++ tl))) (v := a4.length) (w := 5) (by rw [hb]; simp only [List.append_assoc]) (by simp only [List.length_append, vbits_length, List.length_singleton]) (by omega)]
    rfl
  have hat : atC (pack (sealed (body (a1, a2, a3, a4, a5, ())))) = 33 + 27 * a4.length := by unfold atC; rw [hn]
  have hm : nC (pack (sealed (body (a1, a2, a3, a4, a5, ())))) = a5.length := by
    unfold nC
    rw [hat, gv_at (vbits a1.toNat 7 ++ (vbits a2.toNat 20 ++ ([a3] ++ (vbits a4.length 5 ++ a4.flatMap bitsL)))) (a5.flatMap bitsC ++ tl) (v := a5.length) (w := 4) (by rw [hb]; simp only [List.append_assoc]) (by simp only [List.length_append, vbits_length, List.length_singleton, flat_length bitsL_length]; omega) (by omega)]
    rfl
  have he : endB (pack (sealed (body (a1, a2, a3, a4, a5, ())))) = (body (a1, a2, a3, a4, a5, ())).length := by
    unfold endB
    rw [hat, hm]
    simp only [body, List.length_append, head_length, vbits_length, flat_length bitsL_length, flat_length bitsC_length]
    omega
  refine ⟨he, ?_⟩
  have f1 := gv_at (bs := sealed (body (a1, a2, a3, a4, a5, ()))) [] (vbits a2.toNat 20 ++ ([a3] ++ (vbits a4.length 5 ++ (a4.flatMap bitsL ++ (vbits a5.length 4 ++ (a5.flatMap bitsC ++ tl)))))) (v := a1.toNat) (w := 7) (p := 0) (by rw [hb]; rfl) rfl (pow_lt a1 128 7 (by omega) (by omega) rfl)
  have f2 := gv_at (bs := sealed (body (a1, a2, a3, a4, a5, ()))) (vbits a1.toNat 7) ([a3] ++ (vbits a4.length 5 ++ (a4.flatMap bitsL ++ (vbits a5.length 4 ++ (a5.flatMap bitsC ++ tl))))) (v := a2.toNat) (w := 20) (p := 7) (by rw [hb]) (by rw [vbits_length]) (pow_lt a2 1048576 20 (by omega) (by omega) rfl)
  have ho : vbits a3.toNat 1 = [a3] := by cases a3 <;> rfl
  have f3 := gv_at (bs := sealed (body (a1, a2, a3, a4, a5, ()))) (vbits a1.toNat 7 ++ vbits a2.toNat 20) (vbits a4.length 5 ++ (a4.flatMap bitsL ++ (vbits a5.length 4 ++ (a5.flatMap bitsC ++ tl)))) (v := a3.toNat) (w := 1) (p := 27) (by rw [hb, ho]; simp only [List.append_assoc]) (by simp only [List.length_append, vbits_length]) (by cases a3 <;> decide)
  have f4 : (List.range a4.length).map (fun i => rdL (pack (sealed (body (a1, a2, a3, a4, a5, ())))) (33 + 27 * i)) = a4 := by
    rw [← map_range_getD a4, List.length_map, List.length_range]
    refine List.map_congr_left fun i hi => ?_
    rw [List.mem_range] at hi
    rw [map_range_getD a4]
    obtain ⟨g1, _, g2, g3⟩ := badL_false (q5 i hi)
    exact rdL_at (pre := vbits a1.toNat 7 ++ (vbits a2.toNat 20 ++ ([a3] ++ (vbits a4.length 5 ++ (a4.take i).flatMap bitsL)))) (post := (a4.drop (i + 1)).flatMap bitsL ++ (vbits a5.length 4 ++ (a5.flatMap bitsC ++ tl))) (by
      rw [hb, flat_at (f := bitsL) hi]; simp only [List.append_assoc]) (by
      simp only [List.length_append, vbits_length, List.length_singleton, flat_length bitsL_length, List.length_take]; omega) (by omega) (by omega) (by omega)
  have f5 : (List.range a5.length).map (fun i => rdC (pack (sealed (body (a1, a2, a3, a4, a5, ())))) (33 + 27 * a4.length + 4 + 14 * i)) = a5 := by
    rw [← map_range_getD a5, List.length_map, List.length_range]
    refine List.map_congr_left fun i hi => ?_
    rw [List.mem_range] at hi
    rw [map_range_getD a5]
    obtain ⟨g1, g2, g3⟩ := badC_false (q6 i hi)
    exact rdC_at (pre := vbits a1.toNat 7 ++ (vbits a2.toNat 20 ++ ([a3] ++ (vbits a4.length 5 ++ (a4.flatMap bitsL ++ (vbits a5.length 4 ++ (a5.take i).flatMap bitsC)))))) (post := (a5.drop (i + 1)).flatMap bitsC ++ tl) (by
      rw [hb, flat_at (f := bitsC) hi]; simp only [List.append_assoc]) (by
      simp only [List.length_append, vbits_length, List.length_singleton, flat_length bitsL_length, flat_length bitsC_length, List.length_take]; omega) (by omega) (by omega) g3
  unfold fields
  rw [hn, hm, hat, f1, f2, f3, f4, f5, Int.toNat_of_nonneg (by omega), Int.toNat_of_nonneg (by omega)]
  cases a3 <;> rfl
end

theorem dec_enc {a : Ad} (h : validA a = true) : Sp07.decode (Sp07.encode a).1 = (a, 0, ()) := by
  obtain ⟨h1, h2⟩ := written (validA_iff.1 h)
  unfold Sp07.encode
  rw [h]
  simp only [Bool.not_true, cond_false]
  rw [decode_sealed h1, h2, h]
  rfl
theorem enc_ok_iff (a : Ad) : decide ((Sp07.encode a).2.1 = 0) = validA a := by
  unfold Sp07.encode
  cases validA a <;> rfl
end Go.Abs.C07

/- Chapter 07: what is read is written. -/
namespace Go.Abs.C07
open Go Go.Proofs Sp07
set_option maxRecDepth 100000

theorem vbits_gv {b : List Int} {p w : Nat} (h : p + w ≤ 8 * b.length) : vbits (gv b p w).toNat w = bitsR b p w := by
  unfold gv
  rw [decide_eq_true h]
  simp only [cond_true, Int.toNat_natCast]
  have := vbits_valOf (bitsR b p w)
  rwa [bitsR_length] at this
theorem bitsL_rd {b : List Int} {p : Nat} (h : p + 27 ≤ 8 * b.length) : bitsL (rdL b p) = bitsR b p 27 := by
  unfold bitsL rdL
  simp only
  rw [vbits_gv (by omega), vbits_gv (by omega), vbits_gv (by omega), show 27 = 7 + (10 + 10) from rfl, bitsR_add, bitsR_add]
theorem code_dec {y : Int} (h0 : 0 ≤ y) (h : y < 4) : code (decoded y) = y := by
  have : y = 0 ∨ y = 1 ∨ y = 2 ∨ y = 3 := by omega
  rcases this with rfl | rfl | rfl | rfl <;> rfl
theorem bitsC_rd {b : List Int} {p : Nat} (h : p + 14 ≤ 8 * b.length) : bitsC (rdC b p) = bitsR b p 14 := by
  have g := gv2 b (p + 12)
  unfold bitsC rdC
  simp only
  rw [code_dec g.1 g.2, vbits_gv (by omega), vbits_gv (by omega), vbits_gv (by omega), show 14 = 3 + (9 + 2) from rfl, bitsR_add, bitsR_add]
theorem flat_rd {b : List Int} {f : Rc → List Bool} {g : Nat → Rc} {k p : Nat} : ∀ n, (∀ i, i < n → f (g i) = bitsR b (p + k * i) k) → ((List.range n).map g).flatMap f = bitsR b p (k * n)
  | 0, _ => by simp [bitsR]
  | n + 1, h => by
    rw [List.range_succ, List.map_append, List.flatMap_append, flat_rd n (fun i hi => h i (by omega)), Nat.mul_add, Nat.mul_one, bitsR_add]
    simp [h n (by omega)]
theorem body_fields {b : List Int} (h : endB b ≤ 8 * b.length) : body (fields b) = bitsR b 0 (endB b) := by
  have h1 : endB b = 33 + 27 * nL b + 4 + 14 * nC b := rfl
  have h2 : atC b = 33 + 27 * nL b := rfl
  have e3 : vbits (nL b) 5 = bitsR b 28 5 := vbits_gv (p := 28) (w := 5) (by omega)
  have e4 : vbits (nC b) 4 = bitsR b (atC b) 4 := vbits_gv (p := atC b) (w := 4) (by omega)
  have e5 : [decide (gv b 27 1 = 1)] = bitsR b 27 1 := by
    rw [← vbits_gv (by omega)]
    have := gv_range b 27 1
    have k : (gv b 27 1) = 0 ∨ gv b 27 1 = 1 := by
      have : (2 ^ 1 : Nat) = 2 := by decide
      omega
    rcases k with k | k <;> rw [k] <;> rfl
  have e6 : ((List.range (nL b)).map (fun i => rdL b (33 + 27 * i))).flatMap bitsL = bitsR b 33 (27 * nL b) := flat_rd (k := 27) _ fun i hi => bitsL_rd (by omega)
  have e7 : ((List.range (nC b)).map (fun i => rdC b (atC b + 4 + 14 * i))).flatMap bitsC = bitsR b (atC b + 4) (14 * nC b) := flat_rd (k := 14) _ fun i hi => bitsC_rd (by omega)
  have hh : head (fields b) = bitsR b 0 33 := by
    show vbits (gv b 0 7).toNat 7 ++ (vbits (gv b 7 20).toNat 20 ++ ([decide (gv b 27 1 = 1)] ++ vbits ((List.range (nL b)).map (fun i => rdL b (33 + 27 * i))).length 5)) = _
    rw [vbits_gv (by omega), vbits_gv (by omega), e5, List.length_map, List.length_range, e3, show 33 = 7 + (20 + (1 + 5)) from rfl, bitsR_add, bitsR_add, bitsR_add]
  show head (fields b) ++ (((List.range (nL b)).map (fun i => rdL b (33 + 27 * i))).flatMap bitsL ++ (vbits ((List.range (nC b)).map (fun i => rdC b (atC b + 4 + 14 * i))).length 4 ++ ((List.range (nC b)).map (fun i => rdC b (atC b + 4 + 14 * i))).flatMap bitsC)) = _
  rw [hh, e6, e7, List.length_map, List.length_range, e4]
  have : endB b = 33 + (27 * nL b + (4 + 14 * nC b)) := by omega
  rw [this, bitsR_add, bitsR_add, bitsR_add, h2, Nat.zero_add]

theorem enc_dec {b : List Int} (hb : bytesOk b) (h : (Sp07.decode b).2.1 = 0) : Sp07.encode (Sp07.decode b).1 = (b, 0, ()) := by
  unfold Sp07.decode at h ⊢
  by_cases c1 : 8 * b.length < endB b + 16
  · rw [decide_eq_true c1] at h; cases h
  rw [decide_eq_false c1] at h ⊢
  by_cases c2 : gv b (endB b) 16 = (crc (bitsR b 0 (endB b)) : Nat)
  rotate_left
  · rw [decide_eq_false c2] at h; cases h
  rw [decide_eq_true c2] at h ⊢
  by_cases c3 : gv b (endB b + 16) (free (endB b)) = 0
  rotate_left
  · rw [decide_eq_false c3] at h; cases h
  rw [decide_eq_true c3] at h ⊢
  by_cases c4 : 8 * ((endB b + 23) / 8) < 8 * b.length
  · rw [decide_eq_true c4] at h; cases h
  rw [decide_eq_false c4] at h ⊢
  cases c5 : validA (fields b) with
  | false => rw [c5] at h; cases h
  | true =>
    simp only [Bool.not_true, cond_false]
    unfold Sp07.encode
    rw [c5]
    simp only [Bool.not_true, cond_false]
    have hf := free_le (endB b)
    have hs : sealed (body (fields b)) = bitsR b 0 (endB b + 16) := by
      unfold sealed
      rw [body_fields (by omega), bitsR_add, Nat.zero_add, ← vbits_gv (b := b) (p := endB b) (w := 16) (by omega), c2]
      rfl
    have hz : bitsR b (endB b + 16) (free (endB b)) = vbits 0 (free (endB b)) := by
      rw [← vbits_gv (by omega), c3]
      rfl
    rw [hs]
    congr 1
    refine list_ext (by rw [pack_length, bitsR_length]; omega) (pack_ok _) hb fun i hi => ?_
    rw [pack_length, bitsR_length] at hi
    rw [bitAt_pack, bitsR_getD]
    by_cases hlt : i < endB b + 16
    · rw [if_pos hlt, Nat.zero_add]
    · rw [if_neg hlt]
      have := congrArg (fun l => l.getD (i - (endB b + 16)) false) hz
      simp only [bitsR_getD, vbits_getD] at this
      rw [if_pos (by omega), if_pos (by omega), show endB b + 16 + (i - (endB b + 16)) = i by omega] at this
      rw [this]
      simp
end Go.Abs.C07
