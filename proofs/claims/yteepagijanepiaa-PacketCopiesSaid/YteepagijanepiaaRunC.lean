/- Chapter 03: proved is that each function that the laws reach keeps its contract; no conditions but those that each theorem states. -/
import Derived.Test.YteepagijanepiaaRunB
import Derived.RegionTactic
set_option linter.unusedVariables false
set_option linter.unusedSimpArgs false
/- Chapter 03: the functions keep their contracts: what writing and reading need. -/
namespace Go.Abs.C03
open Go Go.Proofs Sp03
set_option maxRecDepth 100000

theorem append_good {bs : List Bool} {v w : Int} (h1 : bs.length ≤ 8000) (hw : 0 ≤ w ∧ w ≤ 64 ∧ 0 ≤ v ∧ v < 2 ^ w.toNat) : Sp03.append (Sp03.enc bs) v w = (Sp03.enc (bs ++ vbits v.toNat w.toNat), 0, ()) := by
  unfold Sp03.append
  have d1 : ¬ w < 0 := by omega
  have d2 : ¬ 64 < w := by omega
  have d3 : v / 2 ^ w.toNat = 0 := Int.ediv_eq_zero_of_lt hw.2.2.1 hw.2.2.2
  have d4 : ¬ 8192 < (Sp03.enc bs).2.1 + w := by
    have : (Sp03.enc bs).2.1 = (bs.length : Int) := rfl
    omega
  simp only [valid_enc (show bs.length ≤ 8192 by omega), d1, d2, d3, d4, bits_enc, Bool.not_true, decide_true, decide_false, Bool.or_self, Bool.and_false, cond_false]
theorem enc_nil : Sp03.enc [] = ([], 0, ()) := by unfold Sp03.enc pack; simp
def put1 (s : S) (v w : Int) : S := (Sp03.append s (IntKind.wrap .u64 v) w).1
theorem put_good {bs : List Bool} {v : Int} (n : Nat) (hn : n ≤ 20) (h1 : bs.length ≤ 8000) (hv : 0 ≤ v) (h2 : v < 2 ^ n) : put1 (Sp03.enc bs) v (n : Int) = Sp03.enc (bs ++ vbits v.toNat n) := by
  have h3 : (2 : Int) ^ n ≤ 2 ^ 20 := by
    rw [pow_cast, pow_cast]
    exact Int.ofNat_le.2 (Nat.pow_le_pow_right (by decide) hn)
  have h4 : (2 : Int) ^ 20 = 1048576 := by decide
  unfold put1
  rw [wu64 hv (by omega), append_good h1 ⟨by omega, by omega, hv, by simpa using h2⟩]
  simp
theorem crc_small (bs : List Bool) : crc bs < 65536 := by
  suffices h : ∀ (bs : List Bool) (r : Nat), r < 65536 → bs.foldl crcB r < 65536 from h bs 65535 (by omega)
  intro bs
  induction bs with
  | nil => intro r h; exact h
  | cons b l ih => intro r _; exact ih _ (crc_lt r b)
theorem inside_iff {n a b : Int} : inside n a b = true ↔ a ≤ n ∧ n ≤ b := by simp [inside]
theorem take_range (s : S) (p n : Int) (h : n ≤ 63) : 0 ≤ (Sp03.take s p n).1 ∧ (Sp03.take s p n).1 < 9223372036854775808 := by
  unfold Sp03.take
  cases Sp03.valid s with
  | false => simp
  | true =>
    by_cases h1 : (decide (n < 0) || decide (64 < n) || decide (p < 0)) = true
    · simp [h1]
    · by_cases h2 : s.2.1 - n < p
      · simp [h1, h2]
      · simp only [Bool.not_eq_true] at h1
        simp only [h1, h2, decide_false, cond_false, Bool.not_true]
        have k := valOf_lt (bitsR s.1 p.toNat n.toNat)
        rw [bitsR_length] at k
        have k2 : 2 ^ n.toNat ≤ 2 ^ 63 := Nat.pow_le_pow_right (by decide) (by omega)
        have k3 : (2 : Nat) ^ 63 = 9223372036854775808 := by decide
        omega
theorem valid_bytes {l : List Int} (h : l.length ≤ 1024) : valid (l, 8 * (l.length : Int), ()) = true := by
  refine valid_iff.2 ⟨by simp only; omega, by simp only; omega, by simp only; omega, fun i hi => bitAt_ge ?_⟩
  simp only at hi ⊢
  omega
theorem take_bytes {l : List Int} (h : l.length ≤ 1024) (p n : Nat) (hn : n ≤ 64) : Sp03.take (l, 8 * (l.length : Int), ()) p n = bif decide (p + n ≤ 8 * l.length) then (gv l p n, 0, ()) else (0, 20, ()) := by
  unfold Sp03.take
  have c1 : ¬ (n : Int) < 0 := by omega
  have c2 : ¬ 64 < (n : Int) := by omega
  have c3 : ¬ (p : Int) < 0 := by omega
  rw [valid_bytes h]
  by_cases hq : p + n ≤ 8 * l.length
  · have c4 : ¬ 8 * (l.length : Int) - n < p := by omega
    simp only [c1, c2, c3, c4, decide_false, Bool.not_true, cond_false, Bool.or_self, hq, decide_true, cond_true, gv, Int.toNat_natCast]
  · have c4 : 8 * (l.length : Int) - n < p := by omega
    simp only [c1, c2, c3, c4, decide_false, Bool.not_true, cond_false, Bool.or_self, hq, decide_true, cond_true]
theorem gv_range (l : List Int) (p w : Nat) : 0 ≤ gv l p w ∧ gv l p w < (2 ^ w : Nat) := by
  unfold gv
  by_cases h : p + w ≤ 8 * l.length
  · have k := valOf_lt (bitsR l p w)
    rw [bitsR_length] at k
    simp only [h, decide_true, cond_true]
    omega
  · have := Nat.two_pow_pos w
    simp only [h, decide_false, cond_false]
    omega
theorem bitAt_take (l : List Int) (m i : Nat) (h : i < 8 * m) : bitAt (l.take m) i = bitAt l i := by
  unfold bitAt
  congr 1
  simp only [List.getD_eq_getElem?_getD]
  rw [List.getElem?_take_of_lt (by omega)]
theorem bitsR_take (l : List Int) (m p n : Nat) (h : p + n ≤ 8 * m) : bitsR (l.take m) p n = bitsR l p n := by
  unfold bitsR
  refine List.map_congr_left fun j hj => ?_
  rw [List.mem_range] at hj
  exact bitAt_take l m _ (by omega)
theorem gv_cut (l : List Int) (m p n : Nat) (h : p + n ≤ 8 * m) : gv (l.take m) p n = gv l p n := by
  unfold gv
  rw [bitsR_take l m p n h, List.length_take]
  have : (p + n ≤ 8 * min m l.length) = (p + n ≤ 8 * l.length) := propext (by omega)
  simp only [this]
theorem dec_run {y : Int} (h0 : 0 ≤ y) (h : y < 4) : IntKind.wrap .i64 (8 * Int.pow 2 (min y.toNat 64)) = decoded y := by
  have : y = 0 ∨ y = 1 ∨ y = 2 ∨ y = 3 := by omega
  rcases this with rfl | rfl | rfl | rfl <;> rfl
theorem gv2 (l : List Int) (p : Nat) : 0 ≤ gv l p 2 ∧ gv l p 2 < 4 := gv_range l p 2
theorem check_slice {l : List Int} (h : l.length ≤ 1024) {e : Nat} (he : e ≤ 8 * l.length) : (Sp03.check (Sp03.slice (l, 8 * (l.length : Int), ()) 0 e).1).1 = (crc (bitsR l 0 e) : Nat) := by
  have hs : (Sp03.slice (l, 8 * (l.length : Int), ()) 0 e).1 = Sp03.enc (bitsR l 0 e) := by
    unfold Sp03.slice
    have c1 : ¬ (0 : Int) < 0 := by omega
    have c2 : ¬ (e : Int) < 0 := by omega
    have c3 : ¬ 8 * (l.length : Int) < e := by omega
    rw [valid_bytes h]
    simp only [c1, c2, c3, decide_false, Bool.not_true, cond_false, Bool.or_self]
    simp
  have hl : (bitsR l 0 e).length ≤ 8192 := by rw [bitsR_length]; omega
  rw [hs]
  unfold Sp03.check
  rw [valid_enc hl, bits_enc]
  simp only [Bool.not_true, cond_false]
theorem free_le (e : Nat) : free e ≤ 7 ∧ e + 16 + free e = 8 * ((e + 23) / 8) := by unfold free; omega
theorem gvN (l : List Int) (p w : Nat) : gv l p w = ((gv l p w).toNat : Nat) := (Int.toNat_of_nonneg (gv_range l p w).1).symm
theorem front (l : List Int) : List.drop 0 (List.take (Int.toNat (bif decide ((1024 : Int) < Int.ofNat l.length) then (1024 : Int) else Int.ofNat l.length)) l) = l.take 1024 := by
  rw [List.drop_zero]
  by_cases h : (1024 : Int) < Int.ofNat l.length
  · simp only [h, decide_true, cond_true]; rfl
  · have h' : l.length ≤ 1024 := by simp only [Int.ofNat_eq_natCast] at h; omega
    rw [decide_eq_false h]
    simp only [cond_false, Int.ofNat_eq_natCast, Int.toNat_natCast]
    rw [List.take_of_length_le (Nat.le_refl _), List.take_of_length_le h']

theorem code_lt {n : Int} : 0 ≤ code n ∧ code n < 4 := by
  unfold code
  by_cases h1 : n = 64 <;> by_cases h2 : n = 32 <;> by_cases h3 : n = 16 <;> simp [h1, h2, h3]
theorem headB_length (p : Pk) : (headB p).length = 49 := by simp [headB, vbits_length]
theorem head_good {p : Pk} (h : Fit p) : put1 (put1 (put1 (put1 (put1 (put1 (put1 (put1 (put1 (put1 ([], (0 : Int), ()) 2 2) (md p) 2) (sd p) 3) (Sp03.st p) 5) (code (ln p)) 2) (tl p) 6) (en p) 10) (ig p) 9) (pr p) 3) ((py p).length : Int) 7 = Sp03.enc (headB p) := by
  have g1 := h.hm; have g2 := h.hd; have g3 := h.hs; have g4 := code_lt (n := ln p); have g5 := h.ht; have g6 := h.he; have g7 := h.hg; have g8 := h.hr; have g9 := h.hp
  have q2 : (2 : Int) ^ 2 = 4 := by decide
  have q3 : (2 : Int) ^ 3 = 8 := by decide
  have q5 : (2 : Int) ^ 5 = 32 := by decide
  have q6 : (2 : Int) ^ 6 = 64 := by decide
  have q7 : (2 : Int) ^ 7 = 128 := by decide
  have q9 : (2 : Int) ^ 9 = 512 := by decide
  have q10 : (2 : Int) ^ 10 = 1024 := by decide
  have key : ∀ (bs : List Bool) (v : Int) (n : Nat), n ≤ 20 → bs.length ≤ 8000 → 0 ≤ v → v < 2 ^ n → put1 (Sp03.enc bs) v (n : Int) = Sp03.enc (bs ++ vbits v.toNat n) := fun bs v n a b c d => put_good n a b c d
  have e0 := key [] 2 2 (by omega) (by simp) (by omega) (by omega)
  have e1 := key ([] ++ vbits (2 : Int).toNat 2) (md p) 2 (by omega) (by simp [vbits_length]) (by omega) (by omega)
  have e2 := key ([] ++ vbits (2 : Int).toNat 2 ++ vbits (md p).toNat 2) (sd p) 3 (by omega) (by simp [vbits_length]) (by omega) (by omega)
  have e3 := key ([] ++ vbits (2 : Int).toNat 2 ++ vbits (md p).toNat 2 ++ vbits (sd p).toNat 3) (Sp03.st p) 5 (by omega) (by simp [vbits_length]) (by omega) (by omega)
  have e4 := key ([] ++ vbits (2 : Int).toNat 2 ++ vbits (md p).toNat 2 ++ vbits (sd p).toNat 3 ++ vbits (Sp03.st p).toNat 5) (code (ln p)) 2 (by omega) (by simp [vbits_length]) (by omega) (by omega)
  have e5 := key ([] ++ vbits (2 : Int).toNat 2 ++ vbits (md p).toNat 2 ++ vbits (sd p).toNat 3 ++ vbits (Sp03.st p).toNat 5 ++ vbits (code (ln p)).toNat 2) (tl p) 6 (by omega) (by simp [vbits_length]) (by omega) (by omega)
  have e6 := key ([] ++ vbits (2 : Int).toNat 2 ++ vbits (md p).toNat 2 ++ vbits (sd p).toNat 3 ++ vbits (Sp03.st p).toNat 5 ++ vbits (code (ln p)).toNat 2 ++ vbits (tl p).toNat 6) (en p) 10 (by omega) (by simp [vbits_length]) (by omega) (by omega)
  have e7 := key ([] ++ vbits (2 : Int).toNat 2 ++ vbits (md p).toNat 2 ++ vbits (sd p).toNat 3 ++ vbits (Sp03.st p).toNat 5 ++ vbits (code (ln p)).toNat 2 ++ vbits (tl p).toNat 6 ++ vbits (en p).toNat 10) (ig p) 9 (by omega) (by simp [vbits_length]) (by omega) (by omega)
  have e8 := key ([] ++ vbits (2 : Int).toNat 2 ++ vbits (md p).toNat 2 ++ vbits (sd p).toNat 3 ++ vbits (Sp03.st p).toNat 5 ++ vbits (code (ln p)).toNat 2 ++ vbits (tl p).toNat 6 ++ vbits (en p).toNat 10 ++ vbits (ig p).toNat 9) (pr p) 3 (by omega) (by simp [vbits_length]) (by omega) (by omega)
  have e9 := key ([] ++ vbits (2 : Int).toNat 2 ++ vbits (md p).toNat 2 ++ vbits (sd p).toNat 3 ++ vbits (Sp03.st p).toNat 5 ++ vbits (code (ln p)).toNat 2 ++ vbits (tl p).toNat 6 ++ vbits (en p).toNat 10 ++ vbits (ig p).toNat 9 ++ vbits (pr p).toNat 3) ((py p).length : Int) 7 (by omega) (by simp [vbits_length]) (by omega) (by omega)
  simp only [Int.cast_ofNat_Int] at e0 e1 e2 e3 e4 e5 e6 e7 e8 e9
  rw [← enc_nil, e0, e1, e2, e3, e4, e5, e6, e7, e8, e9]
  simp only [headB, List.nil_append, List.append_assoc, Int.toNat_natCast]
  rfl

/-! The payload. -/
def payB (l : List Int) : List Bool := l.flatMap fun x => vbits x.toNat 8
theorem payB_length (l : List Int) : (payB l).length = 8 * l.length := by
  induction l with
  | nil => rfl
  | cons x r ih =>
    have : payB (x :: r) = vbits x.toNat 8 ++ payB r := by simp [payB]
    rw [this, List.length_append, vbits_length, ih, List.length_cons]
    omega
theorem payB_take (l : List Int) (i : Nat) (h : i < l.length) : payB (l.take (i + 1)) = payB (l.take i) ++ vbits (l.getD i 0).toNat 8 := by
  rw [take_succ_getD l i 0 h]
  simp [payB]
theorem getD_byte {l : List Int} (h : bytesOk l) (i : Nat) : 0 ≤ l.getD i 0 ∧ l.getD i 0 < 256 := by
  by_cases hi : i < l.length
  · exact h _ (getD_mem hi)
  · rw [getD_ge (by omega)]; omega
theorem bits_good {p : Pk} (h : Fit p) (hb : 0 ≤ bt p) : (Sp03.append (Sp03.enc (headB p)) (bt p) (ln p)).1 = Sp03.enc (headB p ++ vbits (bt p).toNat (ln p).toNat) := by
  have hl := fit_len h
  rw [append_good (by rw [headB_length]; omega) ⟨by omega, by omega, hb, h.hb⟩]
theorem front_length {p : Pk} (h : Fit p) : (headB p ++ vbits (bt p).toNat (ln p).toNat).length ≤ 113 := by
  have hl := fit_len h
  rw [List.length_append, headB_length, vbits_length]
  omega
theorem bodyB_length (p : Pk) : (bodyB p).length = 49 + (ln p).toNat + 8 * (py p).length := by
  unfold bodyB
  have : (py p).flatMap (fun x => vbits x.toNat 8) = payB (py p) := rfl
  rw [this, List.length_append, List.length_append, headB_length, vbits_length, payB_length]
  omega
theorem pay_good (bs : List Bool) (x : Int) (hx : 0 ≤ x ∧ x < 256) (hb : bs.length ≤ 2000) : (Sp03.append (Sp03.enc bs) (IntKind.wrap .u64 x) 8).1 = Sp03.enc (bs ++ vbits x.toNat 8) := by
  have q : (2 : Int) ^ 8 = 256 := by decide
  exact put_good (bs := bs) (v := x) 8 (by omega) (by omega) hx.1 (by omega)
theorem seal_good {bs : List Bool} (h : bs.length ≤ 1000) : (Sp03.append (Sp03.enc bs) (Sp03.check (Sp03.enc bs)).1 16).1 = Sp03.enc (sealed bs) := by
  have h1 := crc_small bs
  have hc : (Sp03.check (Sp03.enc bs)).1 = (crc bs : Nat) := by
    unfold Sp03.check
    rw [valid_enc (by omega), bits_enc]
    rfl
  have p1 : (2 : Int) ^ (16 : Int).toNat = 65536 := by decide
  rw [hc, append_good (by omega) ⟨by omega, by omega, by omega, by omega⟩]
  rw [Int.toNat_natCast]
  rfl
theorem free_and : ∀ e : Fin 2000, IntKind.wrap .i64 (Int.ofNat (BitVec.and (BitVec.ofInt 64 (IntKind.wrap .i64 (0 - ((e.val + 16 : Nat) : Int)))) (BitVec.ofInt 64 7)).toNat) = ((free e.val : Nat) : Int) := by decide +kernel
end Go.Abs.C03

/- Chapter 03: the functions keep their contracts: writing a packet. -/
namespace Go.Abs.C03
open Go Go.Proofs Sp03
set_option maxRecDepth 100000

theorem put_def (s : S) (v w : Int) : (Sp03.append s (IntKind.wrap .u64 v) w).1 = put1 s v w := rfl
theorem put_two (s : S) (w : Int) : (Sp03.append s 2 w).1 = put1 s 2 w := by
  unfold put1
  rw [show IntKind.wrap .u64 2 = 2 from rfl]
/-- The loop over the payload, as a fold. -/
theorem pay_step (bs : List Bool) (l : List Int) (hb : bytesOk l) (hl : l.length ≤ 64) (h1 : bs.length ≤ 113) (k : Nat) (hk : k < l.length) :
    (Sp03.append (Sp03.enc (bs ++ payB (l.take k))) (IntKind.wrap .u64 (l.getD k 0)) 8).1 = Sp03.enc (bs ++ payB (l.take (k + 1))) := by
  rw [pay_good _ _ (getD_byte hb k) (by rw [List.length_append, payB_length, List.length_take]; omega), payB_take l k hk, List.append_assoc]
theorem pay_loop1 (bs : List Bool) (l : List Int) (hb : bytesOk l) (hl : l.length ≤ 64) (h1 : bs.length ≤ 113) :
    Loop (g11_s0 l) ((0 : Int), Sp03.enc bs, l, ()) = some (Sp03.enc (bs ++ payB l), ()) := by
  have key : ∀ k, k ≤ l.length → Loop (g11_s0 l) (((l.length - k : Nat) : Int), Sp03.enc (bs ++ payB (l.take (l.length - k))), l, ()) = some (Sp03.enc (bs ++ payB l), ()) := by
    intro k
    induction k with
    | zero =>
      intro _
      rw [Loop_step]
      unfold g11_s0
      simp only [Nat.sub_zero, Int.ofNat_eq_natCast]
      rw [decide_eq_false (by omega), List.take_of_length_le (Nat.le_refl _)]
      rfl
    | succ k ih =>
      intro hk
      have hs := pay_step bs l hb hl h1 (l.length - (k + 1)) (by omega)
      have e1 : l.length - (k + 1) + 1 = l.length - k := by omega
      rw [e1] at hs
      rw [Loop_step]
      unfold g11_s0
      simp only [Int.ofNat_eq_natCast, Int.toNat_natCast]
      rw [decide_eq_true (show ((l.length - (k + 1) : Nat) : Int) < l.length by omega), decide_eq_true (show (0 : Int) ≤ ((l.length - (k + 1) : Nat) : Int) by omega), show Nat.blt (l.length - (k + 1)) l.length = true from Nat.ble_eq_true_of_le (by omega), hs, wi64 (n := ((l.length - (k + 1) : Nat) : Int) + 1) (by omega) (by omega),
        show ((l.length - (k + 1) : Nat) : Int) + 1 = ((l.length - k : Nat) : Int) by omega]
      exact ih (by omega)
  have := key l.length (Nat.le_refl _)
  rw [Nat.sub_self, List.take_zero] at this
  simpa [payB] using this
theorem pay_loop2 (bs : List Bool) (l : List Int) (hb : bytesOk l) (hl : l.length ≤ 64) (h1 : bs.length ≤ 113) :
    Loop (g12_s1 l) (Sp03.enc bs, (0 : Int), ()) = some (Sp03.enc (bs ++ payB l), ()) := by
  have key : ∀ k, k ≤ l.length → Loop (g12_s1 l) (Sp03.enc (bs ++ payB (l.take (l.length - k))), ((l.length - k : Nat) : Int), ()) = some (Sp03.enc (bs ++ payB l), ()) := by
    intro k
    induction k with
    | zero =>
      intro _
      rw [Loop_step]
      unfold g12_s1
      simp only [Nat.sub_zero, Int.ofNat_eq_natCast]
      rw [decide_eq_false (by omega), List.take_of_length_le (Nat.le_refl _)]
      rfl
    | succ k ih =>
      intro hk
      have hs := pay_step bs l hb hl h1 (l.length - (k + 1)) (by omega)
      have e1 : l.length - (k + 1) + 1 = l.length - k := by omega
      rw [e1] at hs
      rw [Loop_step]
      unfold g12_s1
      simp only [Int.ofNat_eq_natCast, Int.toNat_natCast]
      rw [decide_eq_true (show ((l.length - (k + 1) : Nat) : Int) < l.length by omega), decide_eq_true (show (0 : Int) ≤ ((l.length - (k + 1) : Nat) : Int) by omega), hs, wi64 (n := ((l.length - (k + 1) : Nat) : Int) + 1) (by omega) (by omega),
        show ((l.length - (k + 1) : Nat) : Int) + 1 = ((l.length - k : Nat) : Int) by omega]
      exact ih (by omega)
  have := key l.length (Nat.le_refl _)
  rw [Nat.sub_self, List.take_zero] at this
  simpa [payB] using this
theorem head_step (i : Nat) (s : S) (v : List Int) (hv : v.length = 10) (h : i < 10) : g12_s0 ((i : Int), s, v, ()) = some (.inl ((i : Int) + 1, put1 s (v.getD i 0) (widths.getD i 0), v, ())) := by
  unfold g12_s0
  have e : widths.length = 10 := rfl
  simp only [hv, e, Int.ofNat_eq_natCast, Int.toNat_natCast]
  rw [decide_eq_true (show (i : Int) < ((10 : Nat) : Int) by omega), decide_eq_true (show (0 : Int) ≤ (i : Int) by omega), wi64 (n := (i : Int) + 1) (by omega) (by omega)]
  rfl
theorem head_loop (s : S) (v0 v1 v2 v3 v4 v5 v6 v7 v8 v9 : Int) :
    Loop g12_s0 ((0 : Int), s, [v0, v1, v2, v3, v4, v5, v6, v7, v8, v9], ()) = some (put1 (put1 (put1 (put1 (put1 (put1 (put1 (put1 (put1 (put1 s v0 2) v1 2) v2 3) v3 5) v4 2) v5 6) v6 10) v7 9) v8 3) v9 7, ()) := by
  have k := fun (i : Nat) (s : S) (h : i < 10) => head_step i s [v0, v1, v2, v3, v4, v5, v6, v7, v8, v9] rfl h
  have k0 := fun s => k 0 s (by decide)
  have k1 := fun s => k 1 s (by decide)
  have k2 := fun s => k 2 s (by decide)
  have k3 := fun s => k 3 s (by decide)
  have k4 := fun s => k 4 s (by decide)
  have k5 := fun s => k 5 s (by decide)
  have k6 := fun s => k 6 s (by decide)
  have k7 := fun s => k 7 s (by decide)
  have k8 := fun s => k 8 s (by decide)
  have k9 := fun s => k 9 s (by decide)
  have kz : ∀ s, g12_s0 ((10 : Int), s, [v0, v1, v2, v3, v4, v5, v6, v7, v8, v9], ()) = some (.inr (s, ())) := fun s => rfl
  rw [Loop_step, show g12_s0 ((0 : Int), s, [v0, v1, v2, v3, v4, v5, v6, v7, v8, v9], ()) = _ from k0 s]
  show Loop g12_s0 ((1 : Int), _, _, ()) = _
  rw [Loop_step, show ∀ s, g12_s0 ((1 : Int), s, [v0, v1, v2, v3, v4, v5, v6, v7, v8, v9], ()) = _ from k1]
  show Loop g12_s0 ((2 : Int), _, _, ()) = _
  rw [Loop_step, show ∀ s, g12_s0 ((2 : Int), s, [v0, v1, v2, v3, v4, v5, v6, v7, v8, v9], ()) = _ from k2]
  show Loop g12_s0 ((3 : Int), _, _, ()) = _
  rw [Loop_step, show ∀ s, g12_s0 ((3 : Int), s, [v0, v1, v2, v3, v4, v5, v6, v7, v8, v9], ()) = _ from k3]
  show Loop g12_s0 ((4 : Int), _, _, ()) = _
  rw [Loop_step, show ∀ s, g12_s0 ((4 : Int), s, [v0, v1, v2, v3, v4, v5, v6, v7, v8, v9], ()) = _ from k4]
  show Loop g12_s0 ((5 : Int), _, _, ()) = _
  rw [Loop_step, show ∀ s, g12_s0 ((5 : Int), s, [v0, v1, v2, v3, v4, v5, v6, v7, v8, v9], ()) = _ from k5]
  show Loop g12_s0 ((6 : Int), _, _, ()) = _
  rw [Loop_step, show ∀ s, g12_s0 ((6 : Int), s, [v0, v1, v2, v3, v4, v5, v6, v7, v8, v9], ()) = _ from k6]
  show Loop g12_s0 ((7 : Int), _, _, ()) = _
  rw [Loop_step, show ∀ s, g12_s0 ((7 : Int), s, [v0, v1, v2, v3, v4, v5, v6, v7, v8, v9], ()) = _ from k7]
  show Loop g12_s0 ((8 : Int), _, _, ()) = _
  rw [Loop_step, show ∀ s, g12_s0 ((8 : Int), s, [v0, v1, v2, v3, v4, v5, v6, v7, v8, v9], ()) = _ from k8]
  show Loop g12_s0 ((9 : Int), _, _, ()) = _
  rw [Loop_step, show ∀ s, g12_s0 ((9 : Int), s, [v0, v1, v2, v3, v4, v5, v6, v7, v8, v9], ()) = _ from k9]
  show Loop g12_s0 ((10 : Int), _, _, ()) = _
  rw [Loop_step, kz]
  rfl
theorem str_bytes {l : List Int} (h : Ty.str.ok l) : bytesOk l := fun x hx => h.2 x hx

theorem g11_ok (a0 : Int) (a1 : Int) (a2 : Int) (a3 : Int) (a4 : Int) (a5 : Int) (a6 : Int) (a7 : Int) (a8 : Int) (a9 : (List Int)) (r0 : IntKind.i64.has a0) (r1 : IntKind.i64.has a1) (r2 : IntKind.i64.has a2) (r3 : IntKind.i64.has a3) (r4 : IntKind.i64.has a4) (r5 : IntKind.i64.has a5) (r6 : IntKind.i64.has a6) (r7 : IntKind.i64.has a7) (r8 : IntKind.u64.has a8) (r9 : Ty.str.ok a9) : g11 a0 a1 a2 a3 a4 a5 a6 a7 a8 a9 = some (Sp03.encode (a0, a1, a2, a3, a4, a5, a6, a7, a8, a9, ()), ()) := by
  unfold g11 encode
  cases hv : validP (a0, a1, a2, a3, a4, a5, a6, a7, a8, a9, ()) with
  | false => rfl
  | true =>
    have h := valid_fit.1 hv
    have hl : vlen a3 = true := h.hl
    have hp : a9.length ≤ 64 := h.hp
    have hb : 0 ≤ a8 := r8.1
    have hy := str_bytes r9
    have hg := head_good h
    have hbit := bits_good h hb
    have hf := front_length h
    simp only [md, sd, Sp03.st, ln, tl, en, ig, pr, bt, py] at hg hbit hf
    simp only [Bool.not_true, cond_false]
    rw [on_true hl]
    simp only [Option.bind_some, put_def, put_two]
    rw [show Nat.ble a9.length 140737488355328 = true from Nat.ble_eq_true_of_le (by omega)]
    simp only [cond_true, Int.ofNat_eq_natCast]
    rw [hg, hbit, pay_loop1 _ _ hy hp hf]
    simp only [Option.bind_some]
    rw [seal_good (by rw [List.length_append, payB_length]; omega)]
    unfold bodyB
    simp only [bt, ln, py, List.append_assoc]
    rfl

theorem align_enc {bs : List Bool} (h : bs.length ≤ 8192) : (Sp03.align (Sp03.enc bs)).1.1 = (Sp03.enc bs).1 := by
  unfold Sp03.align
  rw [valid_enc h]
  rfl

theorem g12_ok (a0 : Int) (a1 : Int) (a2 : Int) (a3 : Int) (a4 : Int) (a5 : Int) (a6 : Int) (a7 : Int) (a8 : Int) (a9 : (List Int)) (r0 : IntKind.i64.has a0) (r1 : IntKind.i64.has a1) (r2 : IntKind.i64.has a2) (r3 : IntKind.i64.has a3) (r4 : IntKind.i64.has a4) (r5 : IntKind.i64.has a5) (r6 : IntKind.i64.has a6) (r7 : IntKind.i64.has a7) (r8 : IntKind.u64.has a8) (r9 : Ty.str.ok a9) : g12 a0 a1 a2 a3 a4 a5 a6 a7 a8 a9 = some (Sp03.encode (a0, a1, a2, a3, a4, a5, a6, a7, a8, a9, ()), ()) := by
  unfold g12 encode
  cases hv : validP (a0, a1, a2, a3, a4, a5, a6, a7, a8, a9, ()) with
  | false => rfl
  | true =>
    have h := valid_fit.1 hv
    have hl : vlen a3 = true := h.hl
    have hp : a9.length ≤ 64 := h.hp
    have hb : 0 ≤ a8 := r8.1
    have hy := str_bytes r9
    have hg := head_good h
    have hbit := bits_good h hb
    have hf := front_length h
    simp only [md, sd, Sp03.st, ln, tl, en, ig, pr, bt, py] at hg hbit hf
    simp only [Bool.not_true, cond_false]
    rw [on_true hl]
    simp only [Option.bind_some, Int.ofNat_eq_natCast]
    rw [head_loop]
    simp only [Option.bind_some]
    rw [hg, hbit, pay_loop2 _ _ hy hp hf]
    simp only [Option.bind_some]
    have hL : (headB (a0, a1, a2, a3, a4, a5, a6, a7, a8, a9, ()) ++ vbits a8.toNat a3.toNat ++ payB a9).length ≤ 625 := by
      rw [List.length_append, payB_length]; omega
    rw [seal_good (by omega), align_enc (by unfold sealed; rw [List.length_append, vbits_length]; omega)]
    unfold bodyB
    simp only [bt, ln, py, List.append_assoc]
    rfl

theorem g38w1_ok (a0 : (List Int)) (a1 : Int) (a2 : Int) (a3 : Int) (r0 : (Ty.sl (.int .u8)).ok a0) (r1 : IntKind.i64.has a1) (r2 : IntKind.u64.has a2) (r3 : IntKind.i64.has a3) : g38w1 a0 a1 a2 a3 = some (Sp03.append (a0, a1, ()) a2 a3, ()) := by
  exact (show g38w1 a0 a1 a2 a3 = g38 a0 a1 a2 a3 from rfl).trans (g38_ok a0 a1 a2 a3 r0 r1 r2 r3)

end Go.Abs.C03

/- Chapter 03: what is written is read, what is read is written. -/
namespace Go.Abs.C03
open Go Go.Proofs Sp03
set_option maxRecDepth 100000

theorem bitsR_pack (bs : List Bool) (p w : Nat) : bitsR (pack bs) p w = (List.range w).map fun j => bs.getD (p + j) false := by
  unfold bitsR
  refine List.map_congr_left fun j _ => ?_
  rw [bitAt_pack]
theorem bitsR_at (pre mid post : List Bool) : bitsR (pack (pre ++ (mid ++ post))) pre.length mid.length = mid := by
  rw [bitsR_pack]
  refine bools_ext (by simp) fun i hi => ?_
  simp only [List.length_map, List.length_range] at hi
  have e : ((List.range mid.length).map fun j => (pre ++ (mid ++ post)).getD (pre.length + j) false).getD i false = (pre ++ (mid ++ post)).getD (pre.length + i) false := by
    simp [List.getD_eq_getElem?_getD, List.getElem?_map, List.getElem?_range hi]
  rw [e, getD_append, if_neg (by omega), getD_append, if_pos (by omega)]
  congr 1
  omega
theorem gv_at {bs : List Bool} (pre post : List Bool) {v w p : Nat} (h : bs = pre ++ (vbits v w ++ post)) (hp : p = pre.length) (hv : v < 2 ^ w) : gv (pack bs) p w = v := by
  subst h; subst hp
  have hlen : (pack (pre ++ (vbits v w ++ post))).length = (pre.length + (w + post.length) + 7) / 8 := by
    rw [pack_length]
    simp only [List.length_append, vbits_length]
  have hr := bitsR_at pre (vbits v w) post
  rw [vbits_length] at hr
  unfold gv
  rw [decide_eq_true (by omega), hr, valOf_vbits v w hv]
  rfl
theorem pow_lt (v n : Int) (w : Nat) (h0 : 0 ≤ v) (h : v < n) (hn : n = ((2 ^ w : Nat) : Int)) : v.toNat < 2 ^ w := by omega
theorem falses (bs : List Bool) (n p w : Nat) (h : bs.length ≤ p) : bitsR (pack bs) p w = vbits 0 w := by
  rw [bitsR_pack]
  unfold vbits
  refine List.map_congr_left fun j _ => ?_
  rw [getD_ge (by omega)]
  simp
theorem gv_end (bs : List Bool) (p w : Nat) (h : bs.length ≤ p) : gv (pack bs) p w = 0 := by
  unfold gv
  rw [falses bs 0 p w h, valOf_vbits 0 w (Nat.two_pow_pos w)]
  cases decide (p + w ≤ 8 * (pack bs).length) <;> rfl
theorem code_back {n : Int} (h : vlen n = true) : decoded (code n) = n := by
  rcases vlen_iff h with rfl | rfl | rfl | rfl <;> rfl
theorem sealed_app (x y : List Bool) : sealed (x ++ y) = x ++ (y ++ vbits (crc (x ++ y)) 16) := by simp only [sealed, List.append_assoc]

theorem sealed_eq (p : Pk) : ∃ cc : List Bool, cc = vbits (crc (bodyB p)) 16 ∧ sealed (bodyB p) = vbits ((2 : Int)).toNat 2 ++ (vbits (md p).toNat 2 ++ (vbits (sd p).toNat 3 ++ (vbits (Sp03.st p).toNat 5 ++ (vbits (code (ln p)).toNat 2 ++ (vbits (tl p).toNat 6 ++ (vbits (en p).toNat 10 ++ (vbits (ig p).toNat 9 ++ (vbits (pr p).toNat 3 ++ (vbits (py p).length 7 ++ (vbits (bt p).toNat (ln p).toNat ++ (payB (py p) ++ (cc)))))))))))) := by
  refine ⟨_, rfl, ?_⟩
  simp only [sealed, bodyB, headB, payB, List.append_assoc]
  rfl
theorem byte_lt {l : List Int} (h : bytesOk l) {i : Nat} (hi : i < l.length) : (l.getD i 0).toNat < 2 ^ 8 := by
  have := getD_byte h i
  have e : (2 : Nat) ^ 8 = 256 := by decide
  omega
theorem pay_at : ∀ {l : List Int} {i : Nat}, i < l.length → payB l = payB (l.take i) ++ (vbits (l.getD i 0).toNat 8 ++ payB (l.drop (i + 1)))
  | [], i, h => by simp at h
  | x :: l, 0, _ => by simp [payB]
  | x :: l, i + 1, h => by
    have ih := pay_at (l := l) (i := i) (by simpa using h)
    have e : payB (x :: l) = vbits x.toNat 8 ++ payB l := by simp [payB]
    have e2 : payB (x :: l.take i) = vbits x.toNat 8 ++ payB (l.take i) := by simp [payB]
    rw [e, List.take_succ_cons, e2, List.drop_succ_cons, List.getD_cons_succ, List.append_assoc, ← ih]
theorem map_range_getD (l : List Int) : (List.range l.length).map (fun i => l.getD i 0) = l := by
  refine List.ext_getElem (by simp) fun i hi hi' => ?_
  simp [List.getD_eq_getElem?_getD, hi']
theorem written {p : Pk} (h : Fit p) (hb : 0 ≤ bt p) (hy : bytesOk (py p)) :
    gv (pack (sealed (bodyB p))) 0 2 = 2 ∧ gv (pack (sealed (bodyB p))) 2 2 = md p ∧ gv (pack (sealed (bodyB p))) 30 9 = ig p ∧ gv (pack (sealed (bodyB p))) 42 7 = ((py p).length : Int) ∧
    endB (pack (sealed (bodyB p))) = (bodyB p).length ∧ fieldsP (pack (sealed (bodyB p))) = p := by
  obtain ⟨cc, ht, hs⟩ := sealed_eq p
  have c4 := code_lt (n := ln p)
  have hl := fit_len h
  have f0 := gv_at (bs := sealed (bodyB p)) (([] : List Bool)) (vbits (md p).toNat 2 ++ (vbits (sd p).toNat 3 ++ (vbits (Sp03.st p).toNat 5 ++ (vbits (code (ln p)).toNat 2 ++ (vbits (tl p).toNat 6 ++ (vbits (en p).toNat 10 ++ (vbits (ig p).toNat 9 ++ (vbits (pr p).toNat 3 ++ (vbits (py p).length 7 ++ (vbits (bt p).toNat (ln p).toNat ++ (payB (py p) ++ (cc)))))))))))) (v := ((2 : Int)).toNat) (w := 2) (p := 0) hs (by simp only [List.length_append, vbits_length, List.length_nil]) (by decide)
  have f1 := gv_at (bs := sealed (bodyB p)) (vbits ((2 : Int)).toNat 2) (vbits (sd p).toNat 3 ++ (vbits (Sp03.st p).toNat 5 ++ (vbits (code (ln p)).toNat 2 ++ (vbits (tl p).toNat 6 ++ (vbits (en p).toNat 10 ++ (vbits (ig p).toNat 9 ++ (vbits (pr p).toNat 3 ++ (vbits (py p).length 7 ++ (vbits (bt p).toNat (ln p).toNat ++ (payB (py p) ++ (cc))))))))))) (v := (md p).toNat) (w := 2) (p := 2) hs (by simp only [List.length_append, vbits_length, List.length_nil]) (pow_lt (md p) 4 2 (by have := h.hm; omega) (by have := h.hm; omega) rfl)
  have f2 := gv_at (bs := sealed (bodyB p)) (vbits ((2 : Int)).toNat 2 ++ (vbits (md p).toNat 2)) (vbits (Sp03.st p).toNat 5 ++ (vbits (code (ln p)).toNat 2 ++ (vbits (tl p).toNat 6 ++ (vbits (en p).toNat 10 ++ (vbits (ig p).toNat 9 ++ (vbits (pr p).toNat 3 ++ (vbits (py p).length 7 ++ (vbits (bt p).toNat (ln p).toNat ++ (payB (py p) ++ (cc)))))))))) (v := (sd p).toNat) (w := 3) (p := 4) (by rw [hs]; simp only [List.append_assoc, List.nil_append]) (by simp only [List.length_append, vbits_length, List.length_nil]) (pow_lt (sd p) 8 3 (by have := h.hd; omega) (by have := h.hd; omega) rfl)
  have f3 := gv_at (bs := sealed (bodyB p)) (vbits ((2 : Int)).toNat 2 ++ (vbits (md p).toNat 2 ++ (vbits (sd p).toNat 3))) (vbits (code (ln p)).toNat 2 ++ (vbits (tl p).toNat 6 ++ (vbits (en p).toNat 10 ++ (vbits (ig p).toNat 9 ++ (vbits (pr p).toNat 3 ++ (vbits (py p).length 7 ++ (vbits (bt p).toNat (ln p).toNat ++ (payB (py p) ++ (cc))))))))) (v := (Sp03.st p).toNat) (w := 5) (p := 7) (by rw [hs]; simp only [List.append_assoc, List.nil_append]) (by simp only [List.length_append, vbits_length, List.length_nil]) (pow_lt (Sp03.st p) 32 5 (by have := h.hs; omega) (by have := h.hs; omega) rfl)
  have f4 := gv_at (bs := sealed (bodyB p)) (vbits ((2 : Int)).toNat 2 ++ (vbits (md p).toNat 2 ++ (vbits (sd p).toNat 3 ++ (vbits (Sp03.st p).toNat 5)))) (vbits (tl p).toNat 6 ++ (vbits (en p).toNat 10 ++ (vbits (ig p).toNat 9 ++ (vbits (pr p).toNat 3 ++ (vbits (py p).length 7 ++ (vbits (bt p).toNat (ln p).toNat ++ (payB (py p) ++ (cc)))))))) (v := (code (ln p)).toNat) (w := 2) (p := 12) (by rw [hs]; simp only [List.append_assoc, List.nil_append]) (by simp only [List.length_append, vbits_length, List.length_nil]) (pow_lt (code (ln p)) 4 2 c4.1 c4.2 rfl)
  have f5 := gv_at (bs := sealed (bodyB p)) (vbits ((2 : Int)).toNat 2 ++ (vbits (md p).toNat 2 ++ (vbits (sd p).toNat 3 ++ (vbits (Sp03.st p).toNat 5 ++ (vbits (code (ln p)).toNat 2))))) (vbits (en p).toNat 10 ++ (vbits (ig p).toNat 9 ++ (vbits (pr p).toNat 3 ++ (vbits (py p).length 7 ++ (vbits (bt p).toNat (ln p).toNat ++ (payB (py p) ++ (cc))))))) (v := (tl p).toNat) (w := 6) (p := 14) (by rw [hs]; simp only [List.append_assoc, List.nil_append]) (by simp only [List.length_append, vbits_length, List.length_nil]) (pow_lt (tl p) 64 6 (by have := h.ht; omega) (by have := h.ht; omega) rfl)
  have f6 := gv_at (bs := sealed (bodyB p)) (vbits ((2 : Int)).toNat 2 ++ (vbits (md p).toNat 2 ++ (vbits (sd p).toNat 3 ++ (vbits (Sp03.st p).toNat 5 ++ (vbits (code (ln p)).toNat 2 ++ (vbits (tl p).toNat 6)))))) (vbits (ig p).toNat 9 ++ (vbits (pr p).toNat 3 ++ (vbits (py p).length 7 ++ (vbits (bt p).toNat (ln p).toNat ++ (payB (py p) ++ (cc)))))) (v := (en p).toNat) (w := 10) (p := 20) (by rw [hs]; simp only [List.append_assoc, List.nil_append]) (by simp only [List.length_append, vbits_length, List.length_nil]) (pow_lt (en p) 1024 10 (by have := h.he; omega) (by have := h.he; omega) rfl)
  have f7 := gv_at (bs := sealed (bodyB p)) (vbits ((2 : Int)).toNat 2 ++ (vbits (md p).toNat 2 ++ (vbits (sd p).toNat 3 ++ (vbits (Sp03.st p).toNat 5 ++ (vbits (code (ln p)).toNat 2 ++ (vbits (tl p).toNat 6 ++ (vbits (en p).toNat 10))))))) (vbits (pr p).toNat 3 ++ (vbits (py p).length 7 ++ (vbits (bt p).toNat (ln p).toNat ++ (payB (py p) ++ (cc))))) (v := (ig p).toNat) (w := 9) (p := 30) (by rw [hs]; simp only [List.append_assoc, List.nil_append]) (by simp only [List.length_append, vbits_length, List.length_nil]) (pow_lt (ig p) 512 9 (by have := h.hg; omega) (by have := h.hg; omega) rfl)
  have f8 := gv_at (bs := sealed (bodyB p)) (vbits ((2 : Int)).toNat 2 ++ (vbits (md p).toNat 2 ++ (vbits (sd p).toNat 3 ++ (vbits (Sp03.st p).toNat 5 ++ (vbits (code (ln p)).toNat 2 ++ (vbits (tl p).toNat 6 ++ (vbits (en p).toNat 10 ++ (vbits (ig p).toNat 9)))))))) (vbits (py p).length 7 ++ (vbits (bt p).toNat (ln p).toNat ++ (payB (py p) ++ (cc)))) (v := (pr p).toNat) (w := 3) (p := 39) (by rw [hs]; simp only [List.append_assoc, List.nil_append]) (by simp only [List.length_append, vbits_length, List.length_nil]) (pow_lt (pr p) 8 3 (by have := h.hr; omega) (by have := h.hr; omega) rfl)
  have f9 := gv_at (bs := sealed (bodyB p)) (vbits ((2 : Int)).toNat 2 ++ (vbits (md p).toNat 2 ++ (vbits (sd p).toNat 3 ++ (vbits (Sp03.st p).toNat 5 ++ (vbits (code (ln p)).toNat 2 ++ (vbits (tl p).toNat 6 ++ (vbits (en p).toNat 10 ++ (vbits (ig p).toNat 9 ++ (vbits (pr p).toNat 3))))))))) (vbits (bt p).toNat (ln p).toNat ++ (payB (py p) ++ (cc))) (v := (py p).length) (w := 7) (p := 42) (by rw [hs]; simp only [List.append_assoc, List.nil_append]) (by simp only [List.length_append, vbits_length]) (by have := h.hp; have e : (2 : Nat) ^ 7 = 128 := (by decide); omega)
  have hbt : (bt p).toNat < 2 ^ (ln p).toNat := by
    have := h.hb
    rw [pow_cast] at this
    omega
  have f10 := gv_at (bs := sealed (bodyB p)) (vbits ((2 : Int)).toNat 2 ++ (vbits (md p).toNat 2 ++ (vbits (sd p).toNat 3 ++ (vbits (Sp03.st p).toNat 5 ++ (vbits (code (ln p)).toNat 2 ++ (vbits (tl p).toNat 6 ++ (vbits (en p).toNat 10 ++ (vbits (ig p).toNat 9 ++ (vbits (pr p).toNat 3 ++ (vbits (py p).length 7)))))))))) (payB (py p) ++ (cc)) (v := (bt p).toNat) (w := (ln p).toNat) (p := 49) (by rw [hs]; simp only [List.append_assoc, List.nil_append]) (by simp only [List.length_append, vbits_length]) hbt
  have hS : nS (pack (sealed (bodyB p))) = (py p).length := by unfold nS; rw [f9]; rfl
  have e4 : ((code (ln p)).toNat : Int) = code (ln p) := Int.toNat_of_nonneg c4.1
  have hL : nLn (pack (sealed (bodyB p))) = (ln p).toNat := by unfold nLn; rw [f4, e4, code_back h.hl]
  have f11 : (List.range (py p).length).map (fun i => gv (pack (sealed (bodyB p))) (49 + (ln p).toNat + 8 * i) 8) = py p := by
    rw [← map_range_getD (py p), List.length_map, List.length_range]
    refine List.map_congr_left fun i hi => ?_
    rw [List.mem_range] at hi
    have := gv_at (bs := sealed (bodyB p)) (vbits ((2 : Int)).toNat 2 ++ (vbits (md p).toNat 2 ++ (vbits (sd p).toNat 3 ++ (vbits (Sp03.st p).toNat 5 ++ (vbits (code (ln p)).toNat 2 ++ (vbits (tl p).toNat 6 ++ (vbits (en p).toNat 10 ++ (vbits (ig p).toNat 9 ++ (vbits (pr p).toNat 3 ++ (vbits (py p).length 7 ++ (vbits (bt p).toNat (ln p).toNat ++ (payB ((py p).take i))))))))))))) (payB ((py p).drop (i + 1)) ++ cc) (v := ((py p).getD i 0).toNat) (w := 8) (p := 49 + (ln p).toNat + 8 * i) (by rw [hs, pay_at hi]; simp only [List.append_assoc]) (by simp only [List.length_append, vbits_length, payB_length, List.length_take]; omega) (byte_lt hy hi)
    rw [this, Int.toNat_of_nonneg (getD_byte hy i).1]
  refine ⟨f0, ?_, ?_, f9, ?_, ?_⟩
  · rw [f1, Int.toNat_of_nonneg (by have := h.hm; omega)]
  · rw [f7, Int.toNat_of_nonneg (by have := h.hg; omega)]
  · unfold endB
    rw [hS, hL, bodyB_length]
  · unfold fieldsP
    rw [hS, hL, f1, f2, f3, f4, f5, f6, f7, f8, f10, f11, e4, code_back h.hl, Int.toNat_of_nonneg (by have := h.hm; omega), Int.toNat_of_nonneg (by have := h.hd; omega), Int.toNat_of_nonneg (by have := h.hs; omega), Int.toNat_of_nonneg (by have := h.ht; omega), Int.toNat_of_nonneg (by have := h.he; omega), Int.toNat_of_nonneg (by have := h.hg; omega), Int.toNat_of_nonneg (by have := h.hr; omega), Int.toNat_of_nonneg hb]
    rfl

theorem sealed_length (B : List Bool) : (sealed B).length = B.length + 16 := by simp [sealed, vbits_length]
theorem dec_enc {p : Pk} (hv : validP p = true) (hb : 0 ≤ bt p) (hy : bytesOk (py p)) : Sp03.decode (Sp03.encode p).1 = (p, 0, ()) := by
  have h := valid_fit.1 hv
  obtain ⟨w1, w2, w3, w4, w5, w6⟩ := written h hb hy
  have hB := bodyB_length p
  have hl := fit_len h
  unfold Sp03.encode
  rw [hv]
  simp only [Bool.not_true, cond_false]
  have hl2 : (pack (sealed (bodyB p))).length = ((bodyB p).length + 23) / 8 := by rw [pack_length, sealed_length]
  have hc := crc_small (bodyB p)
  have g1 : gv (pack (sealed (bodyB p))) (bodyB p).length 16 = crc (bodyB p) := gv_at (bodyB p) [] (by simp [sealed]) rfl (by have e : (2 : Nat) ^ 16 = 65536 := (by decide); omega)
  have g2 : gv (pack (sealed (bodyB p))) ((bodyB p).length + 16) (free (bodyB p).length) = 0 := gv_end _ _ _ (by rw [sealed_length]; omega)
  have g3 : bitsR (pack (sealed (bodyB p))) 0 (bodyB p).length = bodyB p := by
    have := bitsR_at [] (bodyB p) (vbits (crc (bodyB p)) 16)
    simpa [sealed] using this
  have hm := h.hm
  have hg := h.hg
  have hp := h.hp
  unfold Sp03.decode
  rw [w1, w2, w3, w4, w5, w6, g1, g2, g3, decide_eq_false (p := 8 * (pack (sealed (bodyB p))).length < 49) (by omega), decide_eq_true (p := (2 : Int) = 2) rfl, decide_eq_false (p := md p = 0) (by omega), decide_eq_false (p := 256 < ig p) (by omega),
    decide_eq_false (p := (64 : Int) < ((py p).length : Int)) (by omega), decide_eq_false (p := 8 * (pack (sealed (bodyB p))).length < (bodyB p).length + 16) (by omega), decide_eq_true (p := ((crc (bodyB p) : Nat) : Int) = ((crc (bodyB p) : Nat) : Int)) rfl, decide_eq_false (p := 8 * (((bodyB p).length + 23) / 8) < 8 * (pack (sealed (bodyB p))).length) (by omega)]
  rfl
theorem enc_ok_iff (p : Pk) : decide ((Sp03.encode p).2.1 = 0) = validP p := by
  unfold Sp03.encode
  cases validP p <;> rfl
theorem vbits_gv {b : List Int} {p w : Nat} (h : p + w ≤ 8 * b.length) : vbits (gv b p w).toNat w = bitsR b p w := by
  unfold gv
  rw [decide_eq_true h]
  simp only [cond_true, Int.toNat_natCast]
  have := vbits_valOf (bitsR b p w)
  rwa [bitsR_length] at this
theorem code_dec {y : Int} (h0 : 0 ≤ y) (h : y < 4) : code (decoded y) = y := by
  have : y = 0 ∨ y = 1 ∨ y = 2 ∨ y = 3 := by omega
  rcases this with rfl | rfl | rfl | rfl <;> rfl
theorem pay_rd {b : List Int} {p : Nat} : ∀ n, p + 8 * n ≤ 8 * b.length → payB ((List.range n).map fun i => gv b (p + 8 * i) 8) = bitsR b p (8 * n)
  | 0, _ => by simp [payB, bitsR]
  | n + 1, h => by
    have e : ∀ l m : List Int, payB (l ++ m) = payB l ++ payB m := fun l m => by simp [payB]
    rw [List.range_succ, List.map_append, e, pay_rd n (by omega), Nat.mul_add, Nat.mul_one, bitsR_add]
    simp only [List.map_cons, List.map_nil]
    have : payB [gv b (p + 8 * n) 8] = vbits (gv b (p + 8 * n) 8).toNat 8 := by simp [payB]
    rw [this, vbits_gv (by omega)]
theorem nLn_vlen (b : List Int) : vlen (decoded (gv b 12 2)) = true ∧ (decoded (gv b 12 2)).toNat = nLn b ∧ decoded (gv b 12 2) = (nLn b : Int) ∧ 8 ≤ nLn b ∧ nLn b ≤ 64 := by
  have g := gv2 b 12
  unfold nLn
  have : gv b 12 2 = 0 ∨ gv b 12 2 = 1 ∨ gv b 12 2 = 2 ∨ gv b 12 2 = 3 := by omega
  rcases this with h | h | h | h <;> rw [h] <;> decide
theorem head_rd {b : List Int} (h : 49 ≤ 8 * b.length) (hv : gv b 0 2 = 2) : headB (fieldsP b) = bitsR b 0 49 := by
  have g := gv2 b 12
  have e0 : vbits 2 2 = bitsR b 0 2 := by rw [← vbits_gv (b := b) (p := 0) (w := 2) (by omega), hv]; rfl
  have eS : vbits (nS b) 7 = bitsR b 42 7 := vbits_gv (p := 42) (w := 7) (by omega)
  show vbits 2 2 ++ (vbits (gv b 2 2).toNat 2 ++ (vbits (gv b 4 3).toNat 3 ++ (vbits (gv b 7 5).toNat 5 ++ (vbits (code (decoded (gv b 12 2))).toNat 2 ++ (vbits (gv b 14 6).toNat 6 ++ (vbits (gv b 20 10).toNat 10 ++ (vbits (gv b 30 9).toNat 9 ++ (vbits (gv b 39 3).toNat 3 ++ vbits ((List.range (nS b)).map (fun i => gv b (49 + nLn b + 8 * i) 8)).length 7)))))))) = _
  rw [code_dec g.1 g.2, List.length_map, List.length_range, eS, e0, vbits_gv (by omega), vbits_gv (by omega), vbits_gv (by omega), vbits_gv (by omega), vbits_gv (by omega), vbits_gv (by omega), vbits_gv (by omega), vbits_gv (by omega),
    show 49 = 2 + (2 + (3 + (5 + (2 + (6 + (10 + (9 + (3 + 7)))))))) from rfl, bitsR_add, bitsR_add, bitsR_add, bitsR_add, bitsR_add, bitsR_add, bitsR_add, bitsR_add, bitsR_add]
theorem body_rd {b : List Int} (h : endB b ≤ 8 * b.length) (hv : gv b 0 2 = 2) : bodyB (fieldsP b) = bitsR b 0 (endB b) := by
  obtain ⟨n1, n2, n3, n4, n5⟩ := nLn_vlen b
  have h1 : endB b = 49 + nLn b + 8 * nS b := rfl
  have hh := head_rd (b := b) (by omega) hv
  have eb : vbits (bt (fieldsP b)).toNat (ln (fieldsP b)).toNat = bitsR b 49 (nLn b) := by
    show vbits (gv b 49 (nLn b)).toNat (decoded (gv b 12 2)).toNat = _
    rw [n2, vbits_gv (by omega)]
  have ep : payB (py (fieldsP b)) = bitsR b (49 + nLn b) (8 * nS b) := pay_rd (nS b) (by omega)
  unfold bodyB
  rw [hh, eb]
  show bitsR b 0 49 ++ (bitsR b 49 (nLn b) ++ payB (py (fieldsP b))) = _
  rw [ep, h1, Nat.add_assoc, bitsR_add, bitsR_add, Nat.zero_add]
theorem valid_rd {b : List Int} (h : endB b ≤ 8 * b.length) (h1 : gv b 2 2 ≠ 0) (h2 : gv b 30 9 ≤ 256) (h3 : gv b 42 7 ≤ 64) : validP (fieldsP b) = true := by
  obtain ⟨n1, n2, n3, n4, n5⟩ := nLn_vlen b
  have r : ∀ p w, 0 ≤ gv b p w ∧ gv b p w < ((2 ^ w : Nat) : Int) := fun p w => gv_range b p w
  have a1 := r 2 2; have a2 := r 4 3; have a3 := r 7 5; have a4 := r 14 6; have a5 := r 20 10; have a6 := r 30 9; have a7 := r 39 3; have a8 := r 49 (nLn b); have a9 := r 42 7
  have e2 : ((2 ^ 2 : Nat) : Int) = 4 := by decide
  have e3 : ((2 ^ 3 : Nat) : Int) = 8 := by decide
  have e5 : ((2 ^ 5 : Nat) : Int) = 32 := by decide
  have e6 : ((2 ^ 6 : Nat) : Int) = 64 := by decide
  have e10 : ((2 ^ 10 : Nat) : Int) = 1024 := by decide
  rw [e2] at a1; rw [e3] at a2 a7; rw [e5] at a3; rw [e6] at a4; rw [e10] at a5
  refine valid_fit.2 ⟨?_, ?_, ?_, n1, ?_, ?_, ?_, ?_, ?_, ?_⟩
  · show 1 ≤ gv b 2 2 ∧ gv b 2 2 ≤ 3
    omega
  · show 0 ≤ gv b 4 3 ∧ gv b 4 3 ≤ 7
    omega
  · show 0 ≤ gv b 7 5 ∧ gv b 7 5 ≤ 31
    omega
  · show gv b 49 (nLn b) < 2 ^ (decoded (gv b 12 2)).toNat
    rw [n2, pow_cast]
    exact a8.2
  · show 0 ≤ gv b 14 6 ∧ gv b 14 6 ≤ 63
    omega
  · show 0 ≤ gv b 20 10 ∧ gv b 20 10 ≤ 1023
    omega
  · show 0 ≤ gv b 30 9 ∧ gv b 30 9 ≤ 256
    omega
  · show 0 ≤ gv b 39 3 ∧ gv b 39 3 ≤ 7
    omega
  · show ((List.range (nS b)).map (fun i => gv b (49 + nLn b + 8 * i) 8)).length ≤ 64
    rw [List.length_map, List.length_range]
    unfold nS
    omega

theorem enc_dec {b : List Int} (hb : bytesOk b) (h : (Sp03.decode b).2.1 = 0) : Sp03.encode (Sp03.decode b).1 = (b, 0, ()) := by
  unfold Sp03.decode at h ⊢
  by_cases c0 : 8 * b.length < 49
  · rw [decide_eq_true c0] at h; cases h
  rw [decide_eq_false c0] at h ⊢
  by_cases ca : gv b 0 2 = 2
  rotate_left
  · rw [decide_eq_false ca] at h; cases h
  rw [decide_eq_true ca] at h ⊢
  by_cases cb : gv b 2 2 = 0
  · rw [decide_eq_true cb] at h; cases h
  rw [decide_eq_false cb] at h ⊢
  by_cases cc : 256 < gv b 30 9
  · rw [decide_eq_true cc] at h; cases h
  rw [decide_eq_false cc] at h ⊢
  by_cases cd : 64 < gv b 42 7
  · rw [decide_eq_true cd] at h; cases h
  rw [decide_eq_false cd] at h ⊢
  by_cases c1 : 8 * b.length < endB b + 16
  · rw [decide_eq_true c1] at h; cases h
  rw [decide_eq_false c1] at h ⊢
  by_cases c2 : gv b (endB b) 16 = (crc (bitsR b 0 (endB b)) : Nat)
  rotate_left
  · rw [decide_eq_false c2] at h; cases h
  rw [decide_eq_true c2] at h ⊢
  by_cases c3 : gv b (endB b + 16) (free (endB b)) = 0
  rotate_left
  · rw [decide_eq_false c3] at h; cases h
  rw [decide_eq_true c3] at h ⊢
  by_cases c4 : 8 * ((endB b + 23) / 8) < 8 * b.length
  · rw [decide_eq_true c4] at h; cases h
  rw [decide_eq_false c4] at h ⊢
  have c5 := valid_rd (b := b) (by omega) cb (by omega) (by omega)
  simp only [Bool.not_true, Bool.or_self, cond_false]
  unfold Sp03.encode
  rw [c5]
  simp only [Bool.not_true, cond_false]
  have hf := free_le (endB b)
  have hs : sealed (bodyB (fieldsP b)) = bitsR b 0 (endB b + 16) := by
    unfold sealed
    rw [body_rd (by omega) ca, bitsR_add, Nat.zero_add, ← vbits_gv (b := b) (p := endB b) (w := 16) (by omega), c2]
    rfl
  have hz : bitsR b (endB b + 16) (free (endB b)) = vbits 0 (free (endB b)) := by
    rw [← vbits_gv (by omega), c3]
    rfl
  rw [hs]
  congr 1
  refine list_ext (by rw [pack_length, bitsR_length]; omega) (pack_ok _) hb fun i hi => ?_
  rw [pack_length, bitsR_length] at hi
  rw [bitAt_pack, bitsR_getD]
  by_cases hlt : i < endB b + 16
  · rw [if_pos hlt, Nat.zero_add]
  · rw [if_neg hlt]
    have := congrArg (fun l => l.getD (i - (endB b + 16)) false) hz
    simp only [bitsR_getD, vbits_getD] at this
    rw [if_pos (by omega), if_pos (by omega), show endB b + 16 + (i - (endB b + 16)) = i by omega] at this
    rw [this]
    simp
end Go.Abs.C03

/- Chapter 03: the functions keep their contracts: reading a packet. -/
namespace Go.Abs.C03
open Go Go.Proofs Sp03
set_option maxRecDepth 100000

theorem tb_at {a : List Int} {m : Nat} (hm : m ≤ 1024) (p n : Nat) (hn : n ≤ 64) (h1 : p + n ≤ 8 * (a.take m).length) : (Sp03.take (a.take m, 8 * ((a.take m).length : Int), ()) p n).1 = gv a p n := by
  have hl : (a.take m).length ≤ 1024 := by rw [List.length_take]; omega
  rw [take_bytes hl p n hn, decide_eq_true h1]
  exact gv_cut a m p n (by rw [List.length_take] at h1; omega)
theorem len8 {a : List Int} {m : Nat} (hm : m ≤ 1024) : IntKind.wrap .i64 (8 * Int.ofNat (a.take m).length) = 8 * ((a.take m).length : Int) := by
  have hl : (a.take m).length ≤ 1024 := by rw [List.length_take]; omega
  exact wi64 (by simp only [Int.ofNat_eq_natCast]; omega) (by simp only [Int.ofNat_eq_natCast]; omega)
theorem wv8 (a : List Int) (p : Nat) : IntKind.wrap .u8 (gv a p 8) = gv a p 8 := by
  have := gv_range a p 8
  have e : ((2 ^ 8 : Nat) : Int) = 256 := by decide
  exact wu8 this.1 (by omega)
theorem wvn (a : List Int) (p n : Nat) (h : n ≤ 62) : IntKind.wrap .i64 (gv a p n) = gv a p n := by
  have := gv_range a p n
  have e : 2 ^ n ≤ 2 ^ 62 := Nat.pow_le_pow_right (by decide) h
  have e2 : (2 : Nat) ^ 62 = 4611686018427387904 := by decide
  exact wi64 (by omega) (by omega)
theorem nS_cast (a : List Int) : gv a 42 7 = (nS a : Int) := gvN a 42 7
theorem nS_lt (a : List Int) : nS a < 128 := by
  have := gv_range a 42 7
  have e : ((2 ^ 7 : Nat) : Int) = 128 := by decide
  unfold nS; omega
theorem pay_rd1 (a : List Int) (p n : Nat) (hn : n ≤ 64) (h : p + 8 * n ≤ 8 * (a.take 1024).length) :
    Loop (g14_s0 a) ([], (p : Int), ((n : Int), ()), ()) = some ((List.range n).map (fun i => gv a (p + 8 * i) 8), ()) := by
  have key : ∀ k, k ≤ n → Loop (g14_s0 a) ((List.range (n - k)).map (fun i => gv a (p + 8 * i) 8), ((p + 8 * (n - k) : Nat) : Int), ((k : Int), ()), ()) = some ((List.range n).map (fun i => gv a (p + 8 * i) 8), ()) := by
    intro k
    induction k with
    | zero => intro _; rw [Loop_step]; rfl
    | succ k ih =>
      intro hk
      have hB : (a.take 1024).length ≤ 1024 := by rw [List.length_take]; omega
      have ht := tb_at (a := a) (m := 1024) (by decide) (p + 8 * (n - (k + 1))) 8 (by decide) (by omega)
      have e1 : n - k = n - (k + 1) + 1 := by omega
      have hl : ((List.range (n - (k + 1))).map (fun i => gv a (p + 8 * i) 8)).length = n - (k + 1) := by rw [List.length_map, List.length_range]
      rw [Loop_step]
      have hs : g14_s0 a ((List.range (n - (k + 1))).map (fun i => gv a (p + 8 * i) 8), ((p + 8 * (n - (k + 1)) : Nat) : Int), (((k + 1 : Nat) : Int), ()), ()) = some (.inl ((List.range (n - k)).map (fun i => gv a (p + 8 * i) 8), ((p + 8 * (n - k) : Nat) : Int), ((k : Int), ()), ())) := by
        unfold g14_s0
        simp only [front, len8 (a := a) (m := 1024) (by decide)]
        have ht' : (Sp03.take (a.take 1024, 8 * ((a.take 1024).length : Int), ()) ((p + 8 * (n - (k + 1)) : Nat) : Int) 8).1 = gv a (p + 8 * (n - (k + 1))) 8 := ht
        rw [ht', hl, wv8, decide_eq_true (show ((k + 1 : Nat) : Int) > 0 by omega), show Nat.ble ((n - (k + 1) + 1) * 1) 140737488355328 = true from Nat.ble_eq_true_of_le (by omega),
          wi64 (n := ((p + 8 * (n - (k + 1)) : Nat) : Int) + 8) (by omega) (by omega), wi64 (n := ((k + 1 : Nat) : Int) - 1) (by omega) (by omega), show ((p + 8 * (n - (k + 1)) : Nat) : Int) + 8 = ((p + 8 * (n - k) : Nat) : Int) by omega, show ((k + 1 : Nat) : Int) - 1 = (k : Int) by omega, e1, List.range_succ, List.map_append]
        simp only [cond_true, List.map_cons, List.map_nil]
      rw [hs]
      exact ih (by omega)
  have := key n (Nat.le_refl _)
  rw [Nat.sub_self] at this
  exact this

theorem g14_ok (a0 : (List Int)) (r0 : (Ty.sl (.int .u8)).ok a0) : g14 a0 = some (Sp03.decode a0, ()) := by
  obtain ⟨hlen, hbytes⟩ := dat r0
  have e00 : IntKind.wrap .i64 (8 * Int.ofNat a0.length) = 8 * (a0.length : Int) := wi64 (by simp only [Int.ofNat_eq_natCast]; omega) (by simp only [Int.ofNat_eq_natCast]; omega)
  have hB : (a0.take 1024).length = min 1024 a0.length := List.length_take
  have c0 : (true && (decide ((0 : Int) ≤ (bif (decide ((1024 : Int) < (Int.ofNat a0.length))) then (1024 : Int) else (Int.ofNat a0.length)))) && (decide ((bif (decide ((1024 : Int) < (Int.ofNat a0.length))) then (1024 : Int) else (Int.ofNat a0.length)) ≤ (Int.ofNat a0.length)))) = true := by
    by_cases h : (1024 : Int) < Int.ofNat a0.length
    · simp only [h, decide_true, cond_true, Bool.true_and, Bool.and_eq_true, decide_eq_true_eq]
      simp only [Int.ofNat_eq_natCast] at h ⊢
      omega
    · simp only [h, decide_false, cond_false, Bool.true_and, Bool.and_eq_true, decide_eq_true_eq]
      simp only [Int.ofNat_eq_natCast] at h ⊢
      omega
  unfold g14 Sp03.decode
  rw [e00]
  by_cases h49 : 8 * a0.length < 49
  · rw [decide_eq_true (show 8 * (a0.length : Int) < 49 by omega), decide_eq_true h49]; rfl
  rw [decide_eq_false (show ¬ 8 * (a0.length : Int) < 49 by omega), decide_eq_false h49, c0]
  have t := fun (p n : Nat) (hn : n ≤ 64) (h1 : p + n ≤ 8 * (a0.take 1024).length) => tb_at (a := a0) (m := 1024) (by decide) p n hn h1
  have t0 : (Sp03.take (a0.take 1024, 8 * ((a0.take 1024).length : Int), ()) 0 2).1 = gv a0 0 2 := t 0 2 (by decide) (by omega)
  have t2 : (Sp03.take (a0.take 1024, 8 * ((a0.take 1024).length : Int), ()) 2 2).1 = gv a0 2 2 := t 2 2 (by decide) (by omega)
  have t4 : (Sp03.take (a0.take 1024, 8 * ((a0.take 1024).length : Int), ()) 4 3).1 = gv a0 4 3 := t 4 3 (by decide) (by omega)
  have t7 : (Sp03.take (a0.take 1024, 8 * ((a0.take 1024).length : Int), ()) 7 5).1 = gv a0 7 5 := t 7 5 (by decide) (by omega)
  have t12 : (Sp03.take (a0.take 1024, 8 * ((a0.take 1024).length : Int), ()) 12 2).1 = gv a0 12 2 := t 12 2 (by decide) (by omega)
  have t14 : (Sp03.take (a0.take 1024, 8 * ((a0.take 1024).length : Int), ()) 14 6).1 = gv a0 14 6 := t 14 6 (by decide) (by omega)
  have t20 : (Sp03.take (a0.take 1024, 8 * ((a0.take 1024).length : Int), ()) 20 10).1 = gv a0 20 10 := t 20 10 (by decide) (by omega)
  have t30 : (Sp03.take (a0.take 1024, 8 * ((a0.take 1024).length : Int), ()) 30 9).1 = gv a0 30 9 := t 30 9 (by decide) (by omega)
  have t39 : (Sp03.take (a0.take 1024, 8 * ((a0.take 1024).length : Int), ()) 39 3).1 = gv a0 39 3 := t 39 3 (by decide) (by omega)
  have t42 : (Sp03.take (a0.take 1024, 8 * ((a0.take 1024).length : Int), ()) 42 7).1 = gv a0 42 7 := t 42 7 (by decide) (by omega)
  have g12 := gv2 a0 12
  obtain ⟨n1, n2, n3, n4, n5⟩ := nLn_vlen a0
  have hS := nS_lt a0
  have hin : (inside (nLn a0 : Int) 0 1000 && inside (nS a0 : Int) 0 1000) = true := by simp [Sp03.inside]; omega
  have hend : endB a0 = 49 + nLn a0 + 8 * nS a0 := rfl
  have E : (65 + (nLn a0 : Int) + 8 * (nS a0 : Int)) = ((endB a0 + 16 : Nat) : Int) := by omega
  have q1 : (8 * ((a0.take 1024).length : Int) < ((endB a0 + 16 : Nat) : Int)) = (8 * a0.length < endB a0 + 16) := propext (by omega)
  have q2 : IntKind.wrap .i64 (((endB a0 + 16 : Nat) : Int) - 16) = ((endB a0 : Nat) : Int) := by
    rw [wi64 (by omega) (by omega)]; omega
  have q3 : IntKind.wrap .i64 (Int.ofNat (BitVec.and (BitVec.ofInt 64 (IntKind.wrap .i64 (0 - ((endB a0 + 16 : Nat) : Int)))) (BitVec.ofInt 64 7)).toNat) = ((free (endB a0) : Nat) : Int) := free_and ⟨endB a0, by omega⟩
  have hf := free_le (endB a0)
  have q4 : IntKind.wrap .i64 (((endB a0 + 16 : Nat) : Int) + ((free (endB a0) : Nat) : Int)) = ((endB a0 + 16 + free (endB a0) : Nat) : Int) := by
    rw [wi64 (by omega) (by omega)]; omega
  have q5 : (((endB a0 + 16 + free (endB a0) : Nat) : Int) < 8 * (a0.length : Int)) = (8 * ((endB a0 + 23) / 8) < 8 * a0.length) := propext (by omega)
  have q6 : IntKind.wrap .i64 (49 + (nLn a0 : Int)) = ((49 + nLn a0 : Nat) : Int) := by
    rw [wi64 (by omega) (by omega)]; omega
  have q7 : IntKind.wrap .i64 (nS a0 : Int) = (nS a0 : Int) := wi64 (by omega) (by omega)
  simp only [q7, cond_true, cond_false, front, len8 (a := a0) (m := 1024) (by decide), t0, t2, t4, t7, t12, t14, t20, t30, t39, t42, wvn a0 2 2 (by decide), wvn a0 4 3 (by decide), wvn a0 7 5 (by decide), wvn a0 12 2 (by decide), wvn a0 14 6 (by decide), wvn a0 20 10 (by decide),
    wvn a0 30 9 (by decide), wvn a0 39 3 (by decide), wvn a0 42 7 (by decide), wvn a0 0 2 (by decide), dec_run g12.1 g12.2, g12.1, decide_true, n3, nS_cast, on_true hin, Option.bind_some, E, gt_iff_lt, q2, q3, q4, q6]
  by_cases ca : gv a0 0 2 = 2
  rotate_left
  · simp only [ca, decide_false, Bool.not_false, cond_true]; rfl
  by_cases cb : gv a0 2 2 = 0
  · simp only [ca, cb, decide_true, Bool.not_true, cond_false, cond_true]; rfl
  by_cases cc : 256 < gv a0 30 9
  · simp only [ca, cb, cc, decide_true, decide_false, Bool.not_true, cond_false, cond_true, Bool.true_or, Option.bind_some]; rfl
  by_cases cd : 64 < (nS a0 : Int)
  · simp only [ca, cb, cc, cd, decide_true, decide_false, Bool.not_true, Bool.not_false, cond_false, cond_true, Bool.false_or, Option.bind_some]; rfl
  by_cases c1 : 8 * a0.length < endB a0 + 16
  · simp only [ca, cb, cc, cd, q1, c1, decide_true, decide_false, Bool.not_true, Bool.not_false, cond_false, cond_true, Bool.or_self, Option.bind_some]; rfl
  have hcr : ((Sp03.check (Sp03.slice (a0.take 1024, 8 * ((a0.take 1024).length : Int), ()) 0 ((endB a0 : Nat) : Int)).1).1) = (crc (bitsR a0 0 (endB a0)) : Nat) := by
    rw [check_slice (by omega) (by omega), bitsR_take a0 1024 0 _ (by omega)]
  have t16 : (Sp03.take (a0.take 1024, 8 * ((a0.take 1024).length : Int), ()) ((endB a0 : Nat) : Int) 16).1 = gv a0 (endB a0) 16 := t (endB a0) 16 (by decide) (by omega)
  have t24 := t (endB a0 + 16) (free (endB a0)) (by omega) (by omega)
  have t49 : (Sp03.take (a0.take 1024, 8 * ((a0.take 1024).length : Int), ()) 49 (nLn a0 : Int)).1 = gv a0 49 (nLn a0) := t 49 (nLn a0) (by omega) (by omega)
  by_cases c2 : gv a0 (endB a0) 16 = (crc (bitsR a0 0 (endB a0)) : Nat)
  rotate_left
  · simp only [ca, cb, cc, cd, q1, c1, t16, hcr, c2, decide_true, decide_false, Bool.not_true, Bool.not_false, cond_false, cond_true, Bool.or_self, Option.bind_some]; rfl
  by_cases c3 : gv a0 (endB a0 + 16) (free (endB a0)) = 0
  rotate_left
  · simp only [ca, cb, cc, cd, q1, c1, t16, hcr, c2, t24, c3, decide_true, decide_false, Bool.not_true, Bool.not_false, cond_false, cond_true, Bool.or_self, Option.bind_some]; rfl
  by_cases c4 : 8 * ((endB a0 + 23) / 8) < 8 * a0.length
  · simp only [ca, cb, cc, cd, q1, c1, t16, hcr, c2, t24, c3, q5, c4, decide_true, decide_false, Bool.not_true, Bool.not_false, cond_false, cond_true, Bool.or_self, Option.bind_some]; rfl
  simp only [ca, cb, cc, cd, q1, c1, t16, hcr, c2, t24, c3, q5, c4, t49, decide_true, decide_false, Bool.not_true, Bool.not_false, cond_false, cond_true, Bool.or_self, Option.bind_some]
  rw [pay_rd1 a0 (49 + nLn a0) (nS a0) (by omega) (by omega)]
  simp only [Option.bind_some, fieldsP, n3]

end Go.Abs.C03

/- Chapter 03: the functions keep their contracts: reading a packet, the reference. -/
namespace Go.Abs.C03
open Go Go.Proofs Sp03
set_option maxRecDepth 100000

theorem fld_step {a : List Int} {r : Int} (h : 49 ≤ 8 * (a.take 128).length) (i p w : Nat) (acc : List Int) (hi : i < 10) (hacc : acc.length < 100) (hw : widths.getD i 0 = (w : Int)) (hw2 : w ≤ 20) (hp : p + w ≤ 49) :
    Loop (g17_s0 (r, a.take 128, ())) (acc, (p : Int), (i : Int), ()) = Loop (g17_s0 (r, a.take 128, ())) (acc ++ [gv a p w], ((p + w : Nat) : Int), ((i + 1 : Nat) : Int), ()) := by
  have hs : g17_s0 (r, a.take 128, ()) (acc, (p : Int), (i : Int), ()) = some (.inl (acc ++ [gv a p w], ((p + w : Nat) : Int), ((i + 1 : Nat) : Int), ())) := by
    unfold g17_s0
    have e : widths.length = 10 := rfl
    have ht := tb_at (a := a) (m := 128) (by decide) p w (by omega) (by omega)
    simp only [e, Int.toNat_natCast, hw, len8 (a := a) (m := 128) (by decide), ht, wvn a p w (by omega)]
    rw [decide_eq_true (show (i : Int) < Int.ofNat 10 by simp only [Int.ofNat_eq_natCast]; omega), decide_eq_true (show (0 : Int) ≤ (i : Int) by omega), show Nat.ble ((acc.length + 1) * 8) 140737488355328 = true from Nat.ble_eq_true_of_le (by omega),
      wi64 (n := (p : Int) + (w : Int)) (by omega) (by omega), wi64 (n := (i : Int) + 1) (by omega) (by omega)]
    rfl
  rw [Loop_step, hs]
def flds (a : List Int) : List Int := [gv a 0 2, gv a 2 2, gv a 4 3, gv a 7 5, gv a 12 2, gv a 14 6, gv a 20 10, gv a 30 9, gv a 39 3, gv a 42 7]
theorem fld_loop {a : List Int} {r : Int} (h : 49 ≤ 8 * (a.take 128).length) : Loop (g17_s0 (r, a.take 128, ())) ([], (0 : Int), (0 : Int), ()) = some (flds a, (49 : Int), ()) := by
  refine (fld_step h 0 0 2 [] (by decide) (by simp) rfl (by decide) (by decide)).trans ?_
  refine (fld_step h 1 2 2 _ (by decide) (by simp) rfl (by decide) (by decide)).trans ?_
  refine (fld_step h 2 4 3 _ (by decide) (by simp) rfl (by decide) (by decide)).trans ?_
  refine (fld_step h 3 7 5 _ (by decide) (by simp) rfl (by decide) (by decide)).trans ?_
  refine (fld_step h 4 12 2 _ (by decide) (by simp) rfl (by decide) (by decide)).trans ?_
  refine (fld_step h 5 14 6 _ (by decide) (by simp) rfl (by decide) (by decide)).trans ?_
  refine (fld_step h 6 20 10 _ (by decide) (by simp) rfl (by decide) (by decide)).trans ?_
  refine (fld_step h 7 30 9 _ (by decide) (by simp) rfl (by decide) (by decide)).trans ?_
  refine (fld_step h 8 39 3 _ (by decide) (by simp) rfl (by decide) (by decide)).trans ?_
  refine (fld_step h 9 42 7 _ (by decide) (by simp) rfl (by decide) (by decide)).trans ?_
  rw [Loop_step]
  rfl
theorem flds_len (a : List Int) : (flds a).length = 10 := rfl
theorem pay_rd2 {a : List Int} {r : Int} (p n : Nat) (hn : n ≤ 64) (hS : nS a = n) (h : p + 8 * n ≤ 8 * (a.take 128).length) :
    Loop (g17_s1 (r, a.take 128, ())) ([], (p : Int), (0 : Int), flds a, ()) = some ((List.range n).map (fun i => gv a (p + 8 * i) 8), ((p + 8 * n : Nat) : Int), flds a, ()) := by
  have h9 : (flds a).getD 9 0 = (n : Int) := by rw [← hS]; exact nS_cast a
  have key : ∀ k, k ≤ n → Loop (g17_s1 (r, a.take 128, ())) ((List.range (n - k)).map (fun i => gv a (p + 8 * i) 8), ((p + 8 * (n - k) : Nat) : Int), ((n - k : Nat) : Int), flds a, ()) = some ((List.range n).map (fun i => gv a (p + 8 * i) 8), ((p + 8 * n : Nat) : Int), flds a, ()) := by
    intro k
    induction k with
    | zero =>
      intro _
      rw [Loop_step]
      unfold g17_s1
      simp only [flds_len, h9, Nat.sub_zero]
      rw [decide_eq_false (show ¬ (n : Int) < (n : Int) by omega)]
      rfl
    | succ k ih =>
      intro hk
      have hB : (a.take 128).length ≤ 128 := by rw [List.length_take]; omega
      have ht := tb_at (a := a) (m := 128) (by decide) (p + 8 * (n - (k + 1))) 8 (by decide) (by omega)
      have e1 : n - k = n - (k + 1) + 1 := by omega
      have hl : ((List.range (n - (k + 1))).map (fun i => gv a (p + 8 * i) 8)).length = n - (k + 1) := by rw [List.length_map, List.length_range]
      rw [Loop_step]
      have hs : g17_s1 (r, a.take 128, ()) ((List.range (n - (k + 1))).map (fun i => gv a (p + 8 * i) 8), ((p + 8 * (n - (k + 1)) : Nat) : Int), ((n - (k + 1) : Nat) : Int), flds a, ()) = some (.inl ((List.range (n - k)).map (fun i => gv a (p + 8 * i) 8), ((p + 8 * (n - k) : Nat) : Int), ((n - k : Nat) : Int), flds a, ())) := by
        unfold g17_s1
        simp only [flds_len, h9, len8 (a := a) (m := 128) (by decide)]
        have ht' : (Sp03.take (a.take 128, 8 * ((a.take 128).length : Int), ()) ((p + 8 * (n - (k + 1)) : Nat) : Int) 8).1 = gv a (p + 8 * (n - (k + 1))) 8 := ht
        rw [ht', hl, wv8, decide_eq_true (show ((n - (k + 1) : Nat) : Int) < (n : Int) by omega), show Nat.ble ((n - (k + 1) + 1) * 1) 140737488355328 = true from Nat.ble_eq_true_of_le (by omega),
          wi64 (n := ((p + 8 * (n - (k + 1)) : Nat) : Int) + 8) (by omega) (by omega), wi64 (n := ((n - (k + 1) : Nat) : Int) + 1) (by omega) (by omega), show ((p + 8 * (n - (k + 1)) : Nat) : Int) + 8 = ((p + 8 * (n - k) : Nat) : Int) by omega, show ((n - (k + 1) : Nat) : Int) + 1 = ((n - k : Nat) : Int) by omega, e1, List.range_succ, List.map_append]
        rfl
      rw [hs]
      exact ih (by omega)
  have := key n (Nat.le_refl _)
  rw [Nat.sub_self] at this
  exact this

theorem g17_ok (a0 : (List Int)) (r0 : (Ty.sl (.int .u8)).ok a0) : g17 a0 = some (Sp03.decode a0, ()) := by
  obtain ⟨hlen, hbytes⟩ := dat r0
  have e00 : IntKind.wrap .i64 (8 * Int.ofNat a0.length) = 8 * (a0.length : Int) := wi64 (by simp only [Int.ofNat_eq_natCast]; omega) (by simp only [Int.ofNat_eq_natCast]; omega)
  have hB : (a0.take 128).length = min 128 a0.length := List.length_take
  have hy : (bif decide ((Int.ofNat a0.length) > (128 : Int)) then (bif (true && (decide ((128 : Int) ≤ (Int.ofNat a0.length)))) then (some ((IntKind.wrap .i64 ((Int.ofNat a0.length) - (128 : Int))), ((List.drop 0 (List.take 128 a0)), ()))) else none) else (some ((0 : Int), (a0, ())))) = some (((a0.length - (a0.take 128).length : Nat) : Int), a0.take 128, ()) := by
    simp only [Int.ofNat_eq_natCast, gt_iff_lt, List.drop_zero]
    by_cases h : (128 : Int) < (a0.length : Int)
    · rw [decide_eq_true h, decide_eq_true (show (128 : Int) ≤ (a0.length : Int) by omega), wi64 (by omega) (by omega)]
      simp only [cond_true, Bool.true_and]
      congr 2
      omega
    · rw [decide_eq_false h, List.take_of_length_le (show a0.length ≤ 128 by omega)]
      simp
  unfold g17 Sp03.decode
  rw [e00]
  by_cases h49 : 8 * a0.length < 49
  · rw [decide_eq_true (show 8 * (a0.length : Int) < 49 by omega), decide_eq_true h49]; rfl
  rw [decide_eq_false (show ¬ 8 * (a0.length : Int) < 49 by omega), decide_eq_false h49]
  have t := fun (p n : Nat) (hn : n ≤ 64) (h1 : p + n ≤ 8 * (a0.take 128).length) => tb_at (a := a0) (m := 128) (by decide) p n hn h1
  have hy' := hy
  simp only [cond_false]
  refine (congrArg (fun z => Option.bind z _) hy).trans ?_
  simp only [Option.bind_some]
  rw [fld_loop (by omega)]
  have x0 : (flds a0).getD 0 0 = gv a0 0 2 := rfl
  have x1 : (flds a0).getD 1 0 = gv a0 2 2 := rfl
  have x2 : (flds a0).getD 2 0 = gv a0 4 3 := rfl
  have x3 : (flds a0).getD 3 0 = gv a0 7 5 := rfl
  have x4 : (flds a0).getD 4 0 = gv a0 12 2 := rfl
  have x5 : (flds a0).getD 5 0 = gv a0 14 6 := rfl
  have x6 : (flds a0).getD 6 0 = gv a0 20 10 := rfl
  have x7 : (flds a0).getD 7 0 = gv a0 30 9 := rfl
  have x8 : (flds a0).getD 8 0 = gv a0 39 3 := rfl
  have x9 : (flds a0).getD 9 0 = (nS a0 : Int) := nS_cast a0
  have k0 : ((0 : Int) < Int.ofNat 10) = True := eq_true (by decide)
  have k1 : ((1 : Int) < Int.ofNat 10) = True := eq_true (by decide)
  have k2 : ((2 : Int) < Int.ofNat 10) = True := eq_true (by decide)
  have k3 : ((3 : Int) < Int.ofNat 10) = True := eq_true (by decide)
  have k4 : ((4 : Int) < Int.ofNat 10) = True := eq_true (by decide)
  have k5 : ((5 : Int) < Int.ofNat 10) = True := eq_true (by decide)
  have k6 : ((6 : Int) < Int.ofNat 10) = True := eq_true (by decide)
  have k7 : ((7 : Int) < Int.ofNat 10) = True := eq_true (by decide)
  have k8 : ((8 : Int) < Int.ofNat 10) = True := eq_true (by decide)
  have k9 : ((9 : Int) < Int.ofNat 10) = True := eq_true (by decide)
  have m0 : Nat.blt 0 10 = true := rfl
  have m1 : Nat.blt 1 10 = true := rfl
  have m2 : Nat.blt 2 10 = true := rfl
  have m3 : Nat.blt 3 10 = true := rfl
  have m4 : Nat.blt 4 10 = true := rfl
  have m5 : Nat.blt 5 10 = true := rfl
  have m6 : Nat.blt 6 10 = true := rfl
  have m7 : Nat.blt 7 10 = true := rfl
  have m8 : Nat.blt 8 10 = true := rfl
  have m9 : Nat.blt 9 10 = true := rfl
  have g12 := gv2 a0 12
  obtain ⟨n1, n2, n3, n4, n5⟩ := nLn_vlen a0
  have hS := nS_lt a0
  have hin3 : inside (gv a0 12 2) 0 3 = true := inside_iff.2 ⟨by omega, by omega⟩
  have hin : (inside (nLn a0 : Int) 0 1000 && inside (nS a0 : Int) 0 1000) = true := by simp [Sp03.inside]; omega
  have hend : endB a0 = 49 + nLn a0 + 8 * nS a0 := rfl
  have E : Int.ediv (72 + (nLn a0 : Int) + 8 * (nS a0 : Int)) 8 = (((endB a0 + 23) / 8 : Nat) : Int) := by
    show (72 + (nLn a0 : Int) + 8 * (nS a0 : Int)) / 8 = _
    omega
  simp only [Option.bind_some, flds_len, k0, k1, k2, k3, k4, k5, k6, k7, k8, k9, m0, m1, m2, m3, m4, m5, m6, m7, m8, m9, cond_true, decide_true, Bool.true_and, x0, x1, x2, x3, x4, x5, x6, x7, x8, x9, nS_cast, on_true hin3, n3, on_true hin, E, len8 (a := a0) (m := 128) (by decide), gt_iff_lt]
  by_cases ca : gv a0 0 2 = 2
  rotate_left
  · simp only [ca, decide_false, Bool.not_false, cond_true]; rfl
  by_cases cb : gv a0 2 2 = 0
  · simp only [ca, cb, decide_true, Bool.not_true, cond_false, cond_true]; rfl
  by_cases cc : 256 < gv a0 30 9
  · simp only [ca, cb, cc, decide_true, decide_false, Bool.not_true, cond_false, cond_true, Bool.true_or, Option.bind_some]; rfl
  by_cases cd : 64 < (nS a0 : Int)
  · simp only [ca, cb, cc, cd, decide_true, decide_false, Bool.not_true, Bool.not_false, cond_false, cond_true, Bool.false_or, Option.bind_some]; rfl
  have q1 : (Int.ofNat (a0.take 128).length < (((endB a0 + 23) / 8 : Nat) : Int)) = (8 * a0.length < endB a0 + 16) := propext (by simp only [Int.ofNat_eq_natCast]; omega)
  by_cases c1 : 8 * a0.length < endB a0 + 16
  · simp only [ca, cb, cc, cd, q1, c1, decide_true, decide_false, Bool.not_true, Bool.not_false, cond_false, cond_true, Bool.or_self, Bool.true_and, Option.bind_some, flds_len, k0, k1, k7, m0, m1, m7, k4, k9, m4, m9, x4, x9, on_true hin3, n3, on_true hin, E]; rfl
  have hf := free_le (endB a0)
  have q6 : IntKind.wrap .i64 (49 + (nLn a0 : Int)) = ((49 + nLn a0 : Nat) : Int) := by
    rw [wi64 (by omega) (by omega)]; omega
  have q7 : ((49 + nLn a0 + 8 * nS a0 : Nat) : Int) = ((endB a0 : Nat) : Int) := rfl
  have q2 : IntKind.wrap .i64 (((endB a0 : Nat) : Int) + 16) = ((endB a0 + 16 : Nat) : Int) := by
    rw [wi64 (by omega) (by omega)]; omega
  have q3 : IntKind.wrap .i64 (IntKind.wrap .i64 (8 * (((endB a0 + 23) / 8 : Nat) : Int)) - ((endB a0 + 16 : Nat) : Int)) = ((free (endB a0) : Nat) : Int) := by
    rw [wi64 (n := 8 * _) (by omega) (by omega), wi64 (by omega) (by omega)]; omega
  have q5 : ((((endB a0 + 23) / 8 : Nat) : Int) < IntKind.wrap .i64 (Int.ofNat (a0.take 128).length + ((a0.length - (a0.take 128).length : Nat) : Int))) = (8 * ((endB a0 + 23) / 8) < 8 * a0.length) := propext (by
    rw [wi64 (by simp only [Int.ofNat_eq_natCast]; omega) (by simp only [Int.ofNat_eq_natCast]; omega)]
    simp only [Int.ofNat_eq_natCast]
    omega)
  have hcr : ((Sp03.check (Sp03.slice (a0.take 128, 8 * ((a0.take 128).length : Int), ()) 0 ((endB a0 : Nat) : Int)).1).1) = (crc (bitsR a0 0 (endB a0)) : Nat) := by
    rw [check_slice (by omega) (by omega), bitsR_take a0 128 0 _ (by omega)]
  have t16 : (Sp03.take (a0.take 128, 8 * ((a0.take 128).length : Int), ()) ((endB a0 : Nat) : Int) 16).1 = gv a0 (endB a0) 16 := t (endB a0) 16 (by decide) (by omega)
  have t24 := t (endB a0 + 16) (free (endB a0)) (by omega) (by omega)
  have t49 : (Sp03.take (a0.take 128, 8 * ((a0.take 128).length : Int), ()) 49 (nLn a0 : Int)).1 = gv a0 49 (nLn a0) := t 49 (nLn a0) (by omega) (by omega)
  simp only [ca, cb, cc, cd, q1, c1, decide_true, decide_false, Bool.not_true, Bool.not_false, cond_false, cond_true, Bool.or_self, Bool.true_and, Option.bind_some, flds_len, k0, k1, k2, k3, k4, k5, k6, k7, k8, k9, m0, m1, m2, m3, m4, m5, m6, m7, m8, m9, x0, x1, x2, x3, x4, x5, x6, x7, x8, x9, on_true hin3, n3, on_true hin, E, q6]
  rw [pay_rd2 (49 + nLn a0) (nS a0) (by omega) rfl (by omega)]
  simp only [Option.bind_some, q7, t16, hcr, flds_len, k9, decide_true, Bool.true_and, m9, x9, on_true hin, E, q2, q3, t24, q5, cond_true, t49]
  by_cases c2 : gv a0 (endB a0) 16 = (crc (bitsR a0 0 (endB a0)) : Nat)
  rotate_left
  · simp only [c2, decide_false, Bool.not_false, cond_true]; rfl
  by_cases c3 : gv a0 (endB a0 + 16) (free (endB a0)) = 0
  rotate_left
  · simp only [c2, c3, decide_true, decide_false, Bool.not_true, Bool.not_false, cond_false, cond_true]; rfl
  by_cases c4 : 8 * ((endB a0 + 23) / 8) < 8 * a0.length
  · simp only [c2, c3, c4, decide_true, decide_false, Bool.not_true, Bool.not_false, cond_false, cond_true]; rfl
  simp only [c2, c3, c4, decide_true, decide_false, Bool.not_true, Bool.not_false, cond_false, cond_true, fieldsP, n3]

end Go.Abs.C03

/- Chapter 03: the functions keep their contracts: a packet of a tape. -/
namespace Go.Abs.C03
open Go Go.Proofs Sp03
set_option maxRecDepth 100000

theorem g13_ok   : g13  = some (true, ()) := by
  kernel_rfl

theorem bits_wf {t : Tp} {n : Int} (h : wf t = true) : wf (bitsT t n).2 = true := by
  have h1 := raw_wf h
  have h2 := raw_wf h1
  have h3 := next_wf (n := 6) h2
  have h4 := next_wf (n := n) h3
  simp only [bitsT, bitsV]
  cases decide ((next (raw (raw t).2).2 6).1 = 0) <;> cases decide ((next (raw (raw t).2).2 6).1 = 1) <;> cases decide ((next (raw (raw t).2).2 6).1 = 2) <;> simp only [cond_true, cond_false] <;> assumption
theorem bits_in {t : Tp} {n : Int} (hv : vlen n = true) : 0 ≤ (bitsT t n).1 ∧ (bitsT t n).1 < 2 ^ n.toNat := by
  show 0 ≤ and (bitsV t n).1 (full n) ∧ and (bitsV t n).1 (full n) < 2 ^ n.toNat
  unfold Sp03.and full
  rw [hv]
  simp only [cond_true]
  have h1 : Nat.land (bitsV t n).1.toNat ((2 : Int) ^ n.toNat - 1).toNat ≤ ((2 : Int) ^ n.toNat - 1).toNat := Nat.and_le_right
  have h2 := pow2_pos n.toNat
  omega
theorem pick_wf {t : Tp} {l : List Int} (h : wf t = true) : wf (pick t l).2 = true := next_wf (n := (l.length : Int)) h
theorem pick_mem {t : Tp} {l : List Int} (h : 0 < l.length) : (pick t l).1 ∈ l := by
  have := next_range (t := t) (n := (l.length : Int)) (by omega)
  exact getD_mem (by omega)
theorem length_vlen (t : Tp) : vlen (Sp03.length t).1 = true := by
  have h : (Sp03.length t).1 ∈ [8, 8, 16, 32, 64] := pick_mem (by decide)
  simp only [List.mem_cons, List.not_mem_nil, or_false] at h
  rcases h with h | h | h | h | h <;> rw [h] <;> rfl
theorem textN_bytes (t : Tp) : ∀ k, bytesOk (textN k t).1
  | 0 => fun x hx => by cases hx
  | k + 1 => by
    intro x hx
    rw [textN] at hx
    rcases List.mem_append.1 hx with h | h
    · exact textN_bytes t k x h
    · rw [List.mem_singleton.1 h]
      exact next_range (by decide)
theorem text_bytes (t : Tp) (n : Int) : bytesOk (text t n).1 := textN_bytes _ _
theorem text_wf2 {t : Tp} {n : Int} (h : wf t = true) : wf (text t n).2 = true := (text_wf (range_wf h) _).1
theorem text_len {t : Tp} {n : Int} (h : wf t = true) (hn : 0 ≤ n) : ((text t n).1.length : Int) ≤ n := by
  have h1 := range_in (t := t) hn
  have h2 := (text_wf (range_wf (a := 0) (b := n) h) (range t 0 n).1.toNat).2
  show ((textN (range t 0 n).1.toNat (range t 0 n).2).1.length : Int) ≤ n
  omega
theorem pad_loop (x0 x1 x2 x3 x4 x5 x6 x7 x8 : Int) : ∀ (k : Nat) (l : List Int), (64 - l.length) / 3 = k →
    Loop g10_s0 ((x0, x1, x2, x3, x4, x5, x6, x7, x8, l, ()), ()) = some ((x0, x1, x2, x3, x4, x5, x6, x7, x8, l ++ (List.replicate k [97, 98, 99]).flatten, ()), ())
  | 0, l, h => by
    rw [Loop_step]
    unfold g10_s0
    simp only [Int.ofNat_eq_natCast]
    rw [decide_eq_false (show ¬ (l.length : Int) < 62 by omega)]
    simp
  | k + 1, l, h => by
    rw [Loop_step]
    have hs : g10_s0 ((x0, x1, x2, x3, x4, x5, x6, x7, x8, l, ()), ()) = some (.inl ((x0, x1, x2, x3, x4, x5, x6, x7, x8, l ++ [97, 98, 99], ()), ())) := by
      unfold g10_s0
      simp only [Int.ofNat_eq_natCast]
      rw [decide_eq_true (show (l.length : Int) < 62 by omega), show Nat.ble (l.length + 3) 9223372036854775807 = true from Nat.ble_eq_true_of_le (by omega)]
      rfl
    rw [hs]
    have := pad_loop x0 x1 x2 x3 x4 x5 x6 x7 x8 k (l ++ [97, 98, 99]) (by simp only [List.length_append, List.length_cons, List.length_nil]; omega)
    simp only
    rw [this, List.replicate_succ, List.flatten_cons, List.append_assoc]
theorem pad_len (l : List Int) (h : l.length ≤ 64) : (pad l).length ≤ 64 := by
  unfold pad
  simp only [List.length_append, List.length_flatten, List.map_replicate, List.sum_replicate_nat, List.length_cons, List.length_nil]
  omega

theorem g10_ok (a0 : (List Int)) (a1 : Int) (a2 : Int) (r0 : (Ty.sl (.int .i64)).ok a0) (r1 : IntKind.i64.has a1) (r2 : IntKind.i64.has a2) (h : (Sp03.wf (a0, a1, ()) && Sp03.small a2) = true) : g10 a0 a1 a2 = some (Sp03.packet (a0, a1, ()) a2) := by
  simp only [Bool.and_eq_true] at h
  obtain ⟨w0, hsm⟩ := h
  unfold g10 packet pkt
  simp only
  rw [on_true w0]
  simp only [Option.bind_some]
  have w : wf (Sp03.length (a0, a1, ())).2 = true := pick_wf w0
  generalize Sp03.length (a0, a1, ()) = y3 at w ⊢
  rw [on_true (show (wf y3.2 && small 1 && small 3) = true by rw [w]; rfl)]
  simp only [Option.bind_some]
  replace w := range_wf (a := 1) (b := 3) w
  generalize range y3.2 1 3 = y4 at w ⊢
  rw [on_true (show (wf y4.2 && small 0 && small 7) = true by rw [w]; rfl)]
  simp only [Option.bind_some]
  replace w := range_wf (a := 0) (b := 7) w
  generalize range y4.2 0 7 = y5 at w ⊢
  rw [on_true (show (wf y5.2 && decide (0 < 5) && decide (5 ≤ 1000)) = true by rw [w]; rfl)]
  simp only [Option.bind_some]
  replace w := pick_wf (l := [0, 0, 1, 2, 31]) w
  generalize pick y5.2 [0, 0, 1, 2, 31] = y6 at w ⊢
  rw [on_true (show (wf y6.2 && decide (0 < 5) && decide (5 ≤ 1000)) = true by rw [w]; rfl)]
  simp only [Option.bind_some]
  replace w := pick_wf (l := [0, 1, 2, 5, 63]) w
  generalize pick y6.2 [0, 1, 2, 5, 63] = y7 at w ⊢
  rw [on_true w]
  simp only [Option.bind_some]
  replace w := next_wf (n := 1024) w
  generalize next y7.2 1024 = y8 at w ⊢
  rw [on_true (show (wf y8.2 && decide (0 < 5) && decide (5 ≤ 1000)) = true by rw [w]; rfl)]
  simp only [Option.bind_some]
  replace w := pick_wf (l := [0, 1, 8, 255, 256]) w
  generalize pick y8.2 [0, 1, 8, 255, 256] = y9 at w ⊢
  rw [on_true w]
  simp only [Option.bind_some]
  replace w := next_wf (n := 8) w
  generalize next y9.2 8 = y10 at w ⊢
  rw [on_true w]
  simp only [Option.bind_some]
  replace w := bits_wf (n := y3.1) w
  generalize bitsT y10.2 y3.1 = y11 at w ⊢
  rw [on_true (show (wf y11.2 && decide ((0 : Int) ≤ 6) && decide ((6 : Int) ≤ 1000)) = true by rw [w]; rfl)]
  simp only [Option.bind_some]
  have hl := text_len (n := 6) w (by decide)
  replace w := text_wf2 (n := 6) w
  generalize text y11.2 6 = y12 at w hl ⊢
  simp only [gt_iff_lt]
  by_cases hp : 0 < a2
  rotate_left
  · simp only [hp, decide_false, cond_false, Option.bind_some]
  simp only [hp, decide_true, cond_true]
  rw [on_true (show (wf y12.2 && small a2) = true by rw [w, hsm]; rfl)]
  simp only [Option.bind_some]
  replace w := one_wf (n := a2) w
  generalize one y12.2 a2 = y13 at w ⊢
  obtain ⟨b13, t13⟩ := y13
  cases b13 with
  | false => simp only [cond_false, Option.bind_some]
  | true =>
    simp only [cond_true]
    unfold spoilP
    simp only
    simp only at w
    rw [on_true w]
    simp only [Option.bind_some]
    replace w := next_wf (n := 9) w
    generalize next t13 9 = y14 at w ⊢
    have ww := wild_wf w
    rw [on_true w, on_true (show (wf y14.2 && decide (0 < 8) && decide (8 ≤ 1000)) = true by rw [w]; rfl), on_true (show (wf y14.2 && decide ((0 : Int) ≤ 4) && decide ((4 : Int) ≤ 1000)) = true by rw [w]; rfl), pad_loop _ _ _ _ _ _ _ _ _ _ y12.1 rfl]
    have hl4 := text_len (n := 4) w (by decide)
    have hpad := pad_len y12.1 (by omega)
    have hpe : y12.1 ++ (List.replicate ((64 - y12.1.length) / 3) [97, 98, 99]).flatten = pad y12.1 := rfl
    simp only [Option.bind_some, hpe]
    rw [show Nat.ble ((pad y12.1).length + (text y14.2 4).1.length) 9223372036854775807 = true from Nat.ble_eq_true_of_le (by omega)]
    simp only [cond_true, Option.bind_some, md, sd, Sp03.st, ln, tl, en, ig, pr, bt, py]
    by_cases k0 : y14.1 = 0
    · simp only [k0, decide_true, cond_true, Option.bind_some]
    by_cases k1 : y14.1 = 1
    · simp only [k0, k1, decide_true, decide_false, cond_true, cond_false, Option.bind_some]; rfl
    by_cases k2 : y14.1 = 2
    · simp only [k0, k1, k2, decide_true, decide_false, cond_true, cond_false, Option.bind_some]; rfl
    by_cases k3 : y14.1 = 3
    · simp only [k0, k1, k2, k3, decide_true, decide_false, cond_true, cond_false, Option.bind_some]; rfl
    by_cases k4 : y14.1 = 4
    · simp only [k0, k1, k2, k3, k4, decide_true, decide_false, cond_true, cond_false, Option.bind_some]; rfl
    by_cases k5 : y14.1 = 5
    · simp only [k0, k1, k2, k3, k4, k5, decide_true, decide_false, cond_true, cond_false, Option.bind_some]; rfl
    by_cases k6 : y14.1 = 6
    · simp only [k0, k1, k2, k3, k4, k5, k6, decide_true, decide_false, cond_true, cond_false, Option.bind_some]; rfl
    by_cases k7 : y14.1 = 7
    · simp only [k0, k1, k2, k3, k4, k5, k6, k7, decide_true, decide_false, cond_true, cond_false, Option.bind_some]; rfl
    simp only [k0, k1, k2, k3, k4, k5, k6, k7, decide_false, cond_false, Option.bind_some]

/-- The packet of a tape, unspoilt, is valid. -/
theorem pkt_good {t : Tp} (w0 : wf t = true) : validP (pkt t).1 = true ∧ 0 ≤ bt (pkt t).1 ∧ bytesOk (py (pkt t).1) ∧ wf (pkt t).2 = true := by
  unfold pkt
  simp only
  have w : wf (Sp03.length t).2 = true := pick_wf w0
  have v3 := length_vlen t
  generalize Sp03.length t = y3 at w v3 ⊢
  have v4 := range_in (t := y3.2) (a := 1) (b := 3) (by decide)
  replace w := range_wf (a := 1) (b := 3) w
  generalize range y3.2 1 3 = y4 at w v4 ⊢
  have v5 := range_in (t := y4.2) (a := 0) (b := 7) (by decide)
  replace w := range_wf (a := 0) (b := 7) w
  generalize range y4.2 0 7 = y5 at w v5 ⊢
  have v6 := pick_mem (t := y5.2) (l := [0, 0, 1, 2, 31]) (by decide)
  replace w := pick_wf (l := [0, 0, 1, 2, 31]) w
  generalize pick y5.2 [0, 0, 1, 2, 31] = y6 at w v6 ⊢
  have v7 := pick_mem (t := y6.2) (l := [0, 1, 2, 5, 63]) (by decide)
  replace w := pick_wf (l := [0, 1, 2, 5, 63]) w
  generalize pick y6.2 [0, 1, 2, 5, 63] = y7 at w v7 ⊢
  have v8 := next_range (t := y7.2) (n := 1024) (by decide)
  replace w := next_wf (n := 1024) w
  generalize next y7.2 1024 = y8 at w v8 ⊢
  have v9 := pick_mem (t := y8.2) (l := [0, 1, 8, 255, 256]) (by decide)
  replace w := pick_wf (l := [0, 1, 8, 255, 256]) w
  generalize pick y8.2 [0, 1, 8, 255, 256] = y9 at w v9 ⊢
  have v10 := next_range (t := y9.2) (n := 8) (by decide)
  replace w := next_wf (n := 8) w
  generalize next y9.2 8 = y10 at w v10 ⊢
  have v11 := bits_in (t := y10.2) v3
  replace w := bits_wf (n := y3.1) w
  generalize bitsT y10.2 y3.1 = y11 at w v11 ⊢
  have v12 := text_len (n := 6) w (by decide)
  have v13 := text_bytes y11.2 6
  replace w := text_wf2 (n := 6) w
  generalize text y11.2 6 = y12 at w v12 v13 ⊢
  simp only [List.mem_cons, List.not_mem_nil, or_false] at v6 v7 v9
  refine ⟨valid_fit.2 ⟨v4, v5, ?_, v3, v11.2, ?_, ?_, ?_, ?_, ?_⟩, v11.1, v13, w⟩
  · show 0 ≤ y6.1 ∧ y6.1 ≤ 31
    omega
  · show 0 ≤ y7.1 ∧ y7.1 ≤ 63
    omega
  · show 0 ≤ y8.1 ∧ y8.1 ≤ 1023
    omega
  · show 0 ≤ y9.1 ∧ y9.1 ≤ 256
    omega
  · show 0 ≤ y10.1 ∧ y10.1 ≤ 7
    omega
  · show y12.1.length ≤ 64
    omega
theorem packet_zero (t : Tp) : packet t 0 = pkt t := rfl
theorem packet_wf {t : Tp} {n : Int} (w0 : wf t = true) : wf (packet t n).2 = true := by
  have w := (pkt_good w0).2.2.2
  unfold packet
  simp only
  cases decide (0 < n) with
  | false => exact w
  | true =>
    simp only [cond_true]
    replace w := one_wf (n := n) w
    cases (one (pkt t).2 n).1 with
    | false => exact w
    | true =>
      simp only [cond_true]
      replace w := next_wf (n := 9) w
      unfold spoilP
      simp only
      have h1 := wild_wf w
      have h2 := pick_wf (l := [0, 8, 16, 24, 63, 64, 65, -8]) w
      have h3 := text_wf2 (n := 4) w
      generalize next (one (pkt t).2 n).2 9 = k at h1 h2 h3 ⊢
      by_cases k0 : k.1 = 0
      · simp only [k0, decide_true, cond_true]; exact h1
      by_cases k1 : k.1 = 1
      · simp only [k0, k1, decide_true, decide_false, cond_true, cond_false]; exact h1
      by_cases k2 : k.1 = 2
      · simp only [k0, k1, k2, decide_true, decide_false, cond_true, cond_false]; exact h1
      by_cases k3 : k.1 = 3
      · simp only [k0, k1, k2, k3, decide_true, decide_false, cond_true, cond_false]; exact h2
      by_cases k4 : k.1 = 4
      · simp only [k0, k1, k2, k3, k4, decide_true, decide_false, cond_true, cond_false]; exact h1
      by_cases k5 : k.1 = 5
      · simp only [k0, k1, k2, k3, k4, k5, decide_true, decide_false, cond_true, cond_false]; exact h1
      by_cases k6 : k.1 = 6
      · simp only [k0, k1, k2, k3, k4, k5, k6, decide_true, decide_false, cond_true, cond_false]; exact h1
      by_cases k7 : k.1 = 7
      · simp only [k0, k1, k2, k3, k4, k5, k6, k7, decide_true, decide_false, cond_true, cond_false]; exact h1
      simp only [k0, k1, k2, k3, k4, k5, k6, k7, decide_false, cond_false]; exact h3

end Go.Abs.C03

/- Chapter 03: the function that lists the fields, by hand. -/
namespace Go.Abs.C03
open Go Go.Proofs
set_option maxRecDepth 100000 in
set_option maxHeartbeats 2000000 in
theorem f37_calls {w : World} {bp bv ov bc oc bz oz : Nat} :
    Calls Try.prog 37 #[.pointer (some ⟨bp, 0, none⟩), .pointer (some ⟨bv, ov, none⟩), .pointer (some ⟨bc, oc, none⟩), .pointer (some ⟨bz, oz, none⟩)] w fun e w' =>
      e = .returned (.slice (some ⟨w.heap.size, 0, none⟩) 10 10) ∧ w' = w.drew.alloc (.cells #[.pointer (some ⟨bv, ov, none⟩), .int .i64 2, .pointer (some ⟨bp, 0, none⟩), .int .i64 2, .pointer (some ⟨bp, 1, none⟩), .int .i64 3, .pointer (some ⟨bp, 2, none⟩), .int .i64 5,
        .pointer (some ⟨bc, oc, none⟩), .int .i64 2, .pointer (some ⟨bp, 4, none⟩), .int .i64 6, .pointer (some ⟨bp, 5, none⟩), .int .i64 10, .pointer (some ⟨bp, 6, none⟩), .int .i64 9, .pointer (some ⟨bp, 7, none⟩), .int .i64 3, .pointer (some ⟨bz, oz, none⟩), .int .i64 7] 66 (0, 0)) := by
  go_enter Try.func37, Try.ntmps37
  go_wp2
  go_region
  go_wp2
  go_ret
  exact ⟨rfl, rfl⟩

theorem x37_args {dst st : Nat} {l : List D} {u : St} (h : xf37 dst st l = some u) : ∃ p sp v sv ov c sc oc z sz oz, l = [.ptr p sp 0, .ptr v sv ov, .ptr c sc oc, .ptr z sz oz] := by
  unfold xf37 at h
  split at h
  · exact ⟨_, _, _, _, _, _, _, _, _, _, _, rfl⟩
  · cases h
theorem list4 {α β : Type} {f : α → β} {l : List α} {a b c d : β} (h : l.map f = [a, b, c, d]) : ∃ w x y z, l = [w, x, y, z] ∧ f w = a ∧ f x = b ∧ f y = c ∧ f z = d := by
  match l, h with
  | [w, x, y, z], h => simp at h; exact ⟨w, x, y, z, rfl, h⟩
  | [], h => simp at h
  | [_], h => simp at h
  | [_, _], h => simp at h
  | [_, _, _], h => simp at h
  | _ :: _ :: _ :: _ :: _ :: _, h => simp at h

theorem x37_ok : XSem Try.prog 37 xf37 := by
  intro E C o cl s a w G pt t u hm ht hdst hop hcl R hx
  obtain ⟨p, sp, v, sv, ov, c, sc, oc, z, sz, oz, hl⟩ := x37_args hx
  rw [hl] at hx
  simp only [xf37, Option.some.injEq] at hx
  subst hx
  obtain ⟨x0, x1, x2, x3, hargs, e0, e1, e2, e3⟩ := list4 hl
  have r0 := opd_rep R x0; rw [e0] at r0
  have r1 := opd_rep R x1; rw [e1] at r1
  have r2 := opd_rep R x2; rw [e2] at r2
  have r3 := opd_rep R x3; rw [e3] at r3
  obtain ⟨bp, p0, v0⟩ := r0
  obtain ⟨bv, p1, v1⟩ := r1
  obtain ⟨bc, p2, v2⟩ := r2
  obtain ⟨bz, p3, v3⟩ := r3
  intro K Q hK
  have hrun : (execOp a.eval o).run Try.prog w = .ok (.enter 37 (cl.args.map a.eval)) w := by
    have e : execOp a.eval o = callFunc 37 (#[] ++ cl.args.map a.eval ++ #[]) := by
      simp only [execOp, hop, resolve, hcl]
      rfl
    rw [e]
    simp only [callFunc]
    have h2 : ¬ Try.f37.name = "runtime.NumGoroutine" := by decide
    have h3b : Try.f37.body.isNone = false := by kernel_rfl
    have h3 : ¬ Try.f37.body = none := fun h => by rw [h] at h3b; cases h3b
    simp [go_sem, Try.func37, h2, h3]
  unfold Oper.wp
  rw [hrun, Oper.upon_enter]
  have ha : cl.args.map a.eval = #[.pointer (some ⟨bp, 0, none⟩), .pointer (some ⟨bv, ov, none⟩), .pointer (some ⟨bc, oc, none⟩), .pointer (some ⟨bz, oz, none⟩)] := by
    apply Array.ext'
    rw [Array.toList_map, hargs]
    simp only [List.map_cons, List.map_nil, v0, v1, v2, v3]
  rw [ha]
  refine f37_calls.mono ?_
  rintro e w' ⟨rfl, rfl⟩
  have R1 : Rel E C s a w.drew G pt := R.world rfl rfl rfl rfl
  have P : ∀ {id st off b : Nat} {w' : World} (_ : blkOf (pt id st) = some b), RepL w' G pt (.ptr id st off) (.pointer (some ⟨b, off, none⟩)) := fun h => ⟨_, h, rfl⟩
  have I : ∀ {n : Int} {w' : World} (_ : IntKind.i64.has n), RepL w' G pt (.int .i64 n) (.int .i64 n) := fun h => ⟨rfl, h⟩
  have hi : ∀ n : Nat, n ≤ 10 → IntKind.i64.has (n : Int) := fun n hn => i64_nat n (by unfold mlen; omega)
  have key := R1.newWnd hm t ht (ds := [.ptr v sv ov, .int .i64 2, .ptr p sp 0, .int .i64 2, .ptr p sp 1, .int .i64 3, .ptr p sp 2, .int .i64 5, .ptr c sc oc, .int .i64 2,
      .ptr p sp 4, .int .i64 6, .ptr p sp 5, .int .i64 10, .ptr p sp 6, .int .i64 9, .ptr p sp 7, .int .i64 3, .ptr z sz oz, .int .i64 7])
    (cells := #[.pointer (some ⟨bv, ov, none⟩), .int .i64 2, .pointer (some ⟨bp, 0, none⟩), .int .i64 2, .pointer (some ⟨bp, 1, none⟩), .int .i64 3, .pointer (some ⟨bp, 2, none⟩), .int .i64 5,
        .pointer (some ⟨bc, oc, none⟩), .int .i64 2, .pointer (some ⟨bp, 4, none⟩), .int .i64 6, .pointer (some ⟨bp, 5, none⟩), .int .i64 10, .pointer (some ⟨bp, 6, none⟩), .int .i64 9, .pointer (some ⟨bp, 7, none⟩), .int .i64 3, .pointer (some ⟨bz, oz, none⟩), .int .i64 7])
    (e := 66) (n := 10) (fun j hj => by
      have hj : j < 20 := hj
      rcases (by omega : j = 0 ∨ j = 1 ∨ j = 2 ∨ j = 3 ∨ j = 4 ∨ j = 5 ∨ j = 6 ∨ j = 7 ∨ j = 8 ∨ j = 9 ∨ j = 10 ∨ j = 11 ∨ j = 12 ∨ j = 13 ∨ j = 14 ∨ j = 15 ∨ j = 16 ∨ j = 17 ∨ j = 18 ∨ j = 19) with h | h | h | h | h | h | h | h | h | h | h | h | h | h | h | h | h | h | h | h <;> subst h <;> first | exact ⟨P p0, rfl⟩ | exact ⟨P p1, rfl⟩ | exact ⟨P p2, rfl⟩ | exact ⟨P p3, rfl⟩ | exact ⟨I (hi 2 (by omega)), rfl⟩ | exact ⟨I (hi 3 (by omega)), rfl⟩ | exact ⟨I (hi 5 (by omega)), rfl⟩ | exact ⟨I (hi 6 (by omega)), rfl⟩ | exact ⟨I (hi 10 (by omega)), rfl⟩ | exact ⟨I (hi 9 (by omega)), rfl⟩ | exact ⟨I (hi 7 (by omega)), rfl⟩)
    (show 20 ≤ 20 from Nat.le_refl _) (fun b => ⟨by simp [ctLs, ctL], fun h => by simp [ctLs, ctL] at h⟩) (by unfold mlen; omega)
  rw [hdst]
  exact hK _ _ _ _ key
end Go.Abs.C03

/- Chapter 03: the functions keep their contracts. -/
namespace Go.Abs.C03
open Go Go.Proofs
theorem ok75 : FunOk Try.prog B 75 c75 := glue L0 gam_nil plan75 Try.func75 (by kernel_rfl) (by
  rintro ⟨⟨⟩, a0, ⟨⟩⟩ y r h
  obtain ⟨h1, h2⟩ := Sp03.on_some h
  subst h2
  exact (g75_eq a0).trans (g75_ok a0 r.2.1 h1))
theorem all75 : ∀ g con, lookC L75 g = some con → FunOk Try.prog B (g % 1000000) con := gam_cons rfl ok75 gam_nil

theorem ok68 : FunOk Try.prog B 68 c68 := glue L75 all75 plan68 Try.func68 (by kernel_rfl) (by
  rintro ⟨⟨⟩, a0, a1, ⟨⟩⟩ y r h
  obtain ⟨h1, h2⟩ := Sp03.on_some h
  subst h2
  exact (g68_eq a0 a1).trans (g68_ok a0 a1 r.2.1 r.2.2.1 h1))
theorem all68 : ∀ g con, lookC L68 g = some con → FunOk Try.prog B (g % 1000000) con := gam_cons rfl ok68 all75

theorem ok65 : FunOk Try.prog B 65 c65 := glue L68 all68 plan65 Try.func65 (by kernel_rfl) (by
  rintro ⟨⟨⟩, ⟨a0, a1, ⟨⟩⟩, a2, ⟨⟩⟩ y r h
  obtain ⟨h1, h2⟩ := Sp03.on_some h
  subst h2
  exact (g65_eq a0 a1 a2).trans (g65_ok a0 a1 a2 r.2.1.1 r.2.1.2.1 r.2.2.1 h1))
theorem all65 : ∀ g con, lookC L65 g = some con → FunOk Try.prog B (g % 1000000) con := gam_cons rfl ok65 all68

theorem ok62 : FunOk Try.prog B 62 c62 := glue L65 all65 plan62 Try.func62 (by kernel_rfl) (by
  rintro ⟨⟨⟩, ⟨a0, a1, ⟨⟩⟩, ⟨⟩⟩ y r h
  exact (g62_eq a0 a1).trans ((g62_ok a0 a1 r.2.1.1 r.2.1.2.1).trans h))
theorem all62 : ∀ g con, lookC L62 g = some con → FunOk Try.prog B (g % 1000000) con := gam_cons rfl ok62 all65

theorem ok66 : FunOk Try.prog B 66 c66 := glue L62 all62 plan66 Try.func66 (by kernel_rfl) (by
  rintro ⟨⟨⟩, ⟨a0, a1, ⟨⟩⟩, ⟨⟩⟩ y r h
  exact (g66_eq a0 a1).trans ((g66_ok a0 a1 r.2.1.1 r.2.1.2.1).trans h))
theorem all66 : ∀ g con, lookC L66 g = some con → FunOk Try.prog B (g % 1000000) con := gam_cons rfl ok66 all62

theorem ok49 : FunOk Try.prog B 49 c49 := glue L66 all66 plan49 Try.func49 (by kernel_rfl) (by
  rintro ⟨⟨a0, a1, ⟨⟩⟩, ⟨⟩⟩ y r h
  obtain ⟨h1, h2⟩ := Sp03.on_some h
  subst h2
  exact (g49_eq a0 a1).trans (g49_ok a0 a1 r.1.1 r.1.2.1 h1))
theorem all49 : ∀ g con, lookC L49 g = some con → FunOk Try.prog B (g % 1000000) con := gam_cons rfl ok49 all66

theorem ok48 : FunOk Try.prog B 48 c48 := glue L49 all49 plan48 Try.func48 (by kernel_rfl) (by
  rintro ⟨⟨⟩, a0, a1, ⟨⟩⟩ y r h
  exact (g48_eq a0 a1).trans ((g48_ok a0 a1 r.2.1 r.2.2.1).trans h))
theorem all48 : ∀ g con, lookC L48 g = some con → FunOk Try.prog B (g % 1000000) con := gam_cons rfl ok48 all49

theorem ok16 : FunOk Try.prog B 16 c16 := glue L48 all48 plan16 Try.func16 (by kernel_rfl) (by
  rintro ⟨⟨a0, a1, ⟨⟩⟩, a2, ⟨⟩⟩ y r h
  obtain ⟨h1, h2⟩ := Sp03.on_some h
  subst h2
  exact (g16_eq a0 a1 a2).trans (g16_ok a0 a1 a2 r.1.1 r.1.2.1 r.2.1 h1))
theorem all16 : ∀ g con, lookC L16 g = some con → FunOk Try.prog B (g % 1000000) con := gam_cons rfl ok16 all48

theorem ok20 : FunOk Try.prog B 20 c20 := glue L16 all16 plan20 Try.func20 (by kernel_rfl) (by
  rintro ⟨⟨a0, a1, ⟨⟩⟩, a2, a3, ⟨⟩⟩ y r h
  obtain ⟨h1, h2⟩ := Sp03.on_some h
  subst h2
  exact (g20_eq a0 a1 a2 a3).trans (g20_ok a0 a1 a2 a3 r.1.1 r.1.2.1 r.2.1 r.2.2.1 h1))
theorem all20 : ∀ g con, lookC L20 g = some con → FunOk Try.prog B (g % 1000000) con := gam_cons rfl ok20 all16

theorem ok34 : FunOk Try.prog B 34 c34 := glue L20 all20 plan34 Try.func34 (by kernel_rfl) (by
  rintro ⟨⟨a0, a1, ⟨⟩⟩, a2, ⟨⟩⟩ y r h
  obtain ⟨h1, h2⟩ := Sp03.on_some h
  subst h2
  exact (g34_eq a0 a1 a2).trans (g34_ok a0 a1 a2 r.1.1 r.1.2.1 r.2.1 h1))
theorem all34 : ∀ g con, lookC L34 g = some con → FunOk Try.prog B (g % 1000000) con := gam_cons rfl ok34 all20

theorem ok31 : FunOk Try.prog B 31 c31 := glue L34 all34 plan31 Try.func31 (by kernel_rfl) (by
  rintro ⟨⟨a0, a1, ⟨⟩⟩, a2, ⟨⟩⟩ y r h
  obtain ⟨h1, h2⟩ := Sp03.on_some h
  subst h2
  exact (g31_eq a0 a1 a2).trans (g31_ok a0 a1 a2 r.1.1 r.1.2.1 r.2.1 h1))
theorem all31 : ∀ g con, lookC L31 g = some con → FunOk Try.prog B (g % 1000000) con := gam_cons rfl ok31 all34

theorem ok35 : FunOk Try.prog B 35 c35 := glue L31 all31 plan35 Try.func35 (by kernel_rfl) (by
  rintro ⟨⟨a0, a1, ⟨⟩⟩, ⟨⟩⟩ y r h
  obtain ⟨h1, h2⟩ := Sp03.on_some h
  subst h2
  exact (g35_eq a0 a1).trans (g35_ok a0 a1 r.1.1 r.1.2.1 h1))
theorem all35 : ∀ g con, lookC L35 g = some con → FunOk Try.prog B (g % 1000000) con := gam_cons rfl ok35 all31

theorem ok67 : FunOk Try.prog B 67 c67 := glue L35 all35 plan67 Try.func67 (by kernel_rfl) (by
  rintro ⟨⟨⟩, ⟨a0, a1, ⟨⟩⟩, a2, ⟨⟩⟩ y r h
  obtain ⟨h1, h2⟩ := Sp03.on_some h
  subst h2
  exact (g67_eq a0 a1 a2).trans (g67_ok a0 a1 a2 r.2.1.1 r.2.1.2.1 r.2.2.1 h1))
theorem all67 : ∀ g con, lookC L67 g = some con → FunOk Try.prog B (g % 1000000) con := gam_cons rfl ok67 all35

theorem ok53 : FunOk Try.prog B 53 c53 := glue L67 all67 plan53 Try.func53 (by kernel_rfl) (by
  rintro ⟨⟨⟩, ⟨a0, a1, ⟨⟩⟩, a2, a3, ⟨⟩⟩ y r h
  exact (g53_eq a0 a1 a2 a3).trans ((g53_ok a0 a1 a2 a3 r.2.1.1 r.2.1.2.1 r.2.2.1 r.2.2.2.1).trans h))
theorem all53 : ∀ g con, lookC L53 g = some con → FunOk Try.prog B (g % 1000000) con := gam_cons rfl ok53 all67

theorem ok63 : FunOk Try.prog B 63 c63 := glue L53 all53 plan63 Try.func63 (by kernel_rfl) (by
  rintro ⟨⟨⟩, ⟨a0, a1, ⟨⟩⟩, ⟨⟩⟩ y r h
  exact (g63_eq a0 a1).trans ((g63_ok a0 a1 r.2.1.1 r.2.1.2.1).trans h))
theorem all63 : ∀ g con, lookC L63 g = some con → FunOk Try.prog B (g % 1000000) con := gam_cons rfl ok63 all53

theorem ok64 : FunOk Try.prog B 64 c64 := glue L63 all63 plan64 Try.func64 (by kernel_rfl) (by
  rintro ⟨⟨a0, a1, ⟨⟩⟩, a2, a3, ⟨⟩⟩ y r h
  obtain ⟨h1, h2⟩ := Sp03.on_some h
  subst h2
  exact (g64_eq a0 a1 a2 a3).trans (g64_ok a0 a1 a2 a3 r.1.1 r.1.2.1 r.2.1 r.2.2.1 h1))
theorem all64 : ∀ g con, lookC L64 g = some con → FunOk Try.prog B (g % 1000000) con := gam_cons rfl ok64 all63

theorem ok69 : FunOk Try.prog B 69 c69 := glue L64 all64 plan69 Try.func69 (by kernel_rfl) (by
  rintro ⟨⟨⟩, ⟨a0, a1, ⟨⟩⟩, a2, a3, ⟨⟩⟩ y r h
  obtain ⟨h1, h2⟩ := Sp03.on_some h
  subst h2
  exact (g69_eq a0 a1 a2 a3).trans (g69_ok a0 a1 a2 a3 r.2.1.1 r.2.1.2.1 r.2.2.1 r.2.2.2.1 h1))
theorem all69 : ∀ g con, lookC L69 g = some con → FunOk Try.prog B (g % 1000000) con := gam_cons rfl ok69 all64

theorem ok70 : FunOk Try.prog B 70 c70 := glue L69 all69 plan70 Try.func70 (by kernel_rfl) (by
  rintro ⟨⟨a0, a1, ⟨⟩⟩, ⟨a2, a3, ⟨⟩⟩, a4, a5, ⟨⟩⟩ y r h
  obtain ⟨h1, h2⟩ := Sp03.on_some h
  subst h2
  exact (g70_eq a0 a1 a2 a3 a4 a5).trans (g70_ok a0 a1 a2 a3 a4 a5 r.1.1 r.1.2.1 r.2.1.1 r.2.1.2.1 r.2.2.1 r.2.2.2.1 h1))
theorem all70 : ∀ g con, lookC L70 g = some con → FunOk Try.prog B (g % 1000000) con := gam_cons rfl ok70 all69

theorem ok38 : FunOk Try.prog B 38 c38 := glue L70 all70 plan38 Try.func38 (by kernel_rfl) (by
  rintro ⟨⟨⟩, ⟨a0, a1, ⟨⟩⟩, a2, a3, ⟨⟩⟩ y r h
  exact (g38_eq a0 a1 a2 a3).trans ((g38_ok a0 a1 a2 a3 r.2.1.1 r.2.1.2.1 r.2.2.1 r.2.2.2.1).trans h))
theorem all38 : ∀ g con, lookC L38 g = some con → FunOk Try.prog B (g % 1000000) con := gam_cons rfl ok38 all70

theorem ok38w1 : FunOk Try.prog B 38 c38w1 := glue L38 all38 plan38w1 Try.func38 (by kernel_rfl) (by
  rintro ⟨⟨⟩, ⟨a0, a1, ⟨⟩⟩, a2, a3, ⟨⟩⟩ y r h
  exact (g38w1_eq a0 a1 a2 a3).trans ((g38w1_ok a0 a1 a2 a3 r.2.1.1 r.2.1.2.1 r.2.2.1 r.2.2.2.1).trans h))
theorem all38w1 : ∀ g con, lookC L38w1 g = some con → FunOk Try.prog B (g % 1000000) con := gam_cons rfl ok38w1 all38

theorem ok42 : FunOk Try.prog B 42 c42 := glue L38w1 all38w1 plan42 Try.func42 (by kernel_rfl) (by
  rintro ⟨⟨⟩, ⟨a0, a1, ⟨⟩⟩, a2, a3, ⟨⟩⟩ y r h
  exact (g42_eq a0 a1 a2 a3).trans ((g42_ok a0 a1 a2 a3 r.2.1.1 r.2.1.2.1 r.2.2.1 r.2.2.2.1).trans h))
theorem all42 : ∀ g con, lookC L42 g = some con → FunOk Try.prog B (g % 1000000) con := gam_cons rfl ok42 all38w1

theorem ok45 : FunOk Try.prog B 45 c45 := glue L42 all42 plan45 Try.func45 (by kernel_rfl) (by
  rintro ⟨⟨⟩, ⟨a0, a1, ⟨⟩⟩, a2, a3, ⟨⟩⟩ y r h
  exact (g45_eq a0 a1 a2 a3).trans ((g45_ok a0 a1 a2 a3 r.2.1.1 r.2.1.2.1 r.2.2.1 r.2.2.2.1).trans h))
theorem all45 : ∀ g con, lookC L45 g = some con → FunOk Try.prog B (g % 1000000) con := gam_cons rfl ok45 all42

theorem ok50 : FunOk Try.prog B 50 c50 := glue L45 all45 plan50 Try.func50 (by kernel_rfl) (by
  rintro ⟨⟨⟩, ⟨a0, a1, ⟨⟩⟩, a2, a3, ⟨⟩⟩ y r h
  exact (g50_eq a0 a1 a2 a3).trans ((g50_ok a0 a1 a2 a3 r.2.1.1 r.2.1.2.1 r.2.2.1 r.2.2.2.1).trans h))
theorem all50 : ∀ g con, lookC L50 g = some con → FunOk Try.prog B (g % 1000000) con := gam_cons rfl ok50 all45

theorem ok39 : FunOk Try.prog B 39 c39 := glue L50 all50 plan39 Try.func39 (by kernel_rfl) (by
  rintro ⟨⟨⟩, ⟨a0, a1, ⟨⟩⟩, ⟨⟩⟩ y r h
  exact (g39_eq a0 a1).trans ((g39_ok a0 a1 r.2.1.1 r.2.1.2.1).trans h))
theorem all39 : ∀ g con, lookC L39 g = some con → FunOk Try.prog B (g % 1000000) con := gam_cons rfl ok39 all50

theorem ok43 : FunOk Try.prog B 43 c43 := glue L39 all39 plan43 Try.func43 (by kernel_rfl) (by
  rintro ⟨⟨⟩, ⟨a0, a1, ⟨⟩⟩, ⟨⟩⟩ y r h
  exact (g43_eq a0 a1).trans ((g43_ok a0 a1 r.2.1.1 r.2.1.2.1).trans h))
theorem all43 : ∀ g con, lookC L43 g = some con → FunOk Try.prog B (g % 1000000) con := gam_cons rfl ok43 all39

theorem ok9 : FunOk Try.prog B 9 c9 := glue L43 all43 plan9 Try.func9 (by kernel_rfl) (by
  rintro ⟨⟨⟩, a0, ⟨⟩⟩ y r h
  exact (g9_eq a0).trans ((g9_ok a0 r.2.1).trans h))
theorem all9 : ∀ g con, lookC L9 g = some con → FunOk Try.prog B (g % 1000000) con := gam_cons rfl ok9 all43

theorem ok44 : FunOk Try.prog B 44 c44 := glue L9 all9 plan44 Try.func44 (by kernel_rfl) (by
  rintro ⟨⟨⟩, ⟨a0, a1, ⟨⟩⟩, ⟨⟩⟩ y r h
  exact (g44_eq a0 a1).trans ((g44_ok a0 a1 r.2.1.1 r.2.1.2.1).trans h))
theorem all44 : ∀ g con, lookC L44 g = some con → FunOk Try.prog B (g % 1000000) con := gam_cons rfl ok44 all9

theorem ok47 : FunOk Try.prog B 47 c47 := glue L44 all44 plan47 Try.func47 (by kernel_rfl) (by
  rintro ⟨⟨⟩, ⟨a0, a1, ⟨⟩⟩, a2, a3, ⟨⟩⟩ y r h
  exact (g47_eq a0 a1 a2 a3).trans ((g47_ok a0 a1 a2 a3 r.2.1.1 r.2.1.2.1 r.2.2.1 r.2.2.2.1).trans h))
theorem all47 : ∀ g con, lookC L47 g = some con → FunOk Try.prog B (g % 1000000) con := gam_cons rfl ok47 all44

theorem ok71 : FunOk Try.prog B 71 c71 := glue L47 all47 plan71 Try.func71 (by kernel_rfl) (by
  rintro ⟨⟨⟩, a0, ⟨⟩⟩ y r h
  exact (g71_eq a0).trans ((g71_ok a0 r.2.1).trans h))
theorem all71 : ∀ g con, lookC L71 g = some con → FunOk Try.prog B (g % 1000000) con := gam_cons rfl ok71 all47

theorem ok73 : FunOk Try.prog B 73 c73 := glue L71 all71 plan73 Try.func73 (by kernel_rfl) (by
  rintro ⟨⟨⟩, a0, ⟨⟩⟩ y r h
  exact (g73_eq a0).trans ((g73_ok a0 r.2.1).trans h))
theorem all73 : ∀ g con, lookC L73 g = some con → FunOk Try.prog B (g % 1000000) con := gam_cons rfl ok73 all71

theorem ok40 : FunOk Try.prog B 40 c40 := glue L73 all73 plan40 Try.func40 (by kernel_rfl) (by
  rintro ⟨⟨⟩, a0, ⟨⟩⟩ y r h
  obtain ⟨h1, h2⟩ := Sp03.on_some h
  subst h2
  exact (g40_eq a0).trans (g40_ok a0 r.2.1 h1))
theorem all40 : ∀ g con, lookC L40 g = some con → FunOk Try.prog B (g % 1000000) con := gam_cons rfl ok40 all73

theorem ok51 : FunOk Try.prog B 51 c51 := glue L40 all40 plan51 Try.func51 (by kernel_rfl) (by
  rintro ⟨⟨⟩, a0, ⟨⟩⟩ y r h
  obtain ⟨h1, h2⟩ := Sp03.on_some h
  subst h2
  exact (g51_eq a0).trans (g51_ok a0 r.2.1 h1))
theorem all51 : ∀ g con, lookC L51 g = some con → FunOk Try.prog B (g % 1000000) con := gam_cons rfl ok51 all40

theorem ok30 : FunOk Try.prog B 30 c30 := glue L51 all51 plan30 Try.func30 (by kernel_rfl) (by
  rintro ⟨⟨a0, a1, ⟨⟩⟩, ⟨⟩⟩ y r h
  obtain ⟨h1, h2⟩ := Sp03.on_some h
  subst h2
  exact (g30_eq a0 a1).trans (g30_ok a0 a1 r.1.1 r.1.2.1 h1))
theorem all30 : ∀ g con, lookC L30 g = some con → FunOk Try.prog B (g % 1000000) con := gam_cons rfl ok30 all51

theorem ok54 : FunOk Try.prog B 54 c54 := glue L30 all30 plan54 Try.func54 (by kernel_rfl) (by
  rintro ⟨⟨⟩, a0, a1, ⟨⟩⟩ y r h
  exact (g54_eq a0 a1).trans ((g54_ok a0 a1 r.2.1 r.2.2.1).trans h))
theorem all54 : ∀ g con, lookC L54 g = some con → FunOk Try.prog B (g % 1000000) con := gam_cons rfl ok54 all30

theorem ok56 : FunOk Try.prog B 56 c56 := glue L54 all54 plan56 Try.func56 (by kernel_rfl) (by
  rintro ⟨⟨⟩, a0, a1, ⟨⟩⟩ y r h
  exact (g56_eq a0 a1).trans ((g56_ok a0 a1 r.2.1 r.2.2.1).trans h))
theorem all56 : ∀ g con, lookC L56 g = some con → FunOk Try.prog B (g % 1000000) con := gam_cons rfl ok56 all54

theorem ok60 : FunOk Try.prog B 60 c60 := glue L56 all56 plan60 Try.func60 (by kernel_rfl) (by
  rintro ⟨⟨⟩, a0, ⟨⟩⟩ y r h
  exact (g60_eq a0).trans ((g60_ok a0 r.2.1).trans h))
theorem all60 : ∀ g con, lookC L60 g = some con → FunOk Try.prog B (g % 1000000) con := gam_cons rfl ok60 all56

theorem ok59 : FunOk Try.prog B 59 c59 := glue L60 all60 plan59 Try.func59 (by kernel_rfl) (by
  rintro ⟨⟨⟩, a0, a1, ⟨⟩⟩ y r h
  exact (g59_eq a0 a1).trans ((g59_ok a0 a1 r.2.1 r.2.2.1).trans h))
theorem all59 : ∀ g con, lookC L59 g = some con → FunOk Try.prog B (g % 1000000) con := gam_cons rfl ok59 all60

theorem ok74 : FunOk Try.prog B 74 c74 := glue L59 all59 plan74 Try.func74 (by kernel_rfl) (by
  rintro ⟨⟨⟩, a0, ⟨⟩⟩ y r h
  exact (g74_eq a0).trans ((g74_ok a0 r.2.1).trans h))
theorem all74 : ∀ g con, lookC L74 g = some con → FunOk Try.prog B (g % 1000000) con := gam_cons rfl ok74 all59

theorem ok58 : FunOk Try.prog B 58 c58 := glue L74 all74 plan58 Try.func58 (by kernel_rfl) (by
  rintro ⟨⟨⟩, a0, a1, ⟨⟩⟩ y r h
  exact (g58_eq a0 a1).trans ((g58_ok a0 a1 r.2.1 r.2.2.1).trans h))
theorem all58 : ∀ g con, lookC L58 g = some con → FunOk Try.prog B (g % 1000000) con := gam_cons rfl ok58 all74

theorem ok25 : FunOk Try.prog B 25 c25 := glue L58 all58 plan25 Try.func25 (by kernel_rfl) (by
  rintro ⟨⟨⟩, a0, ⟨⟩⟩ y r h
  exact (g25_eq a0).trans ((g25_ok a0 r.2.1).trans h))
theorem all25 : ∀ g con, lookC L25 g = some con → FunOk Try.prog B (g % 1000000) con := gam_cons rfl ok25 all58

theorem ok72 : FunOk Try.prog B 72 c72 := glue L25 all25 plan72 Try.func72 (by kernel_rfl) (by
  rintro ⟨⟨⟩, a0, ⟨⟩⟩ y r h
  exact (g72_eq a0).trans ((g72_ok a0 r.2.1).trans h))
theorem all72 : ∀ g con, lookC L72 g = some con → FunOk Try.prog B (g % 1000000) con := gam_cons rfl ok72 all25

theorem ok61 : FunOk Try.prog B 61 c61 := glue L72 all72 plan61 Try.func61 (by kernel_rfl) (by
  rintro ⟨⟨⟩, a0, ⟨⟩⟩ y r h
  exact (g61_eq a0).trans ((g61_ok a0 r.2.1).trans h))
theorem all61 : ∀ g con, lookC L61 g = some con → FunOk Try.prog B (g % 1000000) con := gam_cons rfl ok61 all72

theorem ok55 : FunOk Try.prog B 55 c55 := glue L61 all61 plan55 Try.func55 (by kernel_rfl) (by
  rintro ⟨⟨⟩, a0, a1, ⟨⟩⟩ y r h
  exact (g55_eq a0 a1).trans ((g55_ok a0 a1 r.2.1 r.2.2.1).trans h))
theorem all55 : ∀ g con, lookC L55 g = some con → FunOk Try.prog B (g % 1000000) con := gam_cons rfl ok55 all61

theorem ok57 : FunOk Try.prog B 57 c57 := glue L55 all55 plan57 Try.func57 (by kernel_rfl) (by
  rintro ⟨⟨⟩, a0, a1, ⟨⟩⟩ y r h
  exact (g57_eq a0 a1).trans ((g57_ok a0 a1 r.2.1 r.2.2.1).trans h))
theorem all57 : ∀ g con, lookC L57 g = some con → FunOk Try.prog B (g % 1000000) con := gam_cons rfl ok57 all55

theorem ok32 : FunOk Try.prog B 32 c32 := glue L57 all57 plan32 Try.func32 (by kernel_rfl) (by
  rintro ⟨⟨a0, a1, ⟨⟩⟩, a2, ⟨⟩⟩ y r h
  obtain ⟨h1, h2⟩ := Sp03.on_some h
  subst h2
  exact (g32_eq a0 a1 a2).trans (g32_ok a0 a1 a2 r.1.1 r.1.2.1 r.2.1 h1))
theorem all32 : ∀ g con, lookC L32 g = some con → FunOk Try.prog B (g % 1000000) con := gam_cons rfl ok32 all57

theorem ok33 : FunOk Try.prog B 33 c33 := glue L32 all32 plan33 Try.func33 (by kernel_rfl) (by
  rintro ⟨⟨a0, a1, ⟨⟩⟩, a2, ⟨⟩⟩ y r h
  obtain ⟨h1, h2⟩ := Sp03.on_some h
  subst h2
  exact (g33_eq a0 a1 a2).trans (g33_ok a0 a1 a2 r.1.1 r.1.2.1 r.2.1 h1))
theorem all33 : ∀ g con, lookC L33 g = some con → FunOk Try.prog B (g % 1000000) con := gam_cons rfl ok33 all32

theorem ok19 : FunOk Try.prog B 19 c19 := glue L33 all33 plan19 Try.func19 (by kernel_rfl) (by
  rintro ⟨⟨a0, a1, ⟨⟩⟩, a2, ⟨⟩⟩ y r h
  obtain ⟨h1, h2⟩ := Sp03.on_some h
  subst h2
  exact (g19_eq a0 a1 a2).trans (g19_ok a0 a1 a2 r.1.1 r.1.2.1 r.2.1 h1))
theorem all19 : ∀ g con, lookC L19 g = some con → FunOk Try.prog B (g % 1000000) con := gam_cons rfl ok19 all33

theorem ok21 : FunOk Try.prog B 21 c21 := glue L19 all19 plan21 Try.func21 (by kernel_rfl) (by
  rintro ⟨⟨⟩, ⟨a0, a1, a2, a3, a4, a5, a6, a7, a8, a9, ⟨⟩⟩, ⟨⟩⟩ y r h
  exact (g21_eq a0 a1 a2 a3 a4 a5 a6 a7 a8 a9).trans ((g21_ok a0 a1 a2 a3 a4 a5 a6 a7 a8 a9 r.2.1.1 r.2.1.2.1 r.2.1.2.2.1 r.2.1.2.2.2.1 r.2.1.2.2.2.2.1 r.2.1.2.2.2.2.2.1 r.2.1.2.2.2.2.2.2.1 r.2.1.2.2.2.2.2.2.2.1 r.2.1.2.2.2.2.2.2.2.2.1 r.2.1.2.2.2.2.2.2.2.2.2.1).trans h))
theorem all21 : ∀ g con, lookC L21 g = some con → FunOk Try.prog B (g % 1000000) con := gam_cons rfl ok21 all19

theorem ok22 : FunOk Try.prog B 22 c22 := glue L21 all21 plan22 Try.func22 (by kernel_rfl) (by
  rintro ⟨⟨⟩, ⟨a0, a1, a2, a3, a4, a5, a6, a7, a8, a9, ⟨⟩⟩, ⟨⟩⟩ y r h
  exact (g22_eq a0 a1 a2 a3 a4 a5 a6 a7 a8 a9).trans ((g22_ok a0 a1 a2 a3 a4 a5 a6 a7 a8 a9 r.2.1.1 r.2.1.2.1 r.2.1.2.2.1 r.2.1.2.2.2.1 r.2.1.2.2.2.2.1 r.2.1.2.2.2.2.2.1 r.2.1.2.2.2.2.2.2.1 r.2.1.2.2.2.2.2.2.2.1 r.2.1.2.2.2.2.2.2.2.2.1 r.2.1.2.2.2.2.2.2.2.2.2.1).trans h))
theorem all22 : ∀ g con, lookC L22 g = some con → FunOk Try.prog B (g % 1000000) con := gam_cons rfl ok22 all21

theorem ok46 : FunOk Try.prog B 46 c46 := glue L22 all22 plan46 Try.func46 (by kernel_rfl) (by
  rintro ⟨⟨⟩, a0, a1, ⟨⟩⟩ y r h
  obtain ⟨h1, h2⟩ := Sp03.on_some h
  subst h2
  exact (g46_eq a0 a1).trans (g46_ok a0 a1 r.2.1 r.2.2.1 h1))
theorem all46 : ∀ g con, lookC L46 g = some con → FunOk Try.prog B (g % 1000000) con := gam_cons rfl ok46 all22

theorem ok52 : FunOk Try.prog B 52 c52 := glue L46 all46 plan52 Try.func52 (by kernel_rfl) (by
  rintro ⟨⟨⟩, a0, a1, ⟨⟩⟩ y r h
  obtain ⟨h1, h2⟩ := Sp03.on_some h
  subst h2
  exact (g52_eq a0 a1).trans (g52_ok a0 a1 r.2.1 r.2.2.1 h1))
theorem all52 : ∀ g con, lookC L52 g = some con → FunOk Try.prog B (g % 1000000) con := gam_cons rfl ok52 all46

theorem ok15 : FunOk Try.prog B 15 c15 := glue L52 all52 plan15 Try.func15 (by kernel_rfl) (by
  rintro ⟨⟨⟩, ⟨a0, a1, a2, a3, a4, a5, a6, a7, a8, a9, ⟨⟩⟩, ⟨⟩⟩ y r h
  exact (g15_eq a0 a1 a2 a3 a4 a5 a6 a7 a8 a9).trans ((g15_ok a0 a1 a2 a3 a4 a5 a6 a7 a8 a9 r.2.1.1 r.2.1.2.1 r.2.1.2.2.1 r.2.1.2.2.2.1 r.2.1.2.2.2.2.1 r.2.1.2.2.2.2.2.1 r.2.1.2.2.2.2.2.2.1 r.2.1.2.2.2.2.2.2.2.1 r.2.1.2.2.2.2.2.2.2.2.1 r.2.1.2.2.2.2.2.2.2.2.2.1).trans h))
theorem all15 : ∀ g con, lookC L15 g = some con → FunOk Try.prog B (g % 1000000) con := gam_cons rfl ok15 all52

theorem ok18 : FunOk Try.prog B 18 c18 := glue L15 all15 plan18 Try.func18 (by kernel_rfl) (by
  rintro ⟨⟨⟩, ⟨a0, a1, a2, a3, a4, a5, a6, a7, a8, a9, ⟨⟩⟩, ⟨⟩⟩ y r h
  exact (g18_eq a0 a1 a2 a3 a4 a5 a6 a7 a8 a9).trans ((g18_ok a0 a1 a2 a3 a4 a5 a6 a7 a8 a9 r.2.1.1 r.2.1.2.1 r.2.1.2.2.1 r.2.1.2.2.2.1 r.2.1.2.2.2.2.1 r.2.1.2.2.2.2.2.1 r.2.1.2.2.2.2.2.2.1 r.2.1.2.2.2.2.2.2.2.1 r.2.1.2.2.2.2.2.2.2.2.1 r.2.1.2.2.2.2.2.2.2.2.2.1).trans h))
theorem all18 : ∀ g con, lookC L18 g = some con → FunOk Try.prog B (g % 1000000) con := gam_cons rfl ok18 all15

theorem ok23 : FunOk Try.prog B 23 c23 := glue L18 all18 plan23 Try.func23 (by kernel_rfl) (by
  rintro ⟨⟨⟩, ⟨a0, a1, a2, a3, a4, a5, a6, a7, a8, a9, ⟨⟩⟩, ⟨⟩⟩ y r h
  exact (g23_eq a0 a1 a2 a3 a4 a5 a6 a7 a8 a9).trans ((g23_ok a0 a1 a2 a3 a4 a5 a6 a7 a8 a9 r.2.1.1 r.2.1.2.1 r.2.1.2.2.1 r.2.1.2.2.2.1 r.2.1.2.2.2.2.1 r.2.1.2.2.2.2.2.1 r.2.1.2.2.2.2.2.2.1 r.2.1.2.2.2.2.2.2.2.1 r.2.1.2.2.2.2.2.2.2.2.1 r.2.1.2.2.2.2.2.2.2.2.2.1).trans h))
theorem all23 : ∀ g con, lookC L23 g = some con → FunOk Try.prog B (g % 1000000) con := gam_cons rfl ok23 all18

theorem ok24 : FunOk Try.prog B 24 c24 := glue L23 all23 plan24 Try.func24 (by kernel_rfl) (by
  rintro ⟨⟨⟩, ⟨a0, a1, a2, a3, a4, a5, a6, a7, a8, a9, ⟨⟩⟩, ⟨⟩⟩ y r h
  exact (g24_eq a0 a1 a2 a3 a4 a5 a6 a7 a8 a9).trans ((g24_ok a0 a1 a2 a3 a4 a5 a6 a7 a8 a9 r.2.1.1 r.2.1.2.1 r.2.1.2.2.1 r.2.1.2.2.2.1 r.2.1.2.2.2.2.1 r.2.1.2.2.2.2.2.1 r.2.1.2.2.2.2.2.2.1 r.2.1.2.2.2.2.2.2.2.1 r.2.1.2.2.2.2.2.2.2.2.1 r.2.1.2.2.2.2.2.2.2.2.2.1).trans h))
theorem all24 : ∀ g con, lookC L24 g = some con → FunOk Try.prog B (g % 1000000) con := gam_cons rfl ok24 all23

theorem ok26 : FunOk Try.prog B 26 c26 := glue L24 all24 plan26 Try.func26 (by kernel_rfl) (by
  rintro ⟨⟨⟩, ⟨a0, a1, a2, a3, a4, a5, a6, a7, a8, a9, ⟨⟩⟩, a10, ⟨⟩⟩ y r h
  exact (g26_eq a0 a1 a2 a3 a4 a5 a6 a7 a8 a9 a10).trans ((g26_ok a0 a1 a2 a3 a4 a5 a6 a7 a8 a9 a10 r.2.1.1 r.2.1.2.1 r.2.1.2.2.1 r.2.1.2.2.2.1 r.2.1.2.2.2.2.1 r.2.1.2.2.2.2.2.1 r.2.1.2.2.2.2.2.2.1 r.2.1.2.2.2.2.2.2.2.1 r.2.1.2.2.2.2.2.2.2.2.1 r.2.1.2.2.2.2.2.2.2.2.2.1 r.2.2.1).trans h))
theorem all26 : ∀ g con, lookC L26 g = some con → FunOk Try.prog B (g % 1000000) con := gam_cons rfl ok26 all24

theorem ok27 : FunOk Try.prog B 27 c27 := glue L26 all26 plan27 Try.func27 (by kernel_rfl) (by
  rintro ⟨⟨⟩, ⟨a0, a1, a2, a3, a4, a5, a6, a7, a8, a9, ⟨⟩⟩, a10, ⟨⟩⟩ y r h
  exact (g27_eq a0 a1 a2 a3 a4 a5 a6 a7 a8 a9 a10).trans ((g27_ok a0 a1 a2 a3 a4 a5 a6 a7 a8 a9 a10 r.2.1.1 r.2.1.2.1 r.2.1.2.2.1 r.2.1.2.2.2.1 r.2.1.2.2.2.2.1 r.2.1.2.2.2.2.2.1 r.2.1.2.2.2.2.2.2.1 r.2.1.2.2.2.2.2.2.2.1 r.2.1.2.2.2.2.2.2.2.2.1 r.2.1.2.2.2.2.2.2.2.2.2.1 r.2.2.1).trans h))
theorem all27 : ∀ g con, lookC L27 g = some con → FunOk Try.prog B (g % 1000000) con := gam_cons rfl ok27 all26

theorem ok28 : FunOk Try.prog B 28 c28 := glue L27 all27 plan28 Try.func28 (by kernel_rfl) (by
  rintro ⟨⟨⟩, ⟨a0, a1, a2, a3, a4, a5, a6, a7, a8, a9, ⟨⟩⟩, a10, ⟨⟩⟩ y r h
  exact (g28_eq a0 a1 a2 a3 a4 a5 a6 a7 a8 a9 a10).trans ((g28_ok a0 a1 a2 a3 a4 a5 a6 a7 a8 a9 a10 r.2.1.1 r.2.1.2.1 r.2.1.2.2.1 r.2.1.2.2.2.1 r.2.1.2.2.2.2.1 r.2.1.2.2.2.2.2.1 r.2.1.2.2.2.2.2.2.1 r.2.1.2.2.2.2.2.2.2.1 r.2.1.2.2.2.2.2.2.2.2.1 r.2.1.2.2.2.2.2.2.2.2.2.1 r.2.2.1).trans h))
theorem all28 : ∀ g con, lookC L28 g = some con → FunOk Try.prog B (g % 1000000) con := gam_cons rfl ok28 all27

theorem ok29 : FunOk Try.prog B 29 c29 := glue L28 all28 plan29 Try.func29 (by kernel_rfl) (by
  rintro ⟨⟨⟩, ⟨a0, a1, a2, a3, a4, a5, a6, a7, a8, a9, ⟨⟩⟩, a10, ⟨⟩⟩ y r h
  exact (g29_eq a0 a1 a2 a3 a4 a5 a6 a7 a8 a9 a10).trans ((g29_ok a0 a1 a2 a3 a4 a5 a6 a7 a8 a9 a10 r.2.1.1 r.2.1.2.1 r.2.1.2.2.1 r.2.1.2.2.2.1 r.2.1.2.2.2.2.1 r.2.1.2.2.2.2.2.1 r.2.1.2.2.2.2.2.2.1 r.2.1.2.2.2.2.2.2.2.1 r.2.1.2.2.2.2.2.2.2.2.1 r.2.1.2.2.2.2.2.2.2.2.2.1 r.2.2.1).trans h))
theorem all29 : ∀ g con, lookC L29 g = some con → FunOk Try.prog B (g % 1000000) con := gam_cons rfl ok29 all28

theorem ok36 : FunOk Try.prog B 36 c36 := glue L29 all29 plan36 Try.func36 (by kernel_rfl) (by
  rintro ⟨⟨⟩, a0, ⟨⟩⟩ y r h
  obtain ⟨h1, h2⟩ := Sp03.on_some h
  subst h2
  exact (g36_eq a0).trans (g36_ok a0 r.2.1 h1))
theorem all36 : ∀ g con, lookC L36 g = some con → FunOk Try.prog B (g % 1000000) con := gam_cons rfl ok36 all29

theorem ok37 : FunOk Try.prog B 37 c37 := ⟨rfl, fun h => (by cases h), fun x hx => (by cases hx; exact x37_ok), _, Try.func37, by kernel_rfl, by kernel_rfl⟩
theorem all37 : ∀ g con, lookC L37 g = some con → FunOk Try.prog B (g % 1000000) con := gam_cons rfl ok37 all36

theorem ok41 : FunOk Try.prog B 41 c41 := glue L37 all37 plan41 Try.func41 (by kernel_rfl) (by
  rintro ⟨⟨⟩, ⟨⟩⟩ y r h
  exact (g41_eq ).trans ((g41_ok  ).trans h))
theorem all41 : ∀ g con, lookC L41 g = some con → FunOk Try.prog B (g % 1000000) con := gam_cons rfl ok41 all37

theorem ok11 : FunOk Try.prog B 11 c11 := glue L41 all41 plan11 Try.func11 (by kernel_rfl) (by
  rintro ⟨⟨⟩, ⟨a0, a1, a2, a3, a4, a5, a6, a7, a8, a9, ⟨⟩⟩, ⟨⟩⟩ y r h
  exact (g11_eq a0 a1 a2 a3 a4 a5 a6 a7 a8 a9).trans ((g11_ok a0 a1 a2 a3 a4 a5 a6 a7 a8 a9 r.2.1.1 r.2.1.2.1 r.2.1.2.2.1 r.2.1.2.2.2.1 r.2.1.2.2.2.2.1 r.2.1.2.2.2.2.2.1 r.2.1.2.2.2.2.2.2.1 r.2.1.2.2.2.2.2.2.2.1 r.2.1.2.2.2.2.2.2.2.2.1 r.2.1.2.2.2.2.2.2.2.2.2.1).trans h))
theorem all11 : ∀ g con, lookC L11 g = some con → FunOk Try.prog B (g % 1000000) con := gam_cons rfl ok11 all41

theorem ok12 : FunOk Try.prog B 12 c12 := glue L11 all11 plan12 Try.func12 (by kernel_rfl) (by
  rintro ⟨⟨⟩, ⟨a0, a1, a2, a3, a4, a5, a6, a7, a8, a9, ⟨⟩⟩, ⟨⟩⟩ y r h
  exact (g12_eq a0 a1 a2 a3 a4 a5 a6 a7 a8 a9).trans ((g12_ok a0 a1 a2 a3 a4 a5 a6 a7 a8 a9 r.2.1.1 r.2.1.2.1 r.2.1.2.2.1 r.2.1.2.2.2.1 r.2.1.2.2.2.2.1 r.2.1.2.2.2.2.2.1 r.2.1.2.2.2.2.2.2.1 r.2.1.2.2.2.2.2.2.2.1 r.2.1.2.2.2.2.2.2.2.2.1 r.2.1.2.2.2.2.2.2.2.2.2.1).trans h))
theorem all12 : ∀ g con, lookC L12 g = some con → FunOk Try.prog B (g % 1000000) con := gam_cons rfl ok12 all11

theorem ok14 : FunOk Try.prog B 14 c14 := glue L12 all12 plan14 Try.func14 (by kernel_rfl) (by
  rintro ⟨⟨⟩, a0, ⟨⟩⟩ y r h
  exact (g14_eq a0).trans ((g14_ok a0 r.2.1).trans h))
theorem all14 : ∀ g con, lookC L14 g = some con → FunOk Try.prog B (g % 1000000) con := gam_cons rfl ok14 all12

theorem ok17 : FunOk Try.prog B 17 c17 := glue L14 all14 plan17 Try.func17 (by kernel_rfl) (by
  rintro ⟨⟨⟩, a0, ⟨⟩⟩ y r h
  exact (g17_eq a0).trans ((g17_ok a0 r.2.1).trans h))
theorem all17 : ∀ g con, lookC L17 g = some con → FunOk Try.prog B (g % 1000000) con := gam_cons rfl ok17 all14

theorem ok13 : FunOk Try.prog B 13 c13 := glue L17 all17 plan13 Try.func13 (by kernel_rfl) (by
  rintro ⟨⟨⟩, ⟨⟩⟩ y r h
  exact (g13_eq ).trans ((g13_ok  ).trans h))
theorem all13 : ∀ g con, lookC L13 g = some con → FunOk Try.prog B (g % 1000000) con := gam_cons rfl ok13 all17

theorem ok10 : FunOk Try.prog B 10 c10 := glue L13 all13 plan10 Try.func10 (by kernel_rfl) (by
  rintro ⟨⟨a0, a1, ⟨⟩⟩, a2, ⟨⟩⟩ y r h
  obtain ⟨h1, h2⟩ := Sp03.on_some h
  subst h2
  exact (g10_eq a0 a1 a2).trans (g10_ok a0 a1 a2 r.1.1 r.1.2.1 r.2.1 h1))
theorem all10 : ∀ g con, lookC L10 g = some con → FunOk Try.prog B (g % 1000000) con := gam_cons rfl ok10 all13
end Go.Abs.C03

/- Chapter 03: the laws: encodes, back, valid. -/
namespace Go.Abs.C03
open Go Go.Proofs Sp03
set_option maxRecDepth 100000

theorem lbeq (l : List Int) : @List.beq Int (@instBEqOfDecidableEq Int Int.instDecidableEq) l l = true := by
  induction l with
  | nil => rfl
  | cons x r ih => simp [List.beq, ih]
theorem loop_up {α ρ : Type} (f : (Int × List α × Unit) → Option (Sum (Int × List α × Unit) ρ)) (l : List α) (r : ρ) (hs : ∀ i : Nat, i < l.length → f ((i : Int), l, ()) = some (.inl (((i + 1 : Nat) : Int), l, ())))
    (he : f ((l.length : Int), l, ()) = some (.inr r)) : Loop f ((0 : Int), l, ()) = some r := by
  have key : ∀ k, k ≤ l.length → Loop f (((l.length - k : Nat) : Int), l, ()) = some r := by
    intro k
    induction k with
    | zero => intro _; rw [Loop_step, Nat.sub_zero, he]
    | succ k ih =>
      intro hk
      rw [Loop_step, hs _ (by omega)]
      simp only
      rw [show l.length - (k + 1) + 1 = l.length - k by omega]
      exact ih (by omega)
  have := key l.length (Nat.le_refl _)
  rw [Nat.sub_self] at this
  exact this

theorem g3_step (l : List Pk) (hl : l.length ≤ 10) (i : Nat) (hi : i < l.length) : g3_s0 ((i : Int), l, ()) = some (.inl (((i + 1 : Nat) : Int), l, ())) := by
  unfold g3_s0
  simp only [Int.ofNat_eq_natCast, Int.toNat_natCast, lbeq, Bool.not_true, Bool.not_false, cond_true, cond_false, eq_self, decide_true, Option.bind_some]
  rw [decide_eq_true (show (i : Int) < (l.length : Int) by omega), decide_eq_true (show (0 : Int) ≤ (i : Int) by omega), show Nat.blt i l.length = true from Nat.ble_eq_true_of_le (by omega), wi64 (n := (i : Int) + 1) (by omega) (by omega)]
  rfl
theorem g3_end (l : List Pk) : g3_s0 ((l.length : Int), l, ()) = some (.inr (false, (false, ()), ())) := by
  unfold g3_s0
  simp only [Int.ofNat_eq_natCast]
  rw [decide_eq_false (show ¬ (l.length : Int) < (l.length : Int) by omega)]
  rfl

theorem g3_ok (a0 : (List Int)) (a1 : Int) (a2 : Int) (a3 : Int) (a4 : Int) (a5 : Int) (a6 : Int) (a7 : Int) (a8 : Int) (a9 : Int) (a10 : (List Int)) (r0 : (Ty.sl (.int .i64)).ok a0) (r1 : IntKind.i64.has a1) (r2 : IntKind.i64.has a2) (r3 : IntKind.i64.has a3) (r4 : IntKind.i64.has a4) (r5 : IntKind.i64.has a5) (r6 : IntKind.i64.has a6) (r7 : IntKind.i64.has a7) (r8 : IntKind.i64.has a8) (r9 : IntKind.u64.has a9) (r10 : Ty.str.ok a10) : g3 a0 a1 a2 a3 a4 a5 a6 a7 a8 a9 a10 = some (true, ()) := by
  have w0 := tape_wf a0
  have w1 := packet_wf (n := 4) w0
  unfold g3
  rw [on_true (show (wf (Sp03.tape a0) && small 4) = true by rw [w0]; rfl)]
  simp only [Option.bind_some]
  rw [on_true (show (wf (packet (Sp03.tape a0) 4).2 && small 0) = true by rw [w1]; rfl)]
  simp only [Option.bind_some]
  rw [loop_up g3_s0 _ _ (g3_step _ (by simp)) (g3_end _)]
  rfl

theorem g7_step (l : List Pk) (hl : l.length ≤ 10) (i : Nat) (hi : i < l.length) : g7_s0 ((i : Int), l, ()) = some (.inl (((i + 1 : Nat) : Int), l, ())) := by
  unfold g7_s0
  simp only [Int.ofNat_eq_natCast, Int.toNat_natCast, Bool.not_true, Bool.not_false, cond_true, cond_false, eq_self, decide_true, Option.bind_some]
  rw [decide_eq_true (show (i : Int) < (l.length : Int) by omega), decide_eq_true (show (0 : Int) ≤ (i : Int) by omega), show Nat.blt i l.length = true from Nat.ble_eq_true_of_le (by omega), wi64 (n := (i : Int) + 1) (by omega) (by omega)]
  rfl
theorem g7_end (l : List Pk) : g7_s0 ((l.length : Int), l, ()) = some (.inr (false, (false, ()), ())) := by
  unfold g7_s0
  simp only [Int.ofNat_eq_natCast]
  rw [decide_eq_false (show ¬ (l.length : Int) < (l.length : Int) by omega)]
  rfl

theorem g7_ok (a0 : (List Int)) (a1 : Int) (a2 : Int) (a3 : Int) (a4 : Int) (a5 : Int) (a6 : Int) (a7 : Int) (a8 : Int) (a9 : Int) (a10 : (List Int)) (r0 : (Ty.sl (.int .i64)).ok a0) (r1 : IntKind.i64.has a1) (r2 : IntKind.i64.has a2) (r3 : IntKind.i64.has a3) (r4 : IntKind.i64.has a4) (r5 : IntKind.i64.has a5) (r6 : IntKind.i64.has a6) (r7 : IntKind.i64.has a7) (r8 : IntKind.i64.has a8) (r9 : IntKind.u64.has a9) (r10 : Ty.str.ok a10) : g7 a0 a1 a2 a3 a4 a5 a6 a7 a8 a9 a10 = some (true, ()) := by
  have w0 := tape_wf a0
  have w1 := packet_wf (n := 2) w0
  unfold g7
  rw [on_true (show (wf (Sp03.tape a0) && small 2) = true by rw [w0]; rfl)]
  simp only [Option.bind_some]
  rw [on_true (show (wf (packet (Sp03.tape a0) 2).2 && small 1) = true by rw [w1]; rfl)]
  simp only [Option.bind_some]
  rw [loop_up g7_s0 _ _ (g7_step _ (by simp)) (g7_end _)]
  rfl

theorem enc_size {p : Pk} (hv : validP p = true) : (Int.ofNat (Sp03.encode p).1.length = sizeP p) ∧ (Sp03.encode p).1.length ≤ 81 ∧ (Sp03.encode p).2.1 = 0 ∧ bytesOk (Sp03.encode p).1 ∧ (Sp03.encode p).1 = pack (sealed (bodyB p)) := by
  have h := valid_fit.1 hv
  have hl := fit_len h
  have hp := h.hp
  have hB := bodyB_length p
  have e : Sp03.encode p = (pack (sealed (bodyB p)), 0, ()) := by
    unfold Sp03.encode
    rw [hv]
    rfl
  have hl2 : (pack (sealed (bodyB p))).length = ((bodyB p).length + 23) / 8 := by rw [pack_length, sealed_length]
  rw [e]
  refine ⟨?_, ?_, rfl, pack_ok _, rfl⟩
  · unfold sizeP
    rw [hv]
    simp only [cond_true, Int.ofNat_eq_natCast]
    omega
  · simp only
    omega

theorem g4_ok (a0 : (List Int)) (r0 : (Ty.sl (.int .i64)).ok a0) : g4 a0 = some (true, ()) := by
  have w0 := tape_wf a0
  obtain ⟨hv, hb, hy, -⟩ := pkt_good w0
  obtain ⟨e1, e2, e3, e4, e5⟩ := enc_size hv
  unfold g4
  rw [on_true (show (wf (Sp03.tape a0) && small 0) = true by rw [w0]; rfl), packet_zero]
  simp only [Option.bind_some, dec_enc hv hb hy, e1, e3, decide_true, cond_true, lbeq, Bool.and_self]

end Go.Abs.C03
