/- Chapter 25: proved is that each function that the laws reach, and each law, keeps its contract; no conditions but those that each theorem states. -/
import Derived.Test.YtjimcfblobcimaaDoorRunB
set_option linter.unusedVariables false
set_option linter.unusedSimpArgs false
/- Chapter 25: the functions keep their contracts: encoding and decoding. -/
namespace Go.Abs.C25
open Go Go.Proofs Sp25

theorem in08 {n : Int} (h : 0 ≤ n ∧ n ≤ 8) : inside n 0 8 = true := inside_iff.2 h
theorem put1 (x : Int) (l : List Int) : put 1 (x :: l) = numB x 1 ++ put 1 l := put_cons 1 x l

theorem g15_ok (a0 : Int) (a1 : Int) (a2 : Int) (a3 : Int) (a4 : Int) (a5 : Int) (a6 : Int) (a7 : Int) (a8 : Int) (a9 : (List Int)) (r0 : IntKind.i64.has a0) (r1 : IntKind.i64.has a1) (r2 : IntKind.i64.has a2) (r3 : IntKind.i64.has a3) (r4 : IntKind.i64.has a4) (r5 : IntKind.i64.has a5) (r6 : IntKind.i64.has a6) (r7 : IntKind.i64.has a7) (r8 : IntKind.i64.has a8) (r9 : (Ty.sl (.int .i64)).ok a9) : g15 a0 a1 a2 a3 a4 a5 a6 a7 a8 a9 = some (Sp25.encode (a0, a1, a2, a3, a4, a5, a6, a7, a8, a9, ()), ()) := by
  unfold g15 encode
  by_cases h : Sp25.validate (a0, a1, a2, a3, a4, a5, a6, a7, a8, a9, ()) = 0
  · have hf := fit_of_valid h
    have hl : a9.length ≤ 99 := hf.hl
    simp only [h, decide_true, Bool.not_true, cond_false, cond_true]
    rw [on_true (by rfl)]
    simp only [Option.bind_some, List.nil_append]
    rw [on_true (by simp only [put_len, Bool.and_eq_true, decide_eq_true_eq]; exact ⟨⟨rfl, by simp⟩, by simp⟩)]
    simp only [Option.bind_some]
    rw [on_true (by simp only [put_len, List.length_append, Bool.and_eq_true, decide_eq_true_eq]; exact ⟨⟨rfl, by simp⟩, by simp⟩)]
    simp only [Option.bind_some]
    rw [on_true (by simp only [put_len, List.length_append, Bool.and_eq_true, decide_eq_true_eq]; exact ⟨⟨rfl, by simp⟩, by omega⟩)]
    simp only [Option.bind_some]
    rw [on_true (by simp only [put_len, List.length_append, List.length_cons, List.length_nil, decide_eq_true_eq]; omega)]
    simp only [Option.bind_some]
    rw [on_true (by simp only [put_len, List.length_append, List.length_cons, List.length_nil, Bool.and_eq_true, decide_eq_true_eq]; exact ⟨⟨rfl, by omega⟩, by decide⟩)]
    simp only [Option.bind_some]
    have hb : put 1 [a0, a1, a2] ++ put 3 [a3, a4, a5, a6] ++ put 1 [a7, a8, Int.ofNat a9.length] ++ put 1 a9 = body (a0, a1, a2, a3, a4, a5, a6, a7, a8, a9, ()) := by
      unfold body
      simp only [put1, put_nil, kd, fr, to, ep, ve, pv, pe, gr, fm, so, List.append_assoc, List.nil_append, Int.ofNat_eq_natCast]
    rw [hb, put_cons, put_nil, List.append_nil]
  · simp only [h, decide_false, Bool.not_false, cond_true, cond_false]

theorem e9_loop0 (a b c d : Int) (o : List Int) (ho : o.length ≤ 1000) : Loop (g9_s0 a b c d) ((0 : Int), o, [a, b, c, d], ()) = some (o ++ put 3 [a, b, c, d], ()) := by
  have key : Loop (g9_s0 a b c d) ((0 : Int), o, [a, b, c, d], ()) = some (o ++ put 3 ([a, b, c, d].drop (0 : Int).toNat), ()) := by
    refine Loop_inv (fun v : Int × List Int × List Int × Unit => 0 ≤ v.1 ∧ v.1 ≤ 4 ∧ (v.2.1.length : Int) ≤ 1000 + 3 * v.1 ∧ v.2.2.1 = [a, b, c, d]) (fun v : Int × List Int × List Int × Unit => (4 - v.1).toNat) (fun v : Int × List Int × List Int × Unit => (v.2.1 ++ put 3 ([a, b, c, d].drop v.1.toNat), ())) ?_ (v := (0, o, [a, b, c, d], ())) ⟨by simp, by simp, by simp only; omega, rfl⟩
    rintro ⟨i, out, l, ⟨⟩⟩ ⟨k1, k2, k3, k4⟩
    simp only at k1 k2 k3 k4
    subst k4
    unfold g9_s0
    by_cases h : i < 4
    · right
      have e1 : IntKind.wrap .i64 (i + 1) = i + 1 := wi64 (by omega) (by omega)
      have c1 : Nat.blt i.toNat 4 = true := blt_t (by omega)
      have c2 : i < ((4 : Nat) : Int) := h
      simp only [k1, e1, c1, c2, List.length_cons, List.length_nil, Nat.zero_add, Nat.reduceAdd, Int.ofNat_eq_natCast, decide_true, Bool.and_self, cond_true]
      rw [on_true (by simp only [Bool.and_eq_true, decide_eq_true_eq]; exact ⟨rfl, by omega⟩)]
      simp only [Option.bind_some]
      refine ⟨_, rfl, ⟨by simp only; omega, by simp only; omega, ?_, rfl⟩, by simp only; omega, ?_⟩
      · simp only [List.length_append, numB_len]; omega
      · simp only [show (i + 1).toNat = i.toNat + 1 by omega]
        rw [drop_getD [a, b, c, d] i.toNat 0 (by simp; omega), put_cons, List.append_assoc]
    · left
      have : i = 4 := by omega
      subst this
      have c2 : ¬ (4 : Int) < ((4 : Nat) : Int) := by decide
      simp only [c2, List.length_cons, List.length_nil, Nat.zero_add, Nat.reduceAdd, Int.ofNat_eq_natCast, decide_false, cond_false]
      simp [put_nil]
  simpa using key
theorem e9_loop1 (l o : List Int) (hl : l.length ≤ 1000) (ho : o.length ≤ 1000) : Loop (g9_s1 l) (o, (0 : Int), ()) = some (o ++ put 1 l, ()) := by
  have key : Loop (g9_s1 l) (o, (0 : Int), ()) = some (o ++ put 1 (l.drop (0 : Int).toNat), ()) := by
    refine Loop_inv (fun v : List Int × Int × Unit => 0 ≤ v.2.1 ∧ v.2.1 ≤ (l.length : Int) ∧ (v.1.length : Int) ≤ 1000 + v.2.1) (fun v : List Int × Int × Unit => ((l.length : Int) - v.2.1).toNat) (fun v : List Int × Int × Unit => (v.1 ++ put 1 (l.drop v.2.1.toNat), ())) ?_ (v := (o, 0, ())) ⟨by simp, by simp, by simp only; omega⟩
    rintro ⟨out, i, ⟨⟩⟩ ⟨k1, k2, k3⟩
    simp only at k1 k2 k3
    unfold g9_s1
    by_cases h : i < (l.length : Int)
    · right
      have e1 : IntKind.wrap .i64 (i + 1) = i + 1 := wi64 (by omega) (by omega)
      simp only [h, k1, e1, Int.ofNat_eq_natCast, decide_true, Bool.and_self, cond_true]
      rw [on_true (by simp only [Bool.and_eq_true, decide_eq_true_eq]; exact ⟨rfl, by omega⟩)]
      simp only [Option.bind_some]
      refine ⟨_, rfl, ⟨by simp only; omega, by simp only; omega, ?_⟩, by simp only; omega, ?_⟩
      · simp only [List.length_append, numB_len]; omega
      · simp only [show (i + 1).toNat = i.toNat + 1 by omega]
        rw [drop_getD l i.toNat 0 (by omega), put_cons, List.append_assoc]
    · left
      have : l.drop i.toNat = [] := List.drop_eq_nil_of_le (by omega)
      simp only [h, this, put_nil, Int.ofNat_eq_natCast, decide_false, cond_false, List.append_nil]
  simpa using key

theorem g9_ok (a0 : Int) (a1 : Int) (a2 : Int) (a3 : Int) (a4 : Int) (a5 : Int) (a6 : Int) (a7 : Int) (a8 : Int) (a9 : (List Int)) (r0 : IntKind.i64.has a0) (r1 : IntKind.i64.has a1) (r2 : IntKind.i64.has a2) (r3 : IntKind.i64.has a3) (r4 : IntKind.i64.has a4) (r5 : IntKind.i64.has a5) (r6 : IntKind.i64.has a6) (r7 : IntKind.i64.has a7) (r8 : IntKind.i64.has a8) (r9 : (Ty.sl (.int .i64)).ok a9) : g9 a0 a1 a2 a3 a4 a5 a6 a7 a8 a9 = some (Sp25.encode (a0, a1, a2, a3, a4, a5, a6, a7, a8, a9, ()), ()) := by
  unfold g9 encode
  by_cases h : Sp25.validate (a0, a1, a2, a3, a4, a5, a6, a7, a8, a9, ()) = 0
  · have hf := fit_of_valid h
    have hl : a9.length ≤ 99 := hf.hl
    simp only [h, decide_true, Bool.not_true, cond_false, cond_true]
    rw [on_true (by rfl)]
    simp only [Option.bind_some, List.nil_append]
    rw [on_true (by simp only [numB_len, Bool.and_eq_true, decide_eq_true_eq]; exact ⟨rfl, by decide⟩)]
    simp only [Option.bind_some]
    rw [on_true (by simp only [numB_len, List.length_append, Bool.and_eq_true, decide_eq_true_eq]; exact ⟨rfl, by decide⟩)]
    simp only [Option.bind_some]
    rw [e9_loop0 a3 a4 a5 a6 _ (by simp only [List.length_append, numB_len]; omega)]
    simp only [Option.bind_some]
    rw [on_true (by simp only [numB_len, put_len, List.length_append, List.length_cons, List.length_nil, Bool.and_eq_true, decide_eq_true_eq]; exact ⟨rfl, by decide⟩)]
    simp only [Option.bind_some]
    rw [on_true (by simp only [numB_len, put_len, List.length_append, List.length_cons, List.length_nil, Bool.and_eq_true, decide_eq_true_eq]; exact ⟨rfl, by decide⟩)]
    simp only [Option.bind_some]
    rw [on_true (by simp only [numB_len, put_len, List.length_append, List.length_cons, List.length_nil, Bool.and_eq_true, decide_eq_true_eq]; exact ⟨rfl, by decide⟩)]
    simp only [Option.bind_some]
    rw [e9_loop1 a9 _ (by omega) (by simp only [List.length_append, numB_len, put_len, List.length_cons, List.length_nil]; omega)]
    simp only [Option.bind_some]
    have hb : numB a0 1 ++ numB a1 1 ++ numB a2 1 ++ put 3 [a3, a4, a5, a6] ++ numB a7 1 ++ numB a8 1 ++ numB (Int.ofNat a9.length) 1 ++ put 1 a9 = body (a0, a1, a2, a3, a4, a5, a6, a7, a8, a9, ()) := rfl
    rw [hb, on_true (by simp only [body_len, so, decide_eq_true_eq]; omega)]
    simp only [Option.bind_some]
    rw [on_true (by simp only [body_len, so, Bool.and_eq_true, decide_eq_true_eq]; exact ⟨rfl, by omega⟩)]
    rfl
  · simp only [h, decide_false, Bool.not_false, cond_true, cond_false]

/-! Decoding. -/
theorem part_drop (l : List Int) (i j : Nat) : List.drop i (List.take j l) = Sp25.part l i (j - i) := by
  unfold Sp25.part; rw [List.drop_take]
theorem part_len {l : List Int} {i n : Nat} (h : i + n ≤ l.length) : (Sp25.part l i n).length = n := by
  unfold Sp25.part; rw [List.length_take, List.length_drop]; omega
theorem part_getD {l : List Int} {i n k : Nat} (h : k < n) : (Sp25.part l i n).getD k 0 = l.getD (i + k) 0 := by
  unfold Sp25.part
  rw [List.getD_eq_getElem?_getD, List.getD_eq_getElem?_getD, List.getElem?_take_of_lt h, List.getElem?_drop]
theorem wbyte {l : List Int} (h : Sp25.bytes l) (k : Nat) : IntKind.wrap .i64 (l.getD k 0) = l.getD k 0 := by
  have := getD_bytes h k
  exact wi64 (by have := this.1; omega) (by have := this.2; omega)

theorem d12_list {l : List Int} (h : 20 ≤ l.length) (hl : l.length ≤ 1000000) :
    List.drop 18 (List.take (Int.toNat (Int.ofNat (List.drop 0 (List.take (Int.toNat (IntKind.wrap .i64 ((Int.ofNat l.length) - (2 : Int)))) l)).length)) (List.drop 0 (List.take (Int.toNat (IntKind.wrap .i64 ((Int.ofNat l.length) - (2 : Int)))) l))) = Sp25.part l 18 (l.length - 20) := by
  have e : IntKind.wrap .i64 ((Int.ofNat l.length) - 2) = (l.length : Int) - 2 := wi64 (by simp; omega) (by simp; omega)
  rw [e, List.drop_zero, show ((l.length : Int) - 2).toNat = l.length - 2 by omega, show Int.toNat (Int.ofNat (List.take (l.length - 2) l).length) = (List.take (l.length - 2) l).length from Int.toNat_natCast _, List.take_length, part_drop, show l.length - 2 - 18 = l.length - 20 by omega]
theorem d12_loop {l : List Int} (h : 20 ≤ l.length) (hl : l.length ≤ 1000000) (hb : Sp25.bytes l) (a0 a1 a2 a3 a4 a5 a6 a7 a8 : Int) :
    Loop (g12_s0 l) ((0 : Int), (a0, a1, a2, a3, a4, a5, a6, a7, a8, [], ()), ()) = some ((a0, a1, a2, a3, a4, a5, a6, a7, a8, Sp25.part l 18 (l.length - 20), ()), ()) := by
  have key : Loop (g12_s0 l) ((0 : Int), (a0, a1, a2, a3, a4, a5, a6, a7, a8, [], ()), ()) = some ((a0, a1, a2, a3, a4, a5, a6, a7, a8, [] ++ (Sp25.part l 18 (l.length - 20)).drop (0 : Int).toNat, ()), ()) := by
    refine Loop_inv (fun v : Int × Sg × Unit => 0 ≤ v.1 ∧ v.1 ≤ ((l.length - 20 : Nat) : Int) ∧ ((so v.2.1).length : Int) = v.1 ∧ v.2.1 = (a0, a1, a2, a3, a4, a5, a6, a7, a8, so v.2.1, ())) (fun v : Int × Sg × Unit => (((l.length - 20 : Nat) : Int) - v.1).toNat)
      (fun v : Int × Sg × Unit => ((a0, a1, a2, a3, a4, a5, a6, a7, a8, so v.2.1 ++ (Sp25.part l 18 (l.length - 20)).drop v.1.toNat, ()), ())) ?_ (v := (0, (a0, a1, a2, a3, a4, a5, a6, a7, a8, [], ()), ())) ⟨by simp, by simp only; omega, by simp [so], rfl⟩
    rintro ⟨i, ⟨b0, b1, b2, b3, b4, b5, b6, b7, b8, out, ⟨⟩⟩, ⟨⟩⟩ ⟨k1, k2, k3, k4⟩
    simp only [so, Prod.mk.injEq, and_true] at k1 k2 k3 k4
    obtain ⟨rfl, rfl, rfl, rfl, rfl, rfl, rfl, rfl, rfl⟩ := k4
    have hp : (Sp25.part l 18 (l.length - 20)).length = l.length - 20 := part_len (by omega)
    unfold g12_s0
    rw [d12_list h hl]
    by_cases hi : i < ((l.length - 20 : Nat) : Int)
    · right
      have e1 : IntKind.wrap .i64 (i + 1) = i + 1 := wi64 (by omega) (by omega)
      have e2 : IntKind.wrap .i64 ((Sp25.part l 18 (l.length - 20)).getD i.toNat 0) = (Sp25.part l 18 (l.length - 20)).getD i.toNat 0 := by
        rw [part_getD (by omega)]; exact wbyte hb _
      simp only [hp, hi, k1, e1, e2, Int.ofNat_eq_natCast, decide_true, Bool.and_self, cond_true]
      rw [ble_t (by omega), cond_true]
      refine ⟨_, rfl, ⟨by simp only; omega, by simp only; omega, by simp [so]; omega, rfl⟩, by simp only; omega, ?_⟩
      simp only [so, show (i + 1).toNat = i.toNat + 1 by omega]
      rw [drop_getD (Sp25.part l 18 (l.length - 20)) i.toNat 0 (by omega), List.append_assoc]
      rfl
    · left
      have : (Sp25.part l 18 (l.length - 20)).drop i.toNat = [] := List.drop_eq_nil_of_le (by omega)
      simp only [hp, hi, so, this, Int.ofNat_eq_natCast, decide_false, cond_false, List.append_nil]
  simpa using key

theorem d13_loop {l : List Int} (h : 20 ≤ l.length) (hl : l.length ≤ 1000000) (hb : Sp25.bytes l) (hn : (l.length : Int) = 20 + l.getD 17 0) (a0 a1 a2 a3 a4 a5 a6 a7 a8 : Int) :
    Loop (g13_s0 l) ((a0, a1, a2, a3, a4, a5, a6, a7, a8, [], ()), (0 : Int), ()) = some ((a0, a1, a2, a3, a4, a5, a6, a7, a8, Sp25.part l 18 (l.length - 20), ()), ()) := by
  have key : Loop (g13_s0 l) ((a0, a1, a2, a3, a4, a5, a6, a7, a8, [], ()), (0 : Int), ()) = some ((a0, a1, a2, a3, a4, a5, a6, a7, a8, [] ++ (Sp25.part l 18 (l.length - 20)).drop (0 : Int).toNat, ()), ()) := by
    refine Loop_inv (fun v : Sg × Int × Unit => 0 ≤ v.2.1 ∧ v.2.1 ≤ ((l.length - 20 : Nat) : Int) ∧ ((so v.1).length : Int) = v.2.1 ∧ v.1 = (a0, a1, a2, a3, a4, a5, a6, a7, a8, so v.1, ())) (fun v : Sg × Int × Unit => (((l.length - 20 : Nat) : Int) - v.2.1).toNat)
      (fun v : Sg × Int × Unit => ((a0, a1, a2, a3, a4, a5, a6, a7, a8, so v.1 ++ (Sp25.part l 18 (l.length - 20)).drop v.2.1.toNat, ()), ())) ?_ (v := ((a0, a1, a2, a3, a4, a5, a6, a7, a8, [], ()), 0, ())) ⟨by simp, by simp only; omega, by simp [so], rfl⟩
    rintro ⟨⟨b0, b1, b2, b3, b4, b5, b6, b7, b8, out, ⟨⟩⟩, i, ⟨⟩⟩ ⟨k1, k2, k3, k4⟩
    simp only [so, Prod.mk.injEq, and_true] at k1 k2 k3 k4
    obtain ⟨rfl, rfl, rfl, rfl, rfl, rfl, rfl, rfl, rfl⟩ := k4
    have hp : (Sp25.part l 18 (l.length - 20)).length = l.length - 20 := part_len (by omega)
    have c17 : (17 : Int) < (l.length : Int) := by omega
    have e17 : l.getD 17 0 = ((l.length - 20 : Nat) : Int) := by omega
    have e0 : IntKind.wrap .i64 ((l.length - 20 : Nat) : Int) = ((l.length - 20 : Nat) : Int) := wi64 (by omega) (by omega)
    unfold g13_s0
    by_cases hi : i < ((l.length - 20 : Nat) : Int)
    · right
      have e1 : IntKind.wrap .i64 (i + 1) = i + 1 := wi64 (by omega) (by omega)
      have e3 : IntKind.wrap .i64 (18 + i) = 18 + i := wi64 (by omega) (by omega)
      have c2 : 0 ≤ 18 + i := by omega
      have c3 : 18 + i < (l.length : Int) := by omega
      simp only [c17, e17, e0, hi, k1, e1, e3, c2, c3, wbyte hb, Int.ofNat_eq_natCast, decide_true, Bool.and_self, cond_true]
      rw [ble_t (by omega), cond_true]
      refine ⟨_, rfl, ⟨by simp only; omega, by simp only; omega, by simp [so]; omega, rfl⟩, by simp only; omega, ?_⟩
      simp only [so, show (i + 1).toNat = i.toNat + 1 by omega]
      rw [drop_getD (Sp25.part l 18 (l.length - 20)) i.toNat 0 (by omega), part_getD (by omega), List.append_assoc, show (18 + i).toNat = 18 + i.toNat by omega]
      rfl
    · left
      have : (Sp25.part l 18 (l.length - 20)).drop i.toNat = [] := List.drop_eq_nil_of_le (by omega)
      simp only [c17, e17, e0, hi, so, this, Int.ofNat_eq_natCast, decide_true, decide_false, Bool.and_self, cond_true, cond_false, List.append_nil]
  simpa using key

/-- What decoding comes to, the lengths being right. -/
theorem decode_len {l : List Int} (h : 20 ≤ l.length) (hn : (l.length : Int) = 20 + l.getD 17 0) :
    Sp25.decode l = bif !decide (val (l.drop (l.length - 2)) = sum (l.take (l.length - 2))) then (sg0, 23, ()) else bif decide (validate (Sp25.read l) = 0) then (Sp25.read l, 0, ()) else (sg0, validate (Sp25.read l), ()) := by
  unfold Sp25.decode
  simp only [show ¬ (l.length < 20) by omega, show ¬ ((l.length : Int) < 20 + l.getD 17 0) by omega, show ¬ (20 + l.getD 17 0 < (l.length : Int)) by omega, decide_false, Bool.or_self, cond_false]

theorem g12_ok (a0 : (List Int)) (r0 : (Ty.sl (.int .u8)).ok a0) : g12 a0 = some (Sp25.decode a0, ()) := by
  obtain ⟨hl0, hb⟩ := u8s r0
  have hx := getD_bytes hb 17
  have hx1 := hx.1; have hx2 := hx.2
  unfold g12
  by_cases h : a0.length < 20
  · have h' : (a0.length : Int) < 20 := by omega
    have hd : Sp25.decode a0 = (sg0, 20, ()) := by unfold Sp25.decode; simp [h]
    rw [hd]
    simp only [h', Int.ofNat_eq_natCast, decide_true, Bool.not_true, cond_false, Option.bind_some, cond_true]
    rfl
  have h' : ¬ (a0.length : Int) < 20 := by omega
  have c17 : (17 : Int) < (a0.length : Int) := by omega
  have e17 : IntKind.wrap .i64 (20 + a0.getD 17 0) = 20 + a0.getD 17 0 := wi64 (by omega) (by omega)
  simp only [h', c17, wbyte hb, e17, Int.ofNat_eq_natCast, decide_true, decide_false, Bool.not_false, Bool.and_self, cond_true, Option.bind_some, GT.gt]
  by_cases h1 : (a0.length : Int) < 20 + a0.getD 17 0
  · have hd : Sp25.decode a0 = (sg0, 20, ()) := by unfold Sp25.decode; simp only [h1, decide_true, Bool.or_true, cond_true]
    rw [hd]
    simp only [h1, decide_true, cond_true]
    rfl
  by_cases h2 : 20 + a0.getD 17 0 < (a0.length : Int)
  · have hd : Sp25.decode a0 = (sg0, 21, ()) := by unfold Sp25.decode; simp only [h, h1, h2, decide_true, decide_false, Bool.or_self, cond_true, cond_false]
    rw [hd]
    simp only [h1, h2, decide_true, decide_false, cond_true, cond_false]
    rfl
  have hn : (a0.length : Int) = 20 + a0.getD 17 0 := by omega
  have hL : a0.length ≤ 275 := by omega
  rw [decode_len (by omega) hn]
  have e2 : IntKind.wrap .i64 ((a0.length : Int) - 2) = (a0.length : Int) - 2 := wi64 (by omega) (by omega)
  have t2 : ((a0.length : Int) - 2).toNat = a0.length - 2 := by omega
  have c0 : (0 : Int) ≤ (a0.length : Int) - 2 := by omega
  have c2 : (a0.length : Int) - 2 ≤ (a0.length : Int) := by omega
  have c3 : (a0.length : Int) ≤ (a0.length : Int) := by omega
  simp only [h1, h2, e2, t2, c0, c2, c3, decide_true, decide_false, Bool.and_self, cond_true, cond_false, List.drop_zero, Int.toNat_natCast, List.take_length]
  rw [on_true (by simp only [List.length_drop, decide_eq_true_eq]; omega)]
  simp only [Option.bind_some]
  rw [on_true (by simp only [List.length_take, decide_eq_true_eq]; omega)]
  simp only [Option.bind_some]
  by_cases h3 : val (a0.drop (a0.length - 2)) = sum (a0.take (a0.length - 2))
  · have q0 : (0 : Int) < (a0.length : Int) := by omega
    have q1 : (1 : Int) < (a0.length : Int) := by omega
    have q2 : (2 : Int) < (a0.length : Int) := by omega
    have q6 : (6 : Int) ≤ (a0.length : Int) := by omega
    have q9 : (9 : Int) ≤ (a0.length : Int) := by omega
    have q12 : (12 : Int) ≤ (a0.length : Int) := by omega
    have q15 : (15 : Int) ≤ (a0.length : Int) := by omega
    have q15' : (15 : Int) < (a0.length : Int) := by omega
    have q16 : (16 : Int) < (a0.length : Int) := by omega
    have q18 : (18 : Int) ≤ ((List.take (a0.length - 2) a0).length : Int) := by rw [List.length_take]; omega
    simp only [h3, q0, q1, q2, q6, q9, q12, q15, q15', q16, q18, Int.le_refl, decide_true, Bool.not_true, cond_false, Bool.and_self, cond_true, part_drop, Nat.reduceSub]
    rw [on_true (by simp only [part_len (l := a0) (i := 3) (n := 3) (by omega), decide_eq_true_eq]; omega)]
    simp only [Option.bind_some]
    rw [on_true (by simp only [part_len (l := a0) (i := 6) (n := 3) (by omega), decide_eq_true_eq]; omega)]
    simp only [Option.bind_some]
    rw [on_true (by simp only [part_len (l := a0) (i := 9) (n := 3) (by omega), decide_eq_true_eq]; omega)]
    simp only [Option.bind_some]
    rw [on_true (by simp only [part_len (l := a0) (i := 12) (n := 3) (by omega), decide_eq_true_eq]; omega)]
    simp only [Option.bind_some]
    rw [d12_loop (by omega) (by omega) hb]
    simp only [Option.bind_some]
    have hr : (a0.getD 0 0, a0.getD 1 0, a0.getD 2 0, val (Sp25.part a0 3 3), val (Sp25.part a0 6 3), val (Sp25.part a0 9 3), val (Sp25.part a0 12 3), a0.getD 15 0, a0.getD 16 0, Sp25.part a0 18 (a0.length - 20), ()) = Sp25.read a0 := rfl
    rw [hr]
    by_cases h4 : validate (Sp25.read a0) = 0
    · simp only [h4, decide_true, Bool.not_true, cond_false, cond_true]
    · simp only [h4, decide_false, Bool.not_false, cond_false, cond_true]
      rfl
  · simp only [h3, decide_false, Bool.not_false, cond_true]
    rfl

theorem g13_ok (a0 : (List Int)) (r0 : (Ty.sl (.int .u8)).ok a0) : g13 a0 = some (Sp25.decode a0, ()) := by
  obtain ⟨hl0, hb⟩ := u8s r0
  have hx := getD_bytes hb 17
  have hx1 := hx.1; have hx2 := hx.2
  unfold g13
  by_cases h : a0.length < 20
  · have h' : (a0.length : Int) < 20 := by omega
    have hd : Sp25.decode a0 = (sg0, 20, ()) := by unfold Sp25.decode; simp [h]
    rw [hd]
    simp only [h', Int.ofNat_eq_natCast, decide_true, Bool.not_true, cond_false, Option.bind_some, cond_true]
    rfl
  have h' : ¬ (a0.length : Int) < 20 := by omega
  have c17 : (17 : Int) < (a0.length : Int) := by omega
  have e17 : IntKind.wrap .i64 (20 + a0.getD 17 0) = 20 + a0.getD 17 0 := wi64 (by omega) (by omega)
  simp only [h', c17, wbyte hb, e17, Int.ofNat_eq_natCast, decide_true, decide_false, Bool.not_false, Bool.and_self, cond_true, Option.bind_some, GT.gt]
  by_cases h1 : (a0.length : Int) < 20 + a0.getD 17 0
  · have hd : Sp25.decode a0 = (sg0, 20, ()) := by unfold Sp25.decode; simp only [h1, decide_true, Bool.or_true, cond_true]
    rw [hd]
    simp only [h1, decide_true, cond_true]
    rfl
  by_cases h2 : 20 + a0.getD 17 0 < (a0.length : Int)
  · have hd : Sp25.decode a0 = (sg0, 21, ()) := by unfold Sp25.decode; simp only [h, h1, h2, decide_true, decide_false, Bool.or_self, cond_true, cond_false]
    rw [hd]
    simp only [h1, h2, decide_true, decide_false, cond_true, cond_false]
    rfl
  have hn : (a0.length : Int) = 20 + a0.getD 17 0 := by omega
  have hL : a0.length ≤ 275 := by omega
  rw [decode_len (by omega) hn]
  have e2 : IntKind.wrap .i64 ((a0.length : Int) - 2) = (a0.length : Int) - 2 := wi64 (by omega) (by omega)
  have t2 : ((a0.length : Int) - 2).toNat = a0.length - 2 := by omega
  have c0 : (0 : Int) ≤ (a0.length : Int) - 2 := by omega
  have c2 : (a0.length : Int) - 2 ≤ (a0.length : Int) := by omega
  have c3 : (a0.length : Int) ≤ (a0.length : Int) := by omega
  simp only [h1, h2, e2, t2, c0, c2, c3, decide_true, decide_false, Bool.and_self, cond_true, cond_false, List.drop_zero, Int.toNat_natCast, List.take_length]
  rw [on_true (by simp only [List.length_drop, decide_eq_true_eq]; omega)]
  simp only [Option.bind_some]
  rw [on_true (by simp only [List.length_take, decide_eq_true_eq]; omega)]
  simp only [Option.bind_some]
  by_cases h3 : val (a0.drop (a0.length - 2)) = sum (a0.take (a0.length - 2))
  · have q0 : (0 : Int) < (a0.length : Int) := by omega
    have q1 : (1 : Int) < (a0.length : Int) := by omega
    have q2 : (2 : Int) < (a0.length : Int) := by omega
    have q6 : (6 : Int) ≤ (a0.length : Int) := by omega
    have q9 : (9 : Int) ≤ (a0.length : Int) := by omega
    have q12 : (12 : Int) ≤ (a0.length : Int) := by omega
    have q15 : (15 : Int) ≤ (a0.length : Int) := by omega
    have q15' : (15 : Int) < (a0.length : Int) := by omega
    have q16 : (16 : Int) < (a0.length : Int) := by omega
    simp only [h3, q0, q1, q2, q6, q9, q12, q15, q15', q16, decide_true, Bool.not_true, cond_false, Bool.and_self, cond_true, part_drop, Nat.reduceSub]
    rw [on_true (by simp only [part_len (l := a0) (i := 3) (n := 3) (by omega), decide_eq_true_eq]; omega)]
    simp only [Option.bind_some]
    rw [on_true (by simp only [part_len (l := a0) (i := 6) (n := 3) (by omega), decide_eq_true_eq]; omega)]
    simp only [Option.bind_some]
    rw [on_true (by simp only [part_len (l := a0) (i := 9) (n := 3) (by omega), decide_eq_true_eq]; omega)]
    simp only [Option.bind_some]
    rw [on_true (by simp only [part_len (l := a0) (i := 12) (n := 3) (by omega), decide_eq_true_eq]; omega)]
    simp only [Option.bind_some]
    rw [d13_loop (by omega) (by omega) hb hn]
    simp only [Option.bind_some]
    have hr : (a0.getD 0 0, a0.getD 1 0, a0.getD 2 0, val (Sp25.part a0 3 3), val (Sp25.part a0 6 3), val (Sp25.part a0 9 3), val (Sp25.part a0 12 3), a0.getD 15 0, a0.getD 16 0, Sp25.part a0 18 (a0.length - 20), ()) = Sp25.read a0 := rfl
    rw [hr]
    by_cases h4 : validate (Sp25.read a0) = 0
    · simp only [h4, decide_true, Bool.not_true, cond_false, cond_true]
    · simp only [h4, decide_false, Bool.not_false, cond_false, cond_true]
      rfl
  · simp only [h3, decide_false, Bool.not_false, cond_true]
    rfl
end Go.Abs.C25

/- Chapter 25: the functions keep their contracts: signals of the tape. -/
namespace Go.Abs.C25
open Go Go.Proofs Sp25

/-! Putting a number into ascending ones. -/
def cnt : List Int → Int → Nat
  | [], _ => 0
  | y :: r, x => bif decide (y < x) then cnt r x + 1 else 0
theorem cnt_le (l : List Int) (x : Int) : cnt l x ≤ l.length := by
  induction l with
  | nil => exact Nat.le_refl _
  | cons y r ih =>
    unfold cnt
    cases decide (y < x) with
    | true => simp only [cond_true, List.length_cons]; omega
    | false => simp
theorem putI_cnt (l : List Int) (x : Int) : putI l x = bif decide (cnt l x < l.length) && decide (l.getD (cnt l x) 0 = x) then l else l.take (cnt l x) ++ x :: l.drop (cnt l x) := by
  induction l with
  | nil => rfl
  | cons y r ih =>
    unfold putI cnt
    by_cases h : y < x
    · simp only [h, decide_true, cond_true, List.length_cons, List.getD_cons_succ, List.take_succ_cons, List.drop_succ_cons]
      rw [ih]
      by_cases h1 : cnt r x < r.length
      · have : cnt r x + 1 < r.length + 1 := by omega
        simp only [h1, this, decide_true, Bool.true_and]
        by_cases h2 : r.getD (cnt r x) 0 = x
        · simp only [h2, decide_true, cond_true]
        · simp only [h2, decide_false, cond_false, List.cons_append]
      · have : ¬ cnt r x + 1 < r.length + 1 := by omega
        simp only [h1, this, decide_false, Bool.false_and, cond_false, List.cons_append]
    · simp only [h, decide_false, cond_false, List.getD_cons_zero, List.take_zero, List.drop_zero, List.nil_append, List.length_cons]
      by_cases h2 : y = x
      · simp [h2]
      · simp [h2]
theorem put_find (l : List Int) (x : Int) (hl : l.length ≤ 1000000) : Loop (g41_s0 l x) ((0 : Int), ()) = some ((cnt l x : Int), ()) := by
  have key : Loop (g41_s0 l x) ((0 : Int), ()) = some ((0 : Int) + cnt (l.drop (0 : Int).toNat) x, ()) := by
    refine Loop_inv (fun v : Int × Unit => 0 ≤ v.1 ∧ v.1 ≤ (l.length : Int)) (fun v : Int × Unit => ((l.length : Int) - v.1).toNat) (fun v : Int × Unit => (v.1 + cnt (l.drop v.1.toNat) x, ())) ?_ (v := (0, ())) ⟨by simp, by simp⟩
    rintro ⟨i, ⟨⟩⟩ ⟨k1, k2⟩
    simp only at k1 k2
    unfold g41_s0
    by_cases h : i < (l.length : Int)
    · have e1 : IntKind.wrap .i64 (i + 1) = i + 1 := wi64 (by omega) (by omega)
      simp only [h, k1, e1, Int.ofNat_eq_natCast, decide_true, Bool.and_self, cond_true, Option.bind_some]
      have hd := drop_getD l i.toNat 0 (by omega)
      cases hc : decide (l.getD i.toNat 0 < x) with
      | true =>
        right
        refine ⟨(i + 1, ()), rfl, ⟨by simp only; omega, by simp only; omega⟩, by simp only; omega, ?_⟩
        simp only [show (i + 1).toNat = i.toNat + 1 by omega]
        rw [hd]
        simp only [cnt, hc, cond_true]
        congr 1
        omega
      | false =>
        left
        rw [hd]
        simp only [cnt, hc, cond_false, Int.natCast_zero, Int.add_zero]
    · left
      have hd : l.drop i.toNat = [] := List.drop_eq_nil_of_le (by omega)
      simp only [h, hd, Int.ofNat_eq_natCast, decide_false, cond_false, Option.bind_some, cnt, Int.natCast_zero, Int.add_zero]
  simpa using key

theorem g41_ok (a0 : (List Int)) (a1 : Int) (r0 : (Ty.sl (.int .i64)).ok a0) (r1 : IntKind.i64.has a1) (h : (decide (a0.length ≤ 1000000)) = true) : g41 a0 a1 = some (Sp25.putI a0 a1, ()) := by
  simp only [decide_eq_true_eq] at h
  have hc := cnt_le a0 a1
  unfold g41
  rw [put_find a0 a1 h, putI_cnt]
  simp only [Option.bind_some, Int.ofNat_eq_natCast, Int.toNat_natCast, List.take_length, List.drop_zero, List.nil_append]
  have c0 : (0 : Int) ≤ (cnt a0 a1 : Int) := by omega
  have c1 : (cnt a0 a1 : Int) ≤ (a0.length : Int) := by omega
  have b1 : Nat.ble ((1 + (a0.drop (cnt a0 a1)).length) * 8) 140737488355328 = true := ble_t (by rw [List.length_drop]; omega)
  have b2 : Nat.ble (((a0.take (cnt a0 a1)).length + (a1 :: a0.drop (cnt a0 a1)).length) * 8) 140737488355328 = true := ble_t (by rw [List.length_take, List.length_cons, List.length_drop]; omega)
  by_cases h1 : cnt a0 a1 < a0.length
  · have h1' : (cnt a0 a1 : Int) < (a0.length : Int) := by omega
    by_cases h2 : a0.getD (cnt a0 a1) 0 = a1
    · simp only [h1, h1', h2, c0, decide_true, Bool.and_self, cond_true, Option.bind_some]
    · simp only [h1, h1', h2, c0, c1, b1, b2, Int.le_refl, decide_true, decide_false, Bool.and_self, Bool.and_false, cond_true, cond_false, Option.bind_some]
  · have h1' : ¬ (cnt a0 a1 : Int) < (a0.length : Int) := by omega
    simp only [h1, h1', c0, c1, b1, b2, Int.le_refl, decide_true, decide_false, Bool.and_self, Bool.false_and, cond_true, cond_false, Option.bind_some]

theorem srcs_loop (n : Int) (t : Tp) (l : List Int) (hn : 0 ≤ n) (hl : (l.length : Int) + n ≤ 2000) (hw : wf t = true) : Loop g39_s0 (n, l, t, ()) = some ((srcs n.toNat t l).1, (srcs n.toNat t l).2, ()) := by
  refine Loop_inv (fun v : Int × List Int × Tp × Unit => 0 ≤ v.1 ∧ (v.2.1.length : Int) + v.1 ≤ 2000 ∧ wf v.2.2.1 = true) (fun v : Int × List Int × Tp × Unit => v.1.toNat) (fun v : Int × List Int × Tp × Unit => ((srcs v.1.toNat v.2.2.1 v.2.1).1, (srcs v.1.toNat v.2.2.1 v.2.1).2, ())) ?_ (v := (n, l, t, ())) ⟨hn, hl, hw⟩
  rintro ⟨n, l, t, ⟨⟩⟩ ⟨k1, k2, k3⟩
  simp only at k1 k2 k3
  unfold g39_s0
  by_cases h : n > 0
  · right
    have e1 : IntKind.wrap .i64 (n - 1) = n - 1 := wi64 (by omega) (by omega)
    have w1 := range_wf (a := 1) (b := 6) k3
    have w2 := range_wf (a := 1) (b := 20) w1
    have w3 := range_wf (a := 1) (b := 99) w2
    have hs : srcs n.toNat t l = srcs (n - 1).toNat (pick (Sp25.range (Sp25.range (Sp25.range t 1 6).2 1 20).2 1 99).2 [(Sp25.range t 1 6).1, (Sp25.range (Sp25.range t 1 6).2 1 20).1, (Sp25.range (Sp25.range (Sp25.range t 1 6).2 1 20).2 1 99).1]).2 (putI l (pick (Sp25.range (Sp25.range (Sp25.range t 1 6).2 1 20).2 1 99).2 [(Sp25.range t 1 6).1, (Sp25.range (Sp25.range t 1 6).2 1 20).1, (Sp25.range (Sp25.range (Sp25.range t 1 6).2 1 20).2 1 99).1]).1) := by
      rw [show n.toNat = (n - 1).toNat + 1 by omega]; rfl
    simp only [h, decide_true, cond_true, e1]
    rw [on_true (by rw [k3]; rfl)]
    simp only [Option.bind_some]
    rw [on_true (by rw [w1]; rfl)]
    simp only [Option.bind_some]
    rw [on_true (by rw [w2]; rfl)]
    simp only [Option.bind_some]
    rw [on_true (by rw [w3]; rfl)]
    simp only [Option.bind_some]
    rw [on_true (by simp only [decide_eq_true_eq]; omega)]
    simp only [Option.bind_some]
    refine ⟨_, rfl, ⟨by simp only; omega, ?_, pick_wf (l := [(Sp25.range t 1 6).1, (Sp25.range (Sp25.range t 1 6).2 1 20).1, (Sp25.range (Sp25.range (Sp25.range t 1 6).2 1 20).2 1 99).1]) w3⟩, by simp only; omega, by rw [hs]⟩
    have := (putI_len l (pick (Sp25.range (Sp25.range (Sp25.range t 1 6).2 1 20).2 1 99).2 [(Sp25.range t 1 6).1, (Sp25.range (Sp25.range t 1 6).2 1 20).1, (Sp25.range (Sp25.range (Sp25.range t 1 6).2 1 20).2 1 99).1]).1).2
    simp only
    omega
  · left
    have : n = 0 := by omega
    subst this
    simp only [h, decide_false, cond_false]
    rfl

theorem g39_ok (a0 : (List Int)) (a1 : Int) (a2 : Int) (r0 : (Ty.sl (.int .i64)).ok a0) (r1 : IntKind.i64.has a1) (r2 : IntKind.i64.has a2) (h : (Sp25.wf (a0, a1, ()) && Sp25.inside a2 0 1000) = true) : g39 a0 a1 a2 = some (Sp25.sources (a0, a1, ()) a2) := by
  simp only [Bool.and_eq_true] at h
  have h2 := inside_iff.1 h.2
  unfold g39 Sp25.sources
  have e1 : IntKind.wrap .i64 (a2 + 1) = a2 + 1 := wi64 (by omega) (by omega)
  have hb := next_range (t := (a0, a1, ())) (n := a2 + 1) (by omega)
  rw [on_true h.1, e1]
  simp only [Option.bind_some]
  rw [srcs_loop _ _ _ hb.1 (by simp; omega) (next_wf h.1)]
  rfl

theorem g25_ok (a0 : (List Int)) (a1 : Int) (r0 : (Ty.sl (.int .i64)).ok a0) (r1 : IntKind.i64.has a1) (h : (Sp25.wf (a0, a1, ())) = true) : g25 a0 a1 = some (Sp25.filter (a0, a1, ())) := by
  unfold g25 Sp25.filter
  dsimp only
  rw [on_true (by rw [h]; rfl)]
  simp only [Option.bind_some]
  have w1 := pick_wf (l := [0, 2, 4, 4, 16, 99]) h
  have m1 := pick_mem (t := (a0, a1, ())) (l := [0, 2, 4, 4, 16, 99]) (by simp)
  generalize pick (a0, a1, ()) [0, 2, 4, 4, 16, 99] = n at *
  rw [on_true (by rw [w1]; rfl)]
  simp only [Option.bind_some]
  have w2 := range_wf (a := 1) (b := 2) w1
  generalize Sp25.range n.2 1 2 = m at *
  have i1 : inside n.1 0 1000 = true := inside_iff.2 (by simp at m1; omega)
  rw [on_true (by rw [w2, i1]; rfl)]
  rfl

theorem g31_ok (a0 : (List Int)) (a1 : Int) (a2 : Int) (a3 : (List Int)) (r0 : (Ty.sl (.int .i64)).ok a0) (r1 : IntKind.i64.has a1) (r2 : IntKind.i64.has a2) (r3 : (Ty.sl (.int .i64)).ok a3) (h : (Sp25.wf (a0, a1, ()) && decide (a3.length ≤ 1000000)) = true) : g31 a0 a1 a2 a3 = some (Sp25.bentF (a0, a1, ()) (a2, a3, ())) := by
  simp only [Bool.and_eq_true, decide_eq_true_eq] at h
  obtain ⟨h, hl⟩ := h
  unfold g31 Sp25.bentF
  dsimp only
  rw [ble_t (by omega), cond_true, on_true h]
  simp only [Option.bind_some, List.nil_append]
  have w1 := next_wf (n := 4) h
  have b1 := next_range (t := (a0, a1, ())) (n := 4) (by decide)
  generalize Sp25.next (a0, a1, ()) 4 = n at *
  have len0 : (Int.ofNat a3.length > 0) ↔ 0 < a3.length := by simp
  rcases (by omega : n.1 = 0 ∨ n.1 = 1 ∨ n.1 = 2 ∨ n.1 = 3) with hn | hn | hn | hn
  · simp only [hn, decide_true, cond_true]
    rw [on_true (by rw [w1]; rfl)]
    rfl
  · simp only [hn, Int.reduceEq, decide_true, decide_false, cond_true, cond_false]
    rw [on_true (by rw [w1]; rfl)]
    simp only [Option.bind_some]
    rw [ble_t (by omega)]
    rfl
  · simp only [hn, Int.reduceEq, decide_true, decide_false, cond_true, cond_false, len0]
    by_cases h0 : 0 < a3.length
    · have h0' : (0 : Int) < (a3.length : Int) := by omega
      simp only [h0, h0', Int.ofNat_eq_natCast, decide_true, cond_true, Bool.and_self]
      rw [blt_t h0, ble_t (by omega)]
      rfl
    · simp only [h0, decide_false, cond_false]
      rfl
  · simp only [hn, Int.reduceEq, decide_true, decide_false, cond_true, cond_false, len0]
    by_cases h0 : 0 < a3.length
    · have h0' : (0 : Int) < (a3.length : Int) := by omega
      simp only [h0, decide_true, cond_true]
      rw [on_true (by rw [w1]; rfl)]
      simp only [Option.bind_some, h0', Int.ofNat_eq_natCast, decide_true, Bool.and_self, cond_true]
      rw [blt_t h0]
      rfl
    · simp only [h0, decide_false, cond_false]
      rfl

theorem g10_ok (a0 : (List Int)) (a1 : Int) (r0 : (Ty.sl (.int .i64)).ok a0) (r1 : IntKind.i64.has a1) (h : (Sp25.wf (a0, a1, ())) = true) : g10 a0 a1 = some (Sp25.signal (a0, a1, ())) := by
  unfold g10 Sp25.signal
  dsimp only
  rw [on_true (by rw [h]; rfl)]
  simp only [Option.bind_some]
  have w1 := range_wf (a := 1) (b := 3) h
  generalize Sp25.range (a0, a1, ()) 1 3 = k at *
  rw [on_true (by rw [w1]; rfl)]
  simp only [Option.bind_some]
  have w2 := range_wf (a := 1) (b := 6) w1
  have b2 := range_in (t := k.2) (a := 1) (b := 6) (by decide)
  generalize Sp25.range k.2 1 6 = f at *
  rw [on_true (by rw [w2]; rfl)]
  simp only [Option.bind_some]
  have w3 := range_wf (a := 1) (b := 1000000) w2
  generalize Sp25.range f.2 1 1000000 = r at *
  rw [on_true (by rw [w3]; rfl)]
  simp only [Option.bind_some]
  have w4 := pick_wf (l := [1, 2, 3, r.1]) w3
  generalize pick r.2 [1, 2, 3, r.1] = e at *
  rw [on_true w4]
  simp only [Option.bind_some]
  have w5 := next_wf (n := 5) w4
  have b5 := next_range (t := e.2) (n := 5) (by decide)
  generalize Sp25.next e.2 5 = n at *
  have e1 : IntKind.wrap .i64 (f.1 + n.1) = f.1 + n.1 := wi64 (by omega) (by omega)
  have e2 : Int.tmod (f.1 + n.1) 6 = (f.1 + n.1) % 6 := tmod_nn (by omega)
  have e3 : IntKind.wrap .i64 (1 + (f.1 + n.1) % 6) = 1 + (f.1 + n.1) % 6 := wi64 (by omega) (by omega)
  have hy : (bif decide (1 + (f.1 + n.1) % 6 = f.1) then some ((k.1, f.1, 99, e.1, 0, 0, 0, 0, 0, [], ()), ()) else some ((k.1, f.1, 1 + (f.1 + n.1) % 6, e.1, 0, 0, 0, 0, 0, [], ()), ())) = some (((k.1, f.1, (bif decide (1 + (f.1 + n.1) % 6 = f.1) then 99 else 1 + (f.1 + n.1) % 6), e.1, 0, 0, 0, 0, 0, [], ()), ()) : Sg × Unit) := by
    cases decide (1 + (f.1 + n.1) % 6 = f.1) <;> rfl
  simp only [e1, e2, e3, hy, Option.bind_some]
  generalize (bif decide (1 + (f.1 + n.1) % 6 = f.1) then 99 else 1 + (f.1 + n.1) % 6) = z at *
  rw [on_true (by rw [w5]; rfl)]
  simp only [Option.bind_some]
  have w6 := range_wf (a := 0) (b := 1000000) w5
  have b6 := range_in (t := n.2) (a := 0) (b := 1000000) (by decide)
  generalize Sp25.range n.2 0 1000000 = q at *
  rw [on_true (by rw [w6]; rfl)]
  simp only [Option.bind_some]
  have w7 := pick_wf (l := [0, 1, 2, 5, q.1, 1000000]) w6
  have m7 := pick_mem (t := q.2) (l := [0, 1, 2, 5, q.1, 1000000]) (by simp)
  generalize pick q.2 [0, 1, 2, 5, q.1, 1000000] = v at *
  have b7 : 0 ≤ v.1 ∧ v.1 ≤ 1000000 := by simp at m7; omega
  by_cases k2 : k.1 = 2
  · have bW : 1 ≤ (bif decide (1 < v.1) then v.1 else 1) ∧ (bif decide (1 < v.1) then v.1 else 1) ≤ 1000000 := by
      by_cases hv : 1 < v.1
      · simp only [hv, decide_true, cond_true]; omega
      · simp only [hv, decide_false, cond_false]; omega
    generalize (bif decide (1 < v.1) then v.1 else 1) = W at *
    have eW : IntKind.wrap .i64 (W - 1) = W - 1 := wi64 (by omega) (by omega)
    simp only [k2, decide_true, cond_true, eW]
    rw [on_true w7]
    simp only [Option.bind_some]
    have w8 := next_wf (n := W) w7
    generalize Sp25.next v.2 W = m at *
    rw [on_true (by rw [w8]; rfl)]
    simp only [Option.bind_some]
    have w9 := pick_wf (l := [0, W - 1, m.1]) w8
    generalize pick m.2 [0, W - 1, m.1] = p at *
    rw [on_true (by rw [w9]; rfl)]
    simp only [Option.bind_some]
    have w10 := range_wf (a := 1) (b := 6) w9
    generalize Sp25.range p.2 1 6 = g at *
    rw [on_true w10]
    rfl
  · by_cases k3 : k.1 = 3
    · simp only [k3, Int.reduceEq, decide_true, decide_false, cond_true, cond_false]
      rw [on_true (by rw [w7]; rfl)]
      simp only [Option.bind_some]
      have w8 := pick_wf (l := [0, e.1]) w7
      generalize pick v.2 [0, e.1] = e2 at *
      rw [on_true (by rw [w8]; rfl)]
      rfl
    · simp only [k2, k3, decide_false, cond_false]
      rfl

theorem g16_ok (a0 : (List Int)) (a1 : Int) (a2 : Int) (a3 : Int) (a4 : Int) (a5 : Int) (a6 : Int) (a7 : Int) (a8 : Int) (a9 : Int) (a10 : Int) (a11 : (List Int)) (r0 : (Ty.sl (.int .i64)).ok a0) (r1 : IntKind.i64.has a1) (r2 : IntKind.i64.has a2) (r3 : IntKind.i64.has a3) (r4 : IntKind.i64.has a4) (r5 : IntKind.i64.has a5) (r6 : IntKind.i64.has a6) (r7 : IntKind.i64.has a7) (r8 : IntKind.i64.has a8) (r9 : IntKind.i64.has a9) (r10 : IntKind.i64.has a10) (r11 : (Ty.sl (.int .i64)).ok a11) (h : (Sp25.wf (a0, a1, ()) && decide (a11.length ≤ 1000000)) = true) : g16 a0 a1 a2 a3 a4 a5 a6 a7 a8 a9 a10 a11 = some (Sp25.bent (a0, a1, ()) (a2, a3, a4, a5, a6, a7, a8, a9, a10, a11, ())) := by
  simp only [Bool.and_eq_true, decide_eq_true_eq] at h
  obtain ⟨h, hl⟩ := h
  unfold g16 Sp25.bent
  dsimp only
  rw [ble_t (by omega), cond_true, on_true h]
  simp only [Option.bind_some, List.nil_append]
  have w1 := next_wf (n := 9) h
  have b1 := next_range (t := (a0, a1, ())) (n := 9) (by decide)
  generalize Sp25.next (a0, a1, ()) 9 = n at *
  rcases (by omega : n.1 = 0 ∨ n.1 = 1 ∨ n.1 = 2 ∨ n.1 = 3 ∨ n.1 = 4 ∨ n.1 = 5 ∨ n.1 = 6 ∨ n.1 = 7 ∨ n.1 = 8) with hn | hn | hn | hn | hn | hn | hn | hn | hn
  · simp only [hn, decide_true, cond_true]
    rw [on_true (by rw [w1]; rfl)]
    rfl
  · simp only [hn, Int.reduceEq, decide_true, decide_false, cond_true, cond_false]
    rw [on_true (by rw [w1]; rfl)]
    rfl
  · simp only [hn, Int.reduceEq, decide_true, decide_false, cond_true, cond_false]
    rw [on_true (by rw [w1]; rfl)]
    rfl
  · simp only [hn, Int.reduceEq, decide_true, decide_false, cond_true, cond_false]
    rw [on_true (by rw [w1]; rfl)]
    rfl
  · simp only [hn, Int.reduceEq, decide_true, decide_false, cond_true, cond_false]
    rw [on_true (by rw [w1]; rfl)]
    rfl
  · simp only [hn, Int.reduceEq, decide_true, decide_false, cond_true, cond_false]
    rw [on_true (by rw [w1]; rfl)]
    rfl
  · simp only [hn, Int.reduceEq, decide_true, decide_false, cond_true, cond_false]
    rw [on_true (by rw [w1]; rfl)]
    rfl
  · simp only [hn, Int.reduceEq, decide_true, decide_false, cond_true, cond_false]
    rw [on_true (by rw [w1]; rfl)]
    rfl
  · simp only [hn, Int.reduceEq, decide_true, decide_false, cond_true, cond_false]
    rw [on_true (by rw [w1, decide_eq_true hl]; rfl)]
    rfl

theorem awakeE : Sp25.encode (1, 1, 2, 3, 4, 0, 0, 0, 0, [], ()) = ([1, 1, 2, 0, 0, 3, 0, 0, 4, 0, 0, 0, 0, 0, 0, 0, 0, 0, 0, 63], 0, ()) := by kernel_rfl
theorem awakeD : Sp25.decode [1, 1, 2, 0, 0, 3, 0, 0, 4, 0, 0, 0, 0, 0, 0, 0, 0, 0, 0, 63] = ((1, 1, 2, 3, 4, 0, 0, 0, 0, [], ()), 0, ()) := by kernel_rfl

theorem g7_ok   : g7  = some (true, ()) := by
  unfold g7
  rw [awakeE]
  simp only []
  rw [awakeD]
  rfl
end Go.Abs.C25

/- Chapter 25: the functions keep their contracts. -/
namespace Go.Abs.C25
open Go Go.Proofs
theorem ok38 : FunOk Tryd.prog B 38 c38 := glue L0 gam_nil plan38 Tryd.func38 (by kernel_rfl) (by
  rintro ⟨⟨a0, a1, ⟨⟩⟩, ⟨⟩⟩ y r h
  obtain ⟨h1, h2⟩ := Sp25.on_some h
  subst h2
  exact (g38_eq a0 a1).trans (g38_ok a0 a1 r.1.1 r.1.2.1 h1))
theorem all38 : ∀ g con, lookC L38 g = some con → FunOk Tryd.prog B g con := gam_cons rfl ok38 gam_nil

theorem ok11 : FunOk Tryd.prog B 11 c11 := glue L38 all38 plan11 Tryd.func11 (by kernel_rfl) (by
  rintro ⟨⟨⟩, a0, a1, ⟨⟩⟩ y r h
  exact (g11_eq a0 a1).trans ((g11_ok a0 a1 r.2.1 r.2.2.1).trans h))
theorem all11 : ∀ g con, lookC L11 g = some con → FunOk Tryd.prog B g con := gam_cons rfl ok11 all38

theorem ok24 : FunOk Tryd.prog B 24 c24 := glue L11 all11 plan24 Tryd.func24 (by kernel_rfl) (by
  rintro ⟨⟨a0, a1, ⟨⟩⟩, a2, ⟨⟩⟩ y r h
  obtain ⟨h1, h2⟩ := Sp25.on_some h
  subst h2
  exact (g24_eq a0 a1 a2).trans (g24_ok a0 a1 a2 r.1.1 r.1.2.1 r.2.1 h1))
theorem all24 : ∀ g con, lookC L24 g = some con → FunOk Tryd.prog B g con := gam_cons rfl ok24 all11

theorem ok22 : FunOk Tryd.prog B 22 c22 := glue L24 all24 plan22 Tryd.func22 (by kernel_rfl) (by
  rintro ⟨⟨a0, a1, ⟨⟩⟩, a2, a3, ⟨⟩⟩ y r h
  obtain ⟨h1, h2⟩ := Sp25.on_some h
  subst h2
  exact (g22_eq a0 a1 a2 a3).trans (g22_ok a0 a1 a2 a3 r.1.1 r.1.2.1 r.2.1 r.2.2.1 h1))
theorem all22 : ∀ g con, lookC L22 g = some con → FunOk Tryd.prog B g con := gam_cons rfl ok22 all24

theorem ok23 : FunOk Tryd.prog B 23 c23 := glue L22 all22 plan23 Tryd.func23 (by kernel_rfl) (by
  rintro ⟨⟨a0, a1, ⟨⟩⟩, a2, ⟨⟩⟩ y r h
  obtain ⟨h1, h2⟩ := Sp25.on_some h
  subst h2
  exact (g23_eq a0 a1 a2).trans (g23_ok a0 a1 a2 r.1.1 r.1.2.1 r.2.1 h1))
theorem all23 : ∀ g con, lookC L23 g = some con → FunOk Tryd.prog B g con := gam_cons rfl ok23 all22

theorem ok8 : FunOk Tryd.prog B 8 c8 := glue L23 all23 plan8 Tryd.func8 (by kernel_rfl) (by
  rintro ⟨⟨⟩, a0, ⟨⟩⟩ y r h
  exact (g8_eq a0).trans ((g8_ok a0 r.2.1).trans h))
theorem all8 : ∀ g con, lookC L8 g = some con → FunOk Tryd.prog B g con := gam_cons rfl ok8 all23

theorem ok40 : FunOk Tryd.prog B 40 c40 := glue L8 all8 plan40 Tryd.func40 (by kernel_rfl) (by
  rintro ⟨⟨⟩, a0, a1, ⟨⟩⟩ y r h
  exact (g40_eq a0 a1).trans ((g40_ok a0 a1 r.2.1 r.2.2.1).trans h))
theorem all40 : ∀ g con, lookC L40 g = some con → FunOk Tryd.prog B g con := gam_cons rfl ok40 all8

theorem ok37 : FunOk Tryd.prog B 37 c37 := glue L40 all40 plan37 Tryd.func37 (by kernel_rfl) (by
  rintro ⟨⟨⟩, a0, a1, ⟨⟩⟩ y r h
  exact (g37_eq a0 a1).trans ((g37_ok a0 a1 r.2.1 r.2.2.1).trans h))
theorem all37 : ∀ g con, lookC L37 g = some con → FunOk Tryd.prog B g con := gam_cons rfl ok37 all40

theorem ok35 : FunOk Tryd.prog B 35 c35 := glue L37 all37 plan35 Tryd.func35 (by kernel_rfl) (by
  rintro ⟨⟨⟩, a0, a1, a2, ⟨⟩⟩ y r h
  exact (g35_eq a0 a1 a2).trans ((g35_ok a0 a1 a2 r.2.1 r.2.2.1 r.2.2.2.1).trans h))
theorem all35 : ∀ g con, lookC L35 g = some con → FunOk Tryd.prog B g con := gam_cons rfl ok35 all37

theorem ok34 : FunOk Tryd.prog B 34 c34 := glue L35 all35 plan34 Tryd.func34 (by kernel_rfl) (by
  rintro ⟨⟨⟩, ⟨a0, a1, ⟨⟩⟩, ⟨⟩⟩ y r h
  exact (g34_eq a0 a1).trans ((g34_ok a0 a1 r.2.1.1 r.2.1.2.1).trans h))
theorem all34 : ∀ g con, lookC L34 g = some con → FunOk Tryd.prog B g con := gam_cons rfl ok34 all35

theorem ok36 : FunOk Tryd.prog B 36 c36 := glue L34 all34 plan36 Tryd.func36 (by kernel_rfl) (by
  rintro ⟨⟨⟩, ⟨a0, a1, ⟨⟩⟩, ⟨⟩⟩ y r h
  exact (g36_eq a0 a1).trans ((g36_ok a0 a1 r.2.1.1 r.2.1.2.1).trans h))
theorem all36 : ∀ g con, lookC L36 g = some con → FunOk Tryd.prog B g con := gam_cons rfl ok36 all34

theorem ok29 : FunOk Tryd.prog B 29 c29 := glue L36 all36 plan29 Tryd.func29 (by kernel_rfl) (by
  rintro ⟨⟨⟩, ⟨a0, a1, ⟨⟩⟩, ⟨a2, a3, ⟨⟩⟩, ⟨⟩⟩ y r h
  exact (g29_eq a0 a1 a2 a3).trans ((g29_ok a0 a1 a2 a3 r.2.1.1 r.2.1.2.1 r.2.2.1.1 r.2.2.1.2.1).trans h))
theorem all29 : ∀ g con, lookC L29 g = some con → FunOk Tryd.prog B g con := gam_cons rfl ok29 all36

theorem ok33 : FunOk Tryd.prog B 33 c33 := glue L29 all29 plan33 Tryd.func33 (by kernel_rfl) (by
  rintro ⟨⟨⟩, ⟨a0, a1, ⟨⟩⟩, a2, ⟨⟩⟩ y r h
  exact (g33_eq a0 a1 a2).trans ((g33_ok a0 a1 a2 r.2.1.1 r.2.1.2.1 r.2.2.1).trans h))
theorem all33 : ∀ g con, lookC L33 g = some con → FunOk Tryd.prog B g con := gam_cons rfl ok33 all29

theorem ok32 : FunOk Tryd.prog B 32 c32 := glue L33 all33 plan32 Tryd.func32 (by kernel_rfl) (by
  rintro ⟨⟨⟩, ⟨a0, a1, a2, a3, a4, a5, a6, a7, a8, a9, ⟨⟩⟩, ⟨⟩⟩ y r h
  exact (g32_eq a0 a1 a2 a3 a4 a5 a6 a7 a8 a9).trans ((g32_ok a0 a1 a2 a3 a4 a5 a6 a7 a8 a9 r.2.1.1 r.2.1.2.1 r.2.1.2.2.1 r.2.1.2.2.2.1 r.2.1.2.2.2.2.1 r.2.1.2.2.2.2.2.1 r.2.1.2.2.2.2.2.2.1 r.2.1.2.2.2.2.2.2.2.1 r.2.1.2.2.2.2.2.2.2.2.1 r.2.1.2.2.2.2.2.2.2.2.2.1).trans h))
theorem all32 : ∀ g con, lookC L32 g = some con → FunOk Tryd.prog B g con := gam_cons rfl ok32 all33

theorem ok17 : FunOk Tryd.prog B 17 c17 := glue L32 all32 plan17 Tryd.func17 (by kernel_rfl) (by
  rintro ⟨⟨⟩, ⟨a0, a1, a2, a3, a4, a5, a6, a7, a8, a9, ⟨⟩⟩, ⟨⟩⟩ y r h
  exact (g17_eq a0 a1 a2 a3 a4 a5 a6 a7 a8 a9).trans ((g17_ok a0 a1 a2 a3 a4 a5 a6 a7 a8 a9 r.2.1.1 r.2.1.2.1 r.2.1.2.2.1 r.2.1.2.2.2.1 r.2.1.2.2.2.2.1 r.2.1.2.2.2.2.2.1 r.2.1.2.2.2.2.2.2.1 r.2.1.2.2.2.2.2.2.2.1 r.2.1.2.2.2.2.2.2.2.2.1 r.2.1.2.2.2.2.2.2.2.2.2.1).trans h))
theorem all17 : ∀ g con, lookC L17 g = some con → FunOk Tryd.prog B g con := gam_cons rfl ok17 all32

theorem ok18 : FunOk Tryd.prog B 18 c18 := glue L17 all17 plan18 Tryd.func18 (by kernel_rfl) (by
  rintro ⟨⟨⟩, ⟨a0, a1, a2, a3, a4, a5, a6, a7, a8, a9, ⟨⟩⟩, ⟨⟩⟩ y r h
  exact (g18_eq a0 a1 a2 a3 a4 a5 a6 a7 a8 a9).trans ((g18_ok a0 a1 a2 a3 a4 a5 a6 a7 a8 a9 r.2.1.1 r.2.1.2.1 r.2.1.2.2.1 r.2.1.2.2.2.1 r.2.1.2.2.2.2.1 r.2.1.2.2.2.2.2.1 r.2.1.2.2.2.2.2.2.1 r.2.1.2.2.2.2.2.2.2.1 r.2.1.2.2.2.2.2.2.2.2.1 r.2.1.2.2.2.2.2.2.2.2.2.1).trans h))
theorem all18 : ∀ g con, lookC L18 g = some con → FunOk Tryd.prog B g con := gam_cons rfl ok18 all17

theorem ok14 : FunOk Tryd.prog B 14 c14 := glue L18 all18 plan14 Tryd.func14 (by kernel_rfl) (by
  rintro ⟨⟨⟩, ⟨a0, a1, a2, a3, a4, a5, a6, a7, a8, a9, ⟨⟩⟩, ⟨a10, a11, a12, a13, a14, a15, a16, a17, a18, a19, ⟨⟩⟩, ⟨⟩⟩ y r h
  exact (g14_eq a0 a1 a2 a3 a4 a5 a6 a7 a8 a9 a10 a11 a12 a13 a14 a15 a16 a17 a18 a19).trans ((g14_ok a0 a1 a2 a3 a4 a5 a6 a7 a8 a9 a10 a11 a12 a13 a14 a15 a16 a17 a18 a19 r.2.1.1 r.2.1.2.1 r.2.1.2.2.1 r.2.1.2.2.2.1 r.2.1.2.2.2.2.1 r.2.1.2.2.2.2.2.1 r.2.1.2.2.2.2.2.2.1 r.2.1.2.2.2.2.2.2.2.1 r.2.1.2.2.2.2.2.2.2.2.1 r.2.1.2.2.2.2.2.2.2.2.2.1 r.2.2.1.1 r.2.2.1.2.1 r.2.2.1.2.2.1 r.2.2.1.2.2.2.1 r.2.2.1.2.2.2.2.1 r.2.2.1.2.2.2.2.2.1 r.2.2.1.2.2.2.2.2.2.1 r.2.2.1.2.2.2.2.2.2.2.1 r.2.2.1.2.2.2.2.2.2.2.2.1 r.2.2.1.2.2.2.2.2.2.2.2.2.1).trans h))
theorem all14 : ∀ g con, lookC L14 g = some con → FunOk Tryd.prog B g con := gam_cons rfl ok14 all18

theorem ok19 : FunOk Tryd.prog B 19 c19 := glue L14 all14 plan19 Tryd.func19 (by kernel_rfl) (by
  rintro ⟨⟨⟩, ⟨a0, a1, a2, a3, a4, a5, a6, a7, a8, a9, ⟨⟩⟩, ⟨a10, a11, a12, a13, a14, a15, a16, a17, a18, a19, ⟨⟩⟩, ⟨⟩⟩ y r h
  exact (g19_eq a0 a1 a2 a3 a4 a5 a6 a7 a8 a9 a10 a11 a12 a13 a14 a15 a16 a17 a18 a19).trans ((g19_ok a0 a1 a2 a3 a4 a5 a6 a7 a8 a9 a10 a11 a12 a13 a14 a15 a16 a17 a18 a19 r.2.1.1 r.2.1.2.1 r.2.1.2.2.1 r.2.1.2.2.2.1 r.2.1.2.2.2.2.1 r.2.1.2.2.2.2.2.1 r.2.1.2.2.2.2.2.2.1 r.2.1.2.2.2.2.2.2.2.1 r.2.1.2.2.2.2.2.2.2.2.1 r.2.1.2.2.2.2.2.2.2.2.2.1 r.2.2.1.1 r.2.2.1.2.1 r.2.2.1.2.2.1 r.2.2.1.2.2.2.1 r.2.2.1.2.2.2.2.1 r.2.2.1.2.2.2.2.2.1 r.2.2.1.2.2.2.2.2.2.1 r.2.2.1.2.2.2.2.2.2.2.1 r.2.2.1.2.2.2.2.2.2.2.2.1 r.2.2.1.2.2.2.2.2.2.2.2.2.1).trans h))
theorem all19 : ∀ g con, lookC L19 g = some con → FunOk Tryd.prog B g con := gam_cons rfl ok19 all14

theorem ok20 : FunOk Tryd.prog B 20 c20 := glue L19 all19 plan20 Tryd.func20 (by kernel_rfl) (by
  rintro ⟨⟨⟩, a0, a1, a2, ⟨⟩⟩ y r h
  obtain ⟨h1, h2⟩ := Sp25.on_some h
  subst h2
  exact (g20_eq a0 a1 a2).trans (g20_ok a0 a1 a2 r.2.1 r.2.2.1 r.2.2.2.1 h1))
theorem all20 : ∀ g con, lookC L20 g = some con → FunOk Tryd.prog B g con := gam_cons rfl ok20 all19

theorem ok30 : FunOk Tryd.prog B 30 c30 := glue L20 all20 plan30 Tryd.func30 (by kernel_rfl) (by
  rintro ⟨⟨⟩, a0, a1, a2, ⟨⟩⟩ y r h
  obtain ⟨h1, h2⟩ := Sp25.on_some h
  subst h2
  exact (g30_eq a0 a1 a2).trans (g30_ok a0 a1 a2 r.2.1 r.2.2.1 r.2.2.2.1 h1))
theorem all30 : ∀ g con, lookC L30 g = some con → FunOk Tryd.prog B g con := gam_cons rfl ok30 all20

theorem ok21 : FunOk Tryd.prog B 21 c21 := glue L30 all30 plan21 Tryd.func21 (by kernel_rfl) (by
  rintro ⟨⟨⟩, a0, ⟨⟩⟩ y r h
  obtain ⟨h1, h2⟩ := Sp25.on_some h
  subst h2
  exact (g21_eq a0).trans (g21_ok a0 r.2.1 h1))
theorem all21 : ∀ g con, lookC L21 g = some con → FunOk Tryd.prog B g con := gam_cons rfl ok21 all30

theorem ok27 : FunOk Tryd.prog B 27 c27 := glue L21 all21 plan27 Tryd.func27 (by kernel_rfl) (by
  rintro ⟨⟨⟩, a0, ⟨⟩⟩ y r h
  obtain ⟨h1, h2⟩ := Sp25.on_some h
  subst h2
  exact (g27_eq a0).trans (g27_ok a0 r.2.1 h1))
theorem all27 : ∀ g con, lookC L27 g = some con → FunOk Tryd.prog B g con := gam_cons rfl ok27 all21

theorem ok26 : FunOk Tryd.prog B 26 c26 := glue L27 all27 plan26 Tryd.func26 (by kernel_rfl) (by
  rintro ⟨⟨⟩, a0, ⟨⟩⟩ y r h
  obtain ⟨h1, h2⟩ := Sp25.on_some h
  subst h2
  exact (g26_eq a0).trans (g26_ok a0 r.2.1 h1))
theorem all26 : ∀ g con, lookC L26 g = some con → FunOk Tryd.prog B g con := gam_cons rfl ok26 all27

theorem ok28 : FunOk Tryd.prog B 28 c28 := glue L26 all26 plan28 Tryd.func28 (by kernel_rfl) (by
  rintro ⟨⟨⟩, a0, ⟨⟩⟩ y r h
  obtain ⟨h1, h2⟩ := Sp25.on_some h
  subst h2
  exact (g28_eq a0).trans (g28_ok a0 r.2.1 h1))
theorem all28 : ∀ g con, lookC L28 g = some con → FunOk Tryd.prog B g con := gam_cons rfl ok28 all26

theorem ok15 : FunOk Tryd.prog B 15 c15 := glue L28 all28 plan15 Tryd.func15 (by kernel_rfl) (by
  rintro ⟨⟨⟩, ⟨a0, a1, a2, a3, a4, a5, a6, a7, a8, a9, ⟨⟩⟩, ⟨⟩⟩ y r h
  exact (g15_eq a0 a1 a2 a3 a4 a5 a6 a7 a8 a9).trans ((g15_ok a0 a1 a2 a3 a4 a5 a6 a7 a8 a9 r.2.1.1 r.2.1.2.1 r.2.1.2.2.1 r.2.1.2.2.2.1 r.2.1.2.2.2.2.1 r.2.1.2.2.2.2.2.1 r.2.1.2.2.2.2.2.2.1 r.2.1.2.2.2.2.2.2.2.1 r.2.1.2.2.2.2.2.2.2.2.1 r.2.1.2.2.2.2.2.2.2.2.2.1).trans h))
theorem all15 : ∀ g con, lookC L15 g = some con → FunOk Tryd.prog B g con := gam_cons rfl ok15 all28

theorem ok9 : FunOk Tryd.prog B 9 c9 := glue L15 all15 plan9 Tryd.func9 (by kernel_rfl) (by
  rintro ⟨⟨⟩, ⟨a0, a1, a2, a3, a4, a5, a6, a7, a8, a9, ⟨⟩⟩, ⟨⟩⟩ y r h
  exact (g9_eq a0 a1 a2 a3 a4 a5 a6 a7 a8 a9).trans ((g9_ok a0 a1 a2 a3 a4 a5 a6 a7 a8 a9 r.2.1.1 r.2.1.2.1 r.2.1.2.2.1 r.2.1.2.2.2.1 r.2.1.2.2.2.2.1 r.2.1.2.2.2.2.2.1 r.2.1.2.2.2.2.2.2.1 r.2.1.2.2.2.2.2.2.2.1 r.2.1.2.2.2.2.2.2.2.2.1 r.2.1.2.2.2.2.2.2.2.2.2.1).trans h))
theorem all9 : ∀ g con, lookC L9 g = some con → FunOk Tryd.prog B g con := gam_cons rfl ok9 all15

theorem ok12 : FunOk Tryd.prog B 12 c12 := glue L9 all9 plan12 Tryd.func12 (by kernel_rfl) (by
  rintro ⟨⟨⟩, a0, ⟨⟩⟩ y r h
  exact (g12_eq a0).trans ((g12_ok a0 r.2.1).trans h))
theorem all12 : ∀ g con, lookC L12 g = some con → FunOk Tryd.prog B g con := gam_cons rfl ok12 all9

theorem ok13 : FunOk Tryd.prog B 13 c13 := glue L12 all12 plan13 Tryd.func13 (by kernel_rfl) (by
  rintro ⟨⟨⟩, a0, ⟨⟩⟩ y r h
  exact (g13_eq a0).trans ((g13_ok a0 r.2.1).trans h))
theorem all13 : ∀ g con, lookC L13 g = some con → FunOk Tryd.prog B g con := gam_cons rfl ok13 all12

theorem ok41 : FunOk Tryd.prog B 41 c41 := glue L13 all13 plan41 Tryd.func41 (by kernel_rfl) (by
  rintro ⟨⟨⟩, a0, a1, ⟨⟩⟩ y r h
  obtain ⟨h1, h2⟩ := Sp25.on_some h
  subst h2
  exact (g41_eq a0 a1).trans (g41_ok a0 a1 r.2.1 r.2.2.1 h1))
theorem all41 : ∀ g con, lookC L41 g = some con → FunOk Tryd.prog B g con := gam_cons rfl ok41 all13

theorem ok39 : FunOk Tryd.prog B 39 c39 := glue L41 all41 plan39 Tryd.func39 (by kernel_rfl) (by
  rintro ⟨⟨a0, a1, ⟨⟩⟩, a2, ⟨⟩⟩ y r h
  obtain ⟨h1, h2⟩ := Sp25.on_some h
  subst h2
  exact (g39_eq a0 a1 a2).trans (g39_ok a0 a1 a2 r.1.1 r.1.2.1 r.2.1 h1))
theorem all39 : ∀ g con, lookC L39 g = some con → FunOk Tryd.prog B g con := gam_cons rfl ok39 all41

theorem ok25 : FunOk Tryd.prog B 25 c25 := glue L39 all39 plan25 Tryd.func25 (by kernel_rfl) (by
  rintro ⟨⟨a0, a1, ⟨⟩⟩, ⟨⟩⟩ y r h
  obtain ⟨h1, h2⟩ := Sp25.on_some h
  subst h2
  exact (g25_eq a0 a1).trans (g25_ok a0 a1 r.1.1 r.1.2.1 h1))
theorem all25 : ∀ g con, lookC L25 g = some con → FunOk Tryd.prog B g con := gam_cons rfl ok25 all39

theorem ok31 : FunOk Tryd.prog B 31 c31 := glue L25 all25 plan31 Tryd.func31 (by kernel_rfl) (by
  rintro ⟨⟨a0, a1, ⟨⟩⟩, ⟨a2, a3, ⟨⟩⟩, ⟨⟩⟩ y r h
  obtain ⟨h1, h2⟩ := Sp25.on_some h
  subst h2
  exact (g31_eq a0 a1 a2 a3).trans (g31_ok a0 a1 a2 a3 r.1.1 r.1.2.1 r.2.1.1 r.2.1.2.1 h1))
theorem all31 : ∀ g con, lookC L31 g = some con → FunOk Tryd.prog B g con := gam_cons rfl ok31 all25

theorem ok10 : FunOk Tryd.prog B 10 c10 := glue L31 all31 plan10 Tryd.func10 (by kernel_rfl) (by
  rintro ⟨⟨a0, a1, ⟨⟩⟩, ⟨⟩⟩ y r h
  obtain ⟨h1, h2⟩ := Sp25.on_some h
  subst h2
  exact (g10_eq a0 a1).trans (g10_ok a0 a1 r.1.1 r.1.2.1 h1))
theorem all10 : ∀ g con, lookC L10 g = some con → FunOk Tryd.prog B g con := gam_cons rfl ok10 all31

theorem ok16 : FunOk Tryd.prog B 16 c16 := glue L10 all10 plan16 Tryd.func16 (by kernel_rfl) (by
  rintro ⟨⟨a0, a1, ⟨⟩⟩, ⟨a2, a3, a4, a5, a6, a7, a8, a9, a10, a11, ⟨⟩⟩, ⟨⟩⟩ y r h
  obtain ⟨h1, h2⟩ := Sp25.on_some h
  subst h2
  exact (g16_eq a0 a1 a2 a3 a4 a5 a6 a7 a8 a9 a10 a11).trans (g16_ok a0 a1 a2 a3 a4 a5 a6 a7 a8 a9 a10 a11 r.1.1 r.1.2.1 r.2.1.1 r.2.1.2.1 r.2.1.2.2.1 r.2.1.2.2.2.1 r.2.1.2.2.2.2.1 r.2.1.2.2.2.2.2.1 r.2.1.2.2.2.2.2.2.1 r.2.1.2.2.2.2.2.2.2.1 r.2.1.2.2.2.2.2.2.2.2.1 r.2.1.2.2.2.2.2.2.2.2.2.1 h1))
theorem all16 : ∀ g con, lookC L16 g = some con → FunOk Tryd.prog B g con := gam_cons rfl ok16 all10

theorem ok7 : FunOk Tryd.prog B 7 c7 := glue L16 all16 plan7 Tryd.func7 (by kernel_rfl) (by
  rintro ⟨⟨⟩, ⟨⟩⟩ y r h
  exact (g7_eq ).trans ((g7_ok  ).trans h))
theorem all7 : ∀ g con, lookC L7 g = some con → FunOk Tryd.prog B g con := gam_cons rfl ok7 all16
end Go.Abs.C25

/- Chapter 25: the laws' functions answer true. -/
namespace Go.Abs.C25
open Go Go.Proofs Sp25

theorem beq_self (l : List Int) : @List.beq Int (@instBEqOfDecidableEq Int Int.instDecidableEq) l l = true := by
  induction l with
  | nil => rfl
  | cons x r ih => simp [List.beq, ih]
theorem sameS_self (s : Sg) : Sp25.sameS s s = true := by simp [Sp25.sameS, sameF]
theorem encode_e {s : Sg} (h : validate s = 0) : (Sp25.encode s).2.1 = 0 := by rw [encode_ok h]
theorem len_le {s : Sg} (h : validate s = 0) : (so s).length ≤ 99 := (fit_of_valid h).hl

theorem g4_ok (a0 : (List Int)) (r0 : (Ty.sl (.int .i64)).ok a0) : g4 a0 = some (true, ()) := by
  have key : ∃ e, Loop g4_s0 ((0 : Int), Sp25.tape a0, ()) = some e ∧ e.1 = false := by
    refine Loop_post (fun v : Int × Tp × Unit => 0 ≤ v.1 ∧ v.1 ≤ 4 ∧ wf v.2.1 = true) (fun v : Int × Tp × Unit => (4 - v.1).toNat) _ ?_ (v := (0, Sp25.tape a0, ())) ⟨by simp, by simp, tape_wf a0⟩
    rintro ⟨i, t, ⟨⟩⟩ ⟨k1, k2, k3⟩
    simp only at k1 k2 k3
    unfold g4_s0
    by_cases h : i < 4
    · right
      have e1 : IntKind.wrap .i64 (i + 1) = i + 1 := wi64 (by omega) (by omega)
      obtain ⟨hv, hw⟩ := signal_ok k3
      have hl := encode_len hv
      have h99 := len_le hv
      have e2 : IntKind.wrap .i64 (20 + Int.ofNat (so (Sp25.signal t).1).length) = 20 + Int.ofNat (so (Sp25.signal t).1).length := wi64 (by simp; omega) (by simp; omega)
      have e3 : Int.ofNat (Sp25.encode (Sp25.signal t).1).1.length = 20 + Int.ofNat (so (Sp25.signal t).1).length := by rw [hl]; simp
      have d : decide (Int.ofNat (Sp25.encode (Sp25.signal t).1).1.length = IntKind.wrap .i64 (20 + Int.ofNat (Sp25.signal t).1.2.2.2.2.2.2.2.2.2.1.length)) = true := decide_eq_true (by
        show _ = IntKind.wrap .i64 (20 + Int.ofNat (so (Sp25.signal t).1).length)
        rw [e2]; exact e3)
      simp only [h, decide_true, cond_true, k3, on_true, Option.bind_some, decode_encode hv, encode_e hv, sameS_self, beq_self, Bool.not_true, Bool.not_false, d, cond_false]
      exact ⟨_, rfl, ⟨by simp only [e1]; omega, by simp only [e1]; omega, hw⟩, by simp only [e1]; omega⟩
    · left
      exact ⟨(false, (false, ()), ()), by simp only [h, decide_false, cond_false], rfl⟩
  obtain ⟨e, h1, h2⟩ := key
  unfold g4
  rw [h1]
  simp only [Option.bind_some, h2, cond_false]

theorem fin_loop {τ : Type} {step : τ → Option (Sum τ (Bool × (Bool × Unit) × Unit))} {v : τ} (H : ∃ e, Loop step v = some e ∧ e.1 = false) :
    (Option.bind (Loop step v) fun y => bif y.1 then some y.2.1 else some (true, ())) = some (true, ()) := by
  obtain ⟨e, h1, h2⟩ := H
  rw [h1]
  simp only [Option.bind_some, h2, cond_false]

/-! A byte that is changed. -/
theorem xor_byte {x a : Int} (hx : byte x) (ha : byte a) : byte (IntKind.wrap .u8 (Int.ofNat (BitVec.xor (BitVec.ofInt 8 x) (BitVec.ofInt 8 a)).toNat)) ∧ (a ≠ 0 → IntKind.wrap .u8 (Int.ofNat (BitVec.xor (BitVec.ofInt 8 x) (BitVec.ofInt 8 a)).toNat) ≠ x) := by
  rw [bvxor hx.1 (by have := hx.2; omega) ha.1 (by have := ha.2; omega)]
  have h1 := hx.1; have h2 := hx.2; have h3 := ha.1; have h4 := ha.2
  have hlt : x.toNat ^^^ a.toNat < 2 ^ 8 := Nat.xor_lt_two_pow (by omega) (by omega)
  have e : IntKind.wrap .u8 (Int.ofNat (x.toNat ^^^ a.toNat)) = ((x.toNat ^^^ a.toNat : Nat) : Int) := wu8 (by simp) (by simp; omega)
  rw [e]
  refine ⟨⟨by omega, by omega⟩, fun hne hxx => hne ?_⟩
  have h5 : x.toNat ^^^ a.toNat = x.toNat := by omega
  have h6 : x.toNat ^^^ (x.toNat ^^^ a.toNat) = x.toNat ^^^ x.toNat := by rw [h5]
  rw [← Nat.xor_assoc, Nat.xor_self, Nat.zero_xor] at h6
  omega
theorem cut_in (x : Int) {n : Int} (h : 1 ≤ n) : 0 ≤ Sp25.cut x n ∧ Sp25.cut x n < n := ⟨cut_nonneg, cut_lt h⟩

theorem g5_ok (a0 : (List Int)) (a1 : Int) (a2 : Int) (r0 : (Ty.sl (.int .i64)).ok a0) (r1 : IntKind.i64.has a1) (r2 : IntKind.u8.has a2) : g5 a0 a1 a2 = some (true, ()) := by
  have w0 := tape_wf a0
  obtain ⟨hv, hw⟩ := signal_ok w0
  have hb := encode_bytes (Sp25.signal (Sp25.tape a0)).1
  have hl := encode_len hv
  have h99 := len_le hv
  have he := encode_e hv
  have hde := decode_encode hv
  have d1 := fun (k : Nat) (y : Int) => damage1 hv (k := k) (y := y)
  have d2 := fun (k : Nat) => damage2 hv (k := k)
  unfold g5
  rw [on_true w0]
  simp only [Option.bind_some, he, decide_true, Bool.not_true, Bool.not_false, cond_true]
  generalize (Sp25.encode (Sp25.signal (Sp25.tape a0)).1).1 = l at *
  have c20 : ¬ ((l.length : Int) < 20) := by omega
  simp only [c20, decide_false, cond_false, List.nil_append, Nat.zero_add, Int.ofNat_eq_natCast]
  obtain ⟨k1, k2⟩ := cut_in a1 (n := (l.length : Int)) (by omega)
  have e1 : IntKind.wrap .i64 ((l.length : Int) - 1) = (l.length : Int) - 1 := wi64 (by omega) (by omega)
  obtain ⟨j1, j2⟩ := cut_in a1 (n := (l.length : Int) - 1) (by omega)
  generalize Sp25.cut a1 (l.length : Int) = k at *
  simp only [e1]
  generalize Sp25.cut a1 ((l.length : Int) - 1) = j at *
  have e2 : IntKind.wrap .i64 (j + 1) = j + 1 := wi64 (by omega) (by omega)
  simp only [e2]
  have hx := getD_bytes hb k.toNat
  have hy := xor_byte hx (show byte a2 from has_u8 r2)
  have b1 : Nat.ble (l.length * 1) 140737488355328 = true := ble_t (by omega)
  have b2 : Nat.blt k.toNat l.length = true := blt_t (by omega)
  have b3 : Nat.blt j.toNat l.length = true := blt_t (by omega)
  have b4 : Nat.blt (j + 1).toNat l.length = true := blt_t (by omega)
  have c1 : 0 ≤ j + 1 := by omega
  have c2 : j + 1 < (l.length : Int) := by omega
  have c3 : j < (l.length : Int) := by omega
  have first : (bif !decide (a2 = 0) then (bif !decide ((Sp25.decode (l.set k.toNat (IntKind.wrap .u8 (((BitVec.xor (BitVec.ofInt 8 (l.getD k.toNat 0)) (BitVec.ofInt 8 a2)).toNat : Nat) : Int)))).2.1 = 0) then some (!Sp25.sameS (Sp25.decode (l.set k.toNat (IntKind.wrap .u8 (((BitVec.xor (BitVec.ofInt 8 (l.getD k.toNat 0)) (BitVec.ofInt 8 a2)).toNat : Nat) : Int)))).1 (0, 0, 0, 0, 0, 0, 0, 0, 0, [], ()), ()) else some (true, ())) else some (false, ())) = some (false, ()) := by
    by_cases h2 : a2 = 0
    · simp only [h2, decide_true, Bool.not_true, cond_false]
    · obtain ⟨e, q1, q2⟩ := d1 k.toNat _ (by omega) hy.1 (hy.2 h2)
      simp only [Int.ofNat_eq_natCast] at q2
      rw [q2]
      simp only [h2, q1, decide_false, Bool.not_false, cond_true]
      rw [show Sp25.sameS sg0 (0, 0, 0, 0, 0, 0, 0, 0, 0, [], ()) = true from rfl]
      rfl
  have second : (decide (decide ((Sp25.decode ((l.set j.toNat (l.getD (j + 1).toNat 0)).set (j + 1).toNat (l.getD j.toNat 0))).2.1 = 0) = decide (l.getD j.toNat 0 = l.getD (j + 1).toNat 0))) = true := by
    have ej : (j + 1).toNat = j.toNat + 1 := by omega
    rw [ej]
    by_cases h3 : l.getD j.toNat 0 = l.getD (j.toNat + 1) 0
    · rw [no_damage (by omega) h3, hde]
      simp only [h3, decide_true]
    · obtain ⟨e, q1, q2⟩ := d2 j.toNat (by omega) h3
      rw [q2]
      simp only [h3, q1, decide_false, decide_true]
  simp only [b1, b2, b3, b4, c1, c2, c3, k1, k2, j1, List.length_set, decide_true, Bool.and_self, cond_true, first, second, Option.bind_some, cond_false]

theorem loop3a (a2 a3 : Int) (y : Sg × Tp) (hl : 20 ≤ (Sp25.encode y.1).1.length) (h99 : (Sp25.encode y.1).1.length ≤ 1000) : ∃ e, Loop (g3_s0 a2 a3 y) ((0 : Int), (0 : Int), ()) = some e ∧ True := by
  refine Loop_post (fun v : Int × Int × Unit => 0 ≤ v.1 ∧ v.1 ≤ ((Sp25.encode y.1).1.length : Int)) (fun v : Int × Int × Unit => (((Sp25.encode y.1).1.length : Int) - v.1).toNat) _ ?_ (v := (0, 0, ())) ⟨by simp, by simp⟩
  rintro ⟨i, n, ⟨⟩⟩ ⟨k1, k2⟩
  simp only at k1 k2
  unfold g3_s0
  generalize (Sp25.encode y.1).1 = l at *
  have e2 : IntKind.wrap .i64 ((l.length : Int) - 2) = (l.length : Int) - 2 := wi64 (by omega) (by omega)
  have e3 : ((((l.length : Int) - 2).toNat : Nat) : Int) = (l.length : Int) - 2 := Int.toNat_of_nonneg (by omega)
  simp only [List.nil_append, List.length_set, Int.ofNat_eq_natCast, e2, e3]
  by_cases h : i < (l.length : Int) - 2
  · right
    have e1 : IntKind.wrap .i64 (i + 1) = i + 1 := wi64 (by omega) (by omega)
    have b1 : Nat.blt i.toNat l.length = true := blt_t (by omega)
    simp only [h, k1, e1, b1, decide_true, Bool.and_self, cond_true]
    exact ⟨_, rfl, ⟨by simp only; omega, by simp only; omega⟩, by simp only; omega⟩
  · left
    exact ⟨(n, ()), by simp only [h, decide_false, cond_false], trivial⟩
theorem loop3b (raw : List Int) (a2 a3 : Int) (y : Sg × Tp) (n : Int × Unit) (L : List (List Int)) (hL : L.length = 7) : ∃ e, Loop (g3_s1 raw a2 a3 y n) ((0 : Int), L, ()) = some e ∧ e.1 = false := by
  refine Loop_post (fun v : Int × List (List Int) × Unit => 0 ≤ v.1 ∧ v.1 ≤ 7 ∧ v.2.1.length = 7) (fun v : Int × List (List Int) × Unit => (7 - v.1).toNat) _ ?_ (v := (0, L, ())) ⟨by simp, by simp, hL⟩
  rintro ⟨i, M, ⟨⟩⟩ ⟨k1, k2, k3⟩
  simp only at k1 k2 k3
  unfold g3_s1
  simp only [List.length_cons, List.length_nil, Nat.zero_add, Nat.reduceAdd, Int.ofNat_eq_natCast, k3]
  by_cases h : i < ((7 : Nat) : Int)
  · right
    have e1 : IntKind.wrap .i64 (i + 1) = i + 1 := wi64 (by omega) (by omega)
    have b1 : Nat.blt i.toNat 7 = true := blt_t (by omega)
    simp only [h, k1, e1, b1, decide_true, Bool.and_self, cond_true, Bool.not_true, Bool.not_false, sameS_self, Option.bind_some, cond_false]
    exact ⟨_, rfl, ⟨by simp only; omega, by simp only; omega, k3⟩, by simp only; omega⟩
  · left
    exact ⟨(false, (false, ()), ()), by simp only [h, decide_false, cond_false], rfl⟩

theorem g3_ok (a0 : (List Int)) (a1 : (List Int)) (a2 : Int) (a3 : Int) (r0 : (Ty.sl (.int .i64)).ok a0) (r1 : (Ty.sl (.int .u8)).ok a1) (r2 : IntKind.i64.has a2) (r3 : IntKind.u8.has a3) : g3 a0 a1 a2 a3 = some (true, ()) := by
  unfold g3
  by_cases h4 : Int.ofNat a1.length > 400
  · simp only [h4, decide_true, cond_true]
  have h4' : a1.length ≤ 400 := by simp at h4; omega
  have w0 := tape_wf a0
  obtain ⟨hv, hw⟩ := signal_ok w0
  have hl := encode_len hv
  have h99 := len_le hv
  have he := encode_e hv
  rw [on_true w0]
  simp only [h4, Option.bind_some, he, decide_true, decide_false, Bool.not_true, cond_true, cond_false]
  generalize Sp25.signal (Sp25.tape a0) = y at *
  obtain ⟨e3, l3, _⟩ := loop3a a2 a3 y (by omega) (by omega)
  have l4 := fun L hL => loop3b a1 a2 a3 y e3 L hL
  rw [l3]
  generalize hL : (Sp25.encode y.1).1 = l at *
  obtain ⟨k1, k2⟩ := cut_in a2 (n := (l.length : Int)) (by omega)
  have e2 : IntKind.wrap .i64 ((l.length : Int) - 2) = (l.length : Int) - 2 := wi64 (by omega) (by omega)
  have e1 : IntKind.wrap .i64 ((l.length : Int) - 1) = (l.length : Int) - 1 := wi64 (by omega) (by omega)
  obtain ⟨j1, j2⟩ := cut_in a2 (n := (l.length : Int) - 2) (by omega)
  have j3 : Sp25.cut a2 ((l.length : Int) - 2) < (l.length : Int) := by omega
  have k3 : Sp25.cut a2 (l.length : Int) ≤ (l.length : Int) := by omega
  have b1 : Nat.ble (l.length * 1) 140737488355328 = true := ble_t (by omega)
  have b2 : Nat.ble (a1.length * 1) 140737488355328 = true := ble_t (by omega)
  have b3 : Nat.ble ((l.length + a1.length) * 1) 140737488355328 = true := ble_t (by omega)
  have b4 : Nat.ble ((a1.length + l.length) * 1) 140737488355328 = true := ble_t (by omega)
  have b5 : Nat.blt (Sp25.cut a2 (l.length : Int)).toNat l.length = true := blt_t (by omega)
  have b6 : Nat.blt (Sp25.cut a2 ((l.length : Int) - 2)).toNat l.length = true := blt_t (by omega)
  have b7 : Nat.blt ((l.length : Int) - 2).toNat l.length = true := blt_t (by omega)
  have b8 : Nat.blt ((l.length : Int) - 1).toNat l.length = true := blt_t (by omega)
  have c1 : (0 : Int) ≤ (l.length : Int) - 2 := by omega
  have c2 : (0 : Int) ≤ (l.length : Int) - 1 := by omega
  have c3 : (l.length : Int) - 2 < (l.length : Int) := by omega
  have c4 : (l.length : Int) - 1 < (l.length : Int) := by omega
  have c5 : (l.length : Int) - 2 ≤ (l.length : Int) := by omega
  simp only [List.nil_append, List.length_set, Nat.zero_add, Int.ofNat_eq_natCast, e1, e2, k1, k2, k3, j1, j3, b1, b2, b3, b4, b5, b6, b7, b8, c1, c2, c3, c4, c5, decide_true, Bool.and_self, cond_true, Option.bind_some]
  exact fin_loop (l4 _ rfl)

theorem loop6 (a0 a1 a2 a3 a4 a5 a6 a7 a8 : Int) (a9 : List Int) (y1 y2 y3 : Sg × Tp) (L : List (Int × Int × Int × Int × Int × Int × Int × Int × (Int × List Int × Unit) × Unit)) (hL : L.length = 4) :
    ∃ e, Loop (g6_s0 a0 a1 a2 a3 a4 a5 a6 a7 a8 a9 y1 y2 y3) ((0 : Int), L, ()) = some e ∧ e.1 = false := by
  refine Loop_post (fun v : Int × List (Int × Int × Int × Int × Int × Int × Int × Int × (Int × List Int × Unit) × Unit) × Unit => 0 ≤ v.1 ∧ v.1 ≤ 4 ∧ v.2.1.length = 4) (fun v => (4 - v.1).toNat) _ ?_ (v := (0, L, ())) ⟨by simp, by simp, hL⟩
  rintro ⟨i, M, ⟨⟩⟩ ⟨k1, k2, k3⟩
  simp only at k1 k2 k3
  unfold g6_s0
  by_cases h : i < ((4 : Nat) : Int)
  · right
    have e1 : IntKind.wrap .i64 (i + 1) = i + 1 := wi64 (by omega) (by omega)
    have b1 : Nat.blt i.toNat 4 = true := blt_t (by omega)
    generalize M.getD i.toNat (0, 0, 0, 0, 0, 0, 0, 0, (0, [], ()), ()) = X
    generalize ((X.1, X.2.1, X.2.2.1, X.2.2.2.1, X.2.2.2.2.1, X.2.2.2.2.2.1, X.2.2.2.2.2.2.1, X.2.2.2.2.2.2.2.1, X.2.2.2.2.2.2.2.2.1) : Sg) = S
    simp only [List.length_cons, List.length_nil, Nat.zero_add, Nat.reduceAdd, Int.ofNat_eq_natCast, k3, h, k1, e1, b1, decide_true, Bool.and_self, cond_true, beq_self, Bool.not_true, Bool.not_false, Option.bind_some, cond_false]
    exact ⟨_, rfl, ⟨by simp only; omega, by simp only; omega, k3⟩, by simp only; omega⟩
  · left
    exact ⟨(false, (false, ()), ()), by simp only [List.length_cons, List.length_nil, Nat.zero_add, Nat.reduceAdd, Int.ofNat_eq_natCast, h, decide_false, cond_false], rfl⟩

theorem bent_wf {t : Tp} {s : Sg} (h : wf t = true) : wf (Sp25.bent t s).2 = true := by
  unfold Sp25.bent Sp25.bentF
  dsimp only
  have w1 := next_wf (n := 9) h
  generalize Sp25.next t 9 = n at *
  have w2 := next_wf (n := 4) w1
  generalize Sp25.next n.2 4 = m at *
  cases decide (n.1 = 0) with
  | true => simp only [cond_true]; exact range_wf w1
  | false =>
  simp only [cond_false]
  cases decide (n.1 = 1) with
  | true => simp only [cond_true]; exact pick_wf w1
  | false =>
  simp only [cond_false]
  cases decide (n.1 = 2) with
  | true => simp only [cond_true]; exact pick_wf w1
  | false =>
  simp only [cond_false]
  cases decide (n.1 = 3) with
  | true => simp only [cond_true]; exact pick_wf w1
  | false =>
  simp only [cond_false]
  cases decide (n.1 = 4) with
  | true => simp only [cond_true]; exact pick_wf w1
  | false =>
  simp only [cond_false]
  cases decide (n.1 = 5) with
  | true => simp only [cond_true]; exact pick_wf w1
  | false =>
  simp only [cond_false]
  cases decide (n.1 = 6) with
  | true => simp only [cond_true]; exact pick_wf w1
  | false =>
  simp only [cond_false]
  cases decide (n.1 = 7) with
  | true => simp only [cond_true]; exact pick_wf w1
  | false =>
  simp only [cond_false]
  cases decide (m.1 = 0) with
  | true => simp only [cond_true]; exact range_wf w2
  | false =>
  simp only [cond_false]
  cases decide (m.1 = 1) with
  | true => simp only [cond_true]; exact pick_wf w2
  | false =>
  simp only [cond_false]
  cases decide (m.1 = 2) with
  | true => simp only [cond_true]; exact w2
  | false =>
  simp only [cond_false]
  cases decide (0 < (so s).length) with
  | true => simp only [cond_true]; exact pick_wf w2
  | false => simp only [cond_false]; exact w2
theorem bent_len {t : Tp} {s : Sg} : (so (Sp25.bent t s).1).length ≤ (so s).length + 1 := by
  unfold Sp25.bent
  dsimp only
  generalize Sp25.next t 9 = n at *
  cases decide (n.1 = 0) <;> simp only [cond_true, cond_false]
  · cases decide (n.1 = 1) <;> simp only [cond_true, cond_false]
    · cases decide (n.1 = 2) <;> simp only [cond_true, cond_false]
      · cases decide (n.1 = 3) <;> simp only [cond_true, cond_false]
        · cases decide (n.1 = 4) <;> simp only [cond_true, cond_false]
          · cases decide (n.1 = 5) <;> simp only [cond_true, cond_false]
            · cases decide (n.1 = 6) <;> simp only [cond_true, cond_false]
              · cases decide (n.1 = 7) <;> simp only [cond_true, cond_false]
                · unfold Sp25.bentF
                  dsimp only
                  generalize Sp25.next n.2 4 = m at *
                  cases decide (m.1 = 0) <;> simp only [cond_true, cond_false]
                  · cases decide (m.1 = 1) <;> simp only [cond_true, cond_false]
                    · cases decide (m.1 = 2) <;> simp only [cond_true, cond_false]
                      · cases decide (0 < (so s).length) <;> simp only [cond_true, cond_false] <;> simp [so]
                      · cases decide (0 < (so s).length) <;> simp only [cond_true, cond_false] <;> simp [so]
                    · simp [so]
                  · simp [so]
                · exact Nat.le_succ _
              · exact Nat.le_succ _
            · exact Nat.le_succ _
          · exact Nat.le_succ _
        · exact Nat.le_succ _
      · exact Nat.le_succ _
    · exact Nat.le_succ _
  · exact Nat.le_succ _

theorem g6_ok (a0 : (List Int)) (a1 : Int) (a2 : Int) (a3 : Int) (a4 : Int) (a5 : Int) (a6 : Int) (a7 : Int) (a8 : Int) (a9 : Int) (a10 : (List Int)) (r0 : (Ty.sl (.int .i64)).ok a0) (r1 : IntKind.i64.has a1) (r2 : IntKind.i64.has a2) (r3 : IntKind.i64.has a3) (r4 : IntKind.i64.has a4) (r5 : IntKind.i64.has a5) (r6 : IntKind.i64.has a6) (r7 : IntKind.i64.has a7) (r8 : IntKind.i64.has a8) (r9 : IntKind.i64.has a9) (r10 : (Ty.sl (.int .i64)).ok a10) : g6 a0 a1 a2 a3 a4 a5 a6 a7 a8 a9 a10 = some (true, ()) := by
  unfold g6
  by_cases h3 : Int.ofNat a10.length > 300
  · simp only [h3, decide_true, cond_true]
  have w0 := tape_wf a0
  obtain ⟨hv1, w1⟩ := signal_ok w0
  have h1 := len_le hv1
  rw [on_true w0]
  simp only [h3, Option.bind_some, decide_false, cond_false]
  generalize Sp25.signal (Sp25.tape a0) = y1 at *
  have w2 := bent_wf (s := y1.1) w1
  rw [on_true (by rw [w1]; exact decide_eq_true (show (so y1.1).length ≤ 1000000 by omega))]
  simp only [Option.bind_some]
  generalize Sp25.bent y1.2 y1.1 = y2 at *
  obtain ⟨hv3, w3⟩ := signal_ok w2
  have h3' := len_le hv3
  rw [on_true w2]
  simp only [Option.bind_some]
  generalize Sp25.signal y2.2 = y3 at *
  have w4 := bent_wf (s := y3.1) w3
  have l4 := bent_len (t := y3.2) (s := y3.1)
  rw [on_true (by rw [w3]; exact decide_eq_true (show (so y3.1).length ≤ 1000000 by omega))]
  simp only [Option.bind_some]
  generalize Sp25.bent y3.2 y3.1 = y4 at *
  rw [on_true (by rw [w4]; exact decide_eq_true (show (so y4.1).length ≤ 1000000 by omega))]
  simp only [Option.bind_some]
  exact fin_loop (loop6 a1 a2 a3 a4 a5 a6 a7 a8 a9 a10 y1 y2 (Sp25.bent y4.2 y4.1) _ rfl)
end Go.Abs.C25

/- Chapter 25: the laws keep the contract. -/
namespace Go.Abs.C25
open Go Go.Proofs
theorem ok3 : FunOk Tryd.prog B 3 c3 := glue L7 all7 plan3 Tryd.func3 (by kernel_rfl) (by
  rintro ⟨⟨⟩, a0, a1, a2, a3, ⟨⟩⟩ y r h
  exact (g3_eq a0 a1 a2 a3).trans ((g3_ok a0 a1 a2 a3 r.2.1 r.2.2.1 r.2.2.2.1 r.2.2.2.2.1).trans h))

theorem ok4 : FunOk Tryd.prog B 4 c4 := glue L7 all7 plan4 Tryd.func4 (by kernel_rfl) (by
  rintro ⟨⟨⟩, a0, ⟨⟩⟩ y r h
  exact (g4_eq a0).trans ((g4_ok a0 r.2.1).trans h))

theorem ok5 : FunOk Tryd.prog B 5 c5 := glue L7 all7 plan5 Tryd.func5 (by kernel_rfl) (by
  rintro ⟨⟨⟩, a0, a1, a2, ⟨⟩⟩ y r h
  exact (g5_eq a0 a1 a2).trans ((g5_ok a0 a1 a2 r.2.1 r.2.2.1 r.2.2.2.1).trans h))

theorem ok6 : FunOk Tryd.prog B 6 c6 := glue L7 all7 plan6 Tryd.func6 (by kernel_rfl) (by
  rintro ⟨⟨⟩, a0, ⟨a1, a2, a3, a4, a5, a6, a7, a8, a9, a10, ⟨⟩⟩, ⟨⟩⟩ y r h
  exact (g6_eq a0 a1 a2 a3 a4 a5 a6 a7 a8 a9 a10).trans ((g6_ok a0 a1 a2 a3 a4 a5 a6 a7 a8 a9 a10 r.2.1 r.2.2.1.1 r.2.2.1.2.1 r.2.2.1.2.2.1 r.2.2.1.2.2.2.1 r.2.2.1.2.2.2.2.1 r.2.2.1.2.2.2.2.2.1 r.2.2.1.2.2.2.2.2.2.1 r.2.2.1.2.2.2.2.2.2.2.1 r.2.2.1.2.2.2.2.2.2.2.2.1 r.2.2.1.2.2.2.2.2.2.2.2.2.1).trans h))

end Go.Abs.C25
