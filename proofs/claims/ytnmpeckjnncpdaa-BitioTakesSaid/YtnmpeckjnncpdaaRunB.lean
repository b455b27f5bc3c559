/- Chapter 02: proved is that each function that the laws reach keeps its contract; no conditions but those that each theorem states. -/
import Derived.Test.YtnmpeckjnncpdaaRunA
set_option linter.unusedVariables false
set_option linter.unusedSimpArgs false
/- Chapter 02: bits and bytes. -/
namespace Sp02
open Go Go.Abs

theorem on_some {α : Type} {b : Bool} {x y : α} (h : on b x = some y) : b = true ∧ x = y := by
  unfold on at h
  cases b with
  | false => cases h
  | true => exact ⟨rfl, Option.some.inj h⟩
theorem on_true {α : Type} {b : Bool} {x : α} (h : b = true) : on b x = some x := by rw [h]; rfl

def bytesOk (l : List Int) : Prop := ∀ x ∈ l, 0 ≤ x ∧ x < 256

theorem bitOf_testBit {x : Int} (h : 0 ≤ x) (j : Nat) : bitOf x j = x.toNat.testBit j := by
  unfold bitOf
  rw [Nat.testBit_eq_decide_div_mod_eq, ← toNat_div_pow h]
  have h2 : 0 ≤ x / 2 ^ j := Int.ediv_nonneg h (Int.le_of_lt (pow2_pos j))
  congr 1
  apply propext
  omega
theorem bitOf_zero (j : Nat) : bitOf 0 j = false := by rw [bitOf_testBit (by omega)]; simp

theorem byte_self : ∀ n : Fin 256, n.val = byteOf (fun j => n.val.testBit (7 - j)) := by decide +kernel
theorem ext_byte {x y : Int} (hx : 0 ≤ x ∧ x < 256) (hy : 0 ≤ y ∧ y < 256) (h : ∀ j, j < 8 → bitOf x j = bitOf y j) : x = y := by
  have k : ∀ j, j < 8 → x.toNat.testBit j = y.toNat.testBit j := fun j hj => by
    rw [← bitOf_testBit hx.1, ← bitOf_testBit hy.1]; exact h j hj
  have e1 := byte_self ⟨x.toNat, by omega⟩
  have e2 := byte_self ⟨y.toNat, by omega⟩
  simp only at e1 e2
  have : x.toNat = y.toNat := by
    rw [e1, e2]
    simp only [byteOf, k 0 (by omega), k 1 (by omega), k 2 (by omega), k 3 (by omega), k 4 (by omega), k 5 (by omega), k 6 (by omega), k 7 (by omega), Nat.sub_self, Nat.sub_zero, Nat.reduceSub]
  omega
theorem byteOf_lt (f : Nat → Bool) : byteOf f < 256 := by
  unfold byteOf
  have (b : Bool) : b.toNat ≤ 1 := by cases b <;> decide
  have h0 := this (f 0); have h1 := this (f 1); have h2 := this (f 2); have h3 := this (f 3)
  have h4 := this (f 4); have h5 := this (f 5); have h6 := this (f 6); have h7 := this (f 7)
  omega
theorem bitOf_byteOf (f : Nat → Bool) (j : Nat) (h : j < 8) : bitOf (byteOf f : Nat) (7 - j) = f j := by
  rw [bitOf_testBit (by omega)]
  have key : ∀ b0 b1 b2 b3 b4 b5 b6 b7 : Bool, ∀ j : Fin 8, (b0.toNat * 128 + b1.toNat * 64 + b2.toNat * 32 + b3.toNat * 16 + b4.toNat * 8 + b5.toNat * 4 + b6.toNat * 2 + b7.toNat).testBit (7 - j.val) =
    (match j with | 0 => b0 | 1 => b1 | 2 => b2 | 3 => b3 | 4 => b4 | 5 => b5 | 6 => b6 | 7 => b7) := by decide +kernel
  have := key (f 0) (f 1) (f 2) (f 3) (f 4) (f 5) (f 6) (f 7) ⟨j, h⟩
  rw [show ((byteOf f : Nat) : Int).toNat = byteOf f from rfl]
  unfold byteOf
  rw [this]
  match j, h with
  | 0, _ => rfl
  | 1, _ => rfl
  | 2, _ => rfl
  | 3, _ => rfl
  | 4, _ => rfl
  | 5, _ => rfl
  | 6, _ => rfl
  | 7, _ => rfl

theorem bitAt_ge {l : List Int} {i : Nat} (h : 8 * l.length ≤ i) : bitAt l i = false := by
  unfold bitAt
  rw [getD_ge (by omega), bitOf_zero]
theorem bitAt_app0 (l : List Int) (i : Nat) : bitAt (l ++ [0]) i = bitAt l i := by
  unfold bitAt
  rw [getD_append0]
theorem bitAt_set {l : List Int} {k : Nat} {v : Int} (h : k < l.length) (i : Nat) : bitAt (l.set k v) i = if k = i / 8 then bitOf v (7 - i % 8) else bitAt l i := by
  unfold bitAt
  rw [getD_set h]
  split <;> rfl
theorem list_ext {l l' : List Int} (hl : l.length = l'.length) (h1 : bytesOk l) (h2 : bytesOk l') (h : ∀ i, i < 8 * l.length → bitAt l i = bitAt l' i) : l = l' := by
  refine List.ext_getElem hl fun i hi hi' => ?_
  refine ext_byte (h1 _ (List.getElem_mem hi)) (h2 _ (List.getElem_mem hi')) fun j hj => ?_
  have := h (8 * i + (7 - j)) (by omega)
  unfold bitAt at this
  have e1 : (8 * i + (7 - j)) / 8 = i := by omega
  have e2 : 7 - (8 * i + (7 - j)) % 8 = j := by omega
  rw [e1, e2] at this
  simpa [List.getD_eq_getElem?_getD, hi, hi'] using this

theorem pack_length (bs : List Bool) : (pack bs).length = (bs.length + 7) / 8 := by simp [pack]
theorem pack_ok (bs : List Bool) : bytesOk (pack bs) := by
  intro x hx
  simp only [pack, List.mem_map] at hx
  obtain ⟨i, _, rfl⟩ := hx
  have := byteOf_lt (fun j => bs.getD (8 * i + j) false)
  omega
theorem bitAt_pack (bs : List Bool) (i : Nat) : bitAt (pack bs) i = bs.getD i false := by
  by_cases h : i / 8 < (bs.length + 7) / 8
  · unfold bitAt
    have : (pack bs).getD (i / 8) 0 = (byteOf fun j => bs.getD (8 * (i / 8) + j) false : Nat) := by
      simp [pack, List.getD_eq_getElem?_getD, List.getElem?_map, List.getElem?_range h]
    rw [this, bitOf_byteOf _ _ (by omega)]
    congr 1
    omega
  · rw [bitAt_ge (by rw [pack_length]; omega), getD_ge (by omega)]

theorem bitsR_length (l : List Int) (i n : Nat) : (bitsR l i n).length = n := by simp [bitsR]
theorem bitsR_getD (l : List Int) (i n j : Nat) : (bitsR l i n).getD j false = if j < n then bitAt l (i + j) else false := by
  by_cases h : j < n
  · simp [bitsR, List.getD_eq_getElem?_getD, h]
  · rw [getD_ge (by rw [bitsR_length]; omega)]; simp [h]
theorem bits_length (s : S) : (bits s).length = s.2.1.toNat := bitsR_length ..
theorem bits_getD (s : S) (j : Nat) : (bits s).getD j false = if j < s.2.1.toNat then bitAt s.1 j else false := by
  unfold bits
  rw [bitsR_getD, Nat.zero_add]
theorem getD_append {α : Type} (a b : List α) (i : Nat) (d : α) : (a ++ b).getD i d = if i < a.length then a.getD i d else b.getD (i - a.length) d := by
  simp only [List.getD_eq_getElem?_getD]
  split
  · rw [List.getElem?_append_left (by assumption)]
  · rw [List.getElem?_append_right (by omega)]
theorem vbits_length (v n : Nat) : (vbits v n).length = n := by simp [vbits]
theorem vbits_getD (v n i : Nat) : (vbits v n).getD i false = if i < n then v.testBit (n - 1 - i) else false := by
  by_cases h : i < n
  · simp [vbits, List.getD_eq_getElem?_getD, h]
  · rw [getD_ge (by rw [vbits_length]; omega)]; simp [h]
theorem bools_ext {a b : List Bool} (h : a.length = b.length) (k : ∀ i, i < a.length → a.getD i false = b.getD i false) : a = b := by
  refine List.ext_getElem h fun i hi hi' => ?_
  have := k i hi
  simpa [List.getD_eq_getElem?_getD, hi, hi'] using this
theorem bits_enc (bs : List Bool) : bits (enc bs) = bs := by
  refine bools_ext (by rw [bits_length]; rfl) fun i hi => ?_
  rw [bits_length] at hi
  rw [bits_getD, if_pos hi]
  exact bitAt_pack bs i

theorem tail_iff {l : List Int} {n : Nat} (h : 8 * l.length < n + 8) : tail l n = true ↔ ∀ i, n ≤ i → bitAt l i = false := by
  simp only [tail, List.all_eq_true, List.mem_range, Bool.or_eq_true, decide_eq_true_eq, Bool.not_eq_true']
  constructor
  · intro k i hi
    by_cases h8 : 8 * l.length ≤ i
    · exact bitAt_ge h8
    · rcases k (i - n) (by omega) with k | k
      · omega
      · rwa [show n + (i - n) = i by omega] at k
  · intro k j _
    exact .inr (k _ (by omega))
theorem shape_iff {s : S} : shape s = true ↔ 0 ≤ s.2.1 ∧ s.2.1 ≤ 8192 ∧ (s.1.length : Int) = (s.2.1 + 7) / 8 := by
  simp [shape, and_assoc]
theorem valid_iff {s : S} : valid s = true ↔ 0 ≤ s.2.1 ∧ s.2.1 ≤ 8192 ∧ (s.1.length : Int) = (s.2.1 + 7) / 8 ∧ ∀ i, s.2.1.toNat ≤ i → bitAt s.1 i = false := by
  unfold valid
  rw [Bool.and_eq_true, shape_iff]
  constructor
  · rintro ⟨⟨h1, h2, h3⟩, h4⟩
    exact ⟨h1, h2, h3, (tail_iff (by omega)).1 h4⟩
  · rintro ⟨h1, h2, h3, h4⟩
    exact ⟨⟨h1, h2, h3⟩, (tail_iff (by omega)).2 h4⟩
theorem valid_enc {bs : List Bool} (h : bs.length ≤ 8192) : valid (enc bs) = true := by
  refine valid_iff.2 ⟨by simp [enc], by simp [enc]; omega, by simp [enc, pack_length], fun i hi => ?_⟩
  show bitAt (pack bs) i = false
  rw [bitAt_pack, getD_ge (by simpa [enc] using hi)]
/-- A valid stream is what its bits make. -/
theorem eq_enc {l : List Int} {n : Int} {bs : List Bool} (h1 : bytesOk l) (hn : n = bs.length) (hl : (l.length : Int) = (n + 7) / 8) (hb : ∀ i, i < 8 * l.length → bitAt l i = bs.getD i false) : ((l, n, ()) : S) = enc bs := by
  have : l = pack bs := list_ext (by rw [pack_length]; omega) h1 (pack_ok bs) fun i hi => by rw [bitAt_pack]; exact hb i hi
  unfold enc
  rw [this, hn]
theorem enc_bits {s : S} (h : valid s = true) (hb : bytesOk s.1) : enc (bits s) = s := by
  obtain ⟨l, n, ⟨⟩⟩ := s
  obtain ⟨h1, h2, h3, h4⟩ := valid_iff.1 h
  simp only at h1 h2 h3 h4 hb
  refine (eq_enc hb (by rw [bits_length]; simp only; omega) h3 fun i _ => ?_).symm
  rw [bits_getD]
  split
  · rfl
  · rename_i k; exact h4 i (by simp only at k; omega)
theorem enc_ok (bs : List Bool) : bytesOk (enc bs).1 := pack_ok bs
theorem bytesOk_app {l m : List Int} (h : bytesOk l) (h2 : bytesOk m) : bytesOk (l ++ m) := fun x hx => by
  rcases List.mem_append.1 hx with k | k
  · exact h x k
  · exact h2 x k
theorem bytesOk_one {x : Int} (h : 0 ≤ x ∧ x < 256) : bytesOk [x] := fun y hy => by
  simp only [List.mem_singleton] at hy; subst hy; exact h
theorem bytesOk_set {l : List Int} (h : bytesOk l) {i : Nat} {x : Int} (hx : 0 ≤ x ∧ x < 256) : bytesOk (l.set i x) := fun y hy => by
  rcases List.mem_or_eq_of_mem_set hy with k | k
  · exact h y k
  · subst k; exact hx
theorem bytesOk_getD {l : List Int} (h : bytesOk l) (i : Nat) : 0 ≤ l.getD i 0 ∧ l.getD i 0 < 256 := by
  by_cases hi : i < l.length
  · exact h _ (getD_mem hi)
  · rw [getD_ge (by omega)]; omega

/-! Numbers and their bits. -/
theorem valOf_snoc (bs : List Bool) (b : Bool) : valOf (bs ++ [b]) = 2 * valOf bs + b.toNat := by simp [valOf]
theorem valOf_lt (bs : List Bool) : valOf bs < 2 ^ bs.length := by
  suffices h : ∀ n (bs : List Bool), bs.length = n → valOf bs < 2 ^ n from h _ bs rfl
  intro n
  induction n with
  | zero => intro bs h; rw [List.length_eq_zero_iff.1 h]; decide
  | succ n ih =>
    intro bs h
    obtain ⟨l, b, rfl⟩ : ∃ l b, bs = l ++ [b] := by
      have hne : bs ≠ [] := by intro k; subst k; simp at h
      exact ⟨bs.dropLast, bs.getLast hne, (List.dropLast_concat_getLast hne).symm⟩
    rw [valOf_snoc]
    have := ih l (by simpa using h)
    have hb : b.toNat ≤ 1 := by cases b <;> decide
    rw [Nat.pow_succ]; omega
theorem vbits_snoc (v n : Nat) : vbits v (n + 1) = vbits (v / 2) n ++ [v.testBit 0] := by
  refine bools_ext (by simp [vbits_length]) fun i hi => ?_
  rw [vbits_length] at hi
  rw [vbits_getD, if_pos hi, getD_append, vbits_length]
  split
  · rename_i k
    rw [vbits_getD, if_pos k, Nat.testBit_div_two]
    congr 1; omega
  · have : i = n := by omega
    subst this
    simp
theorem vbits_valOf (bs : List Bool) : vbits (valOf bs) bs.length = bs := by
  suffices h : ∀ n (bs : List Bool), bs.length = n → vbits (valOf bs) n = bs from h _ bs rfl
  intro n
  induction n with
  | zero => intro bs h; rw [List.length_eq_zero_iff.1 h]; rfl
  | succ n ih =>
    intro bs h
    obtain ⟨l, b, rfl⟩ : ∃ l b, bs = l ++ [b] := by
      have hne : bs ≠ [] := by intro k; subst k; simp at h
      exact ⟨bs.dropLast, bs.getLast hne, (List.dropLast_concat_getLast hne).symm⟩
    rw [vbits_snoc, valOf_snoc]
    have e1 : (2 * valOf l + b.toNat) / 2 = valOf l := by cases b <;> simp <;> omega
    have e2 : (2 * valOf l + b.toNat).testBit 0 = b := by cases b <;> simp [Nat.testBit_zero]
    rw [e1, e2, ih l (by simpa using h)]
theorem valOf_vbits (v n : Nat) (h : v < 2 ^ n) : valOf (vbits v n) = v := by
  induction n generalizing v with
  | zero => have : v = 0 := by simpa using h
            subst this; rfl
  | succ n ih =>
    rw [vbits_snoc, valOf_snoc, ih (v / 2) (by rw [Nat.pow_succ] at h; omega), Nat.testBit_zero]
    by_cases hv : v % 2 = 1 <;> simp [hv] <;> omega
theorem bitsR_snoc (l : List Int) (i n : Nat) : bitsR l i (n + 1) = bitsR l i n ++ [bitAt l (i + n)] := by
  simp [bitsR, List.range_succ]
theorem bitsR_add (l : List Int) (i n m : Nat) : bitsR l i (n + m) = bitsR l i n ++ bitsR l (i + n) m := by
  simp [bitsR, List.range_add, Nat.add_assoc]
theorem vbits_split {v n k : Nat} (h : k ≤ n) : vbits v n = (vbits v n).take k ++ vbits v (n - k) := by
  refine bools_ext (by simp [vbits_length]; omega) fun i hi => ?_
  rw [vbits_length] at hi
  rw [vbits_getD, if_pos hi, getD_append]
  simp only [List.length_take, vbits_length]
  rw [Nat.min_eq_left h]
  split
  · rename_i hk
    simp [List.getD_eq_getElem?_getD, List.getElem?_take, hk]
    have := vbits_getD v n i
    rw [if_pos hi, List.getD_eq_getElem?_getD] at this
    exact this.symm
  · rw [vbits_getD, if_pos (by omega)]
    congr 1; omega
end Sp02

/- Chapter 02: the functions keep their contracts: bytes, bits, the tape. -/
namespace Go.Abs.C02
open Go Go.Proofs Sp02

abbrev B : Env := mkE tab gl 0 false []
theorem glue {f : Nat} {fn : Func} {n : Nat} {hp : Bool} {md : List (Nat × Nat)} (L : List (Nat × Con)) (hL : ∀ g con, lookC L g = some con → FunOk Try.prog B g con) (plan : Plan) {c : Con}
    (hf : Try.prog.funcs[f]? = some fn) (hck : fnCheck (mkE tab gl n hp md) fn c = true)
    (hF : ∀ x y, (Ty.cons (lfTy c.pre) (shTy c.ps)).ok x → c.F x = some y → (evF (fun _ _ => Loop) (mkE tab gl n hp md) (lookC L) fn plan c x).den = some y) : FunOk Try.prog B f c :=
  FunOk.env (E := mkE tab gl n hp md) rfl (fun_ok (pok n hp md) mix (fun g con h => FunOk.env (E := B) rfl (hL g con h)) plan hf hck hF)

theorem dat {l : List Int} (h : (Ty.sl (.int .u8)).ok l) : l.length ≤ 140737488355328 ∧ bytesOk l := by
  obtain ⟨h1, h2⟩ := h
  have h1 : l.length * 1 ≤ 140737488355328 := h1
  exact ⟨by omega, fun x hx => has_u8 (h2 x hx)⟩

theorem g38_ok (a0 : Int) (r0 : IntKind.i64.has a0) (h : (decide (0 ≤ a0) && decide (a0 ≤ 1099511627776)) = true) : g38 a0 = some ((a0 + 7) / 8, ()) := by
  simp only [Bool.and_eq_true, decide_eq_true_eq] at h
  have e1 : IntKind.wrap .i64 (a0 + 7) = a0 + 7 := wi64 (by omega) (by omega)
  have e2 : Int.tdiv (a0 + 7) 8 = (a0 + 7) / 8 := tdiv_nn (by omega)
  have e3 : IntKind.wrap .i64 ((a0 + 7) / 8) = (a0 + 7) / 8 := wi64 (by omega) (by omega)
  unfold g38
  rw [e1, e2, e3]

theorem and_bit {w : Nat} (hw : 8 ≤ w) {x : Int} (h1 : 0 ≤ x) (h2 : x < 256) (m : Nat) : (BitVec.and (BitVec.ofInt w (x / 2 ^ m)) (BitVec.ofInt w 1)).toNat = (b2i (bitOf x m)).toNat := by
  have k1 : 0 ≤ x / 2 ^ m := Int.ediv_nonneg h1 (Int.le_of_lt (pow2_pos m))
  have k2 : x / 2 ^ m ≤ x := Int.ediv_le_self _ h1
  have k3 : (256 : Int) ≤ 2 ^ w := by
    rw [pow_cast]
    have := Nat.pow_le_pow_right (show 0 < 2 by omega) hw
    omega
  rw [bvand k1 (by omega) (by omega) (by omega), show Int.toNat 1 = 1 from rfl, Nat.and_one_is_mod]
  unfold bitOf b2i
  have : (x / 2 ^ m) % 2 = 0 ∨ (x / 2 ^ m) % 2 = 1 := by omega
  rcases this with k | k
  · simp only [k]
    have : (x / 2 ^ m).toNat % 2 = 0 := by omega
    rw [this]; rfl
  · simp only [k]
    have : (x / 2 ^ m).toNat % 2 = 1 := by omega
    rw [this]; rfl
theorem b2i_u64 (b : Bool) : IntKind.wrap .u64 (((b2i b).toNat : Nat) : Int) = b2i b := by cases b <;> decide
theorem b2i_u8 (b : Bool) : IntKind.wrap .u8 (((b2i b).toNat : Nat) : Int) = (((b2i b).toNat : Nat) : Int) := by cases b <;> decide
theorem b2i_bound (b : Bool) : 0 ≤ b2i b ∧ b2i b ≤ 1 := by cases b <;> decide

theorem g39_ok (a0 : (List Int)) (a1 : Int) (r0 : (Ty.sl (.int .u8)).ok a0) (r1 : IntKind.i64.has a1) (h : (decide (0 ≤ a1) && decide (a1 < 8 * (a0.length : Int))) = true) : g39 a0 a1 = some (Sp02.b2i (Sp02.bitAt a0 a1.toNat), ()) := by
  simp only [Bool.and_eq_true, decide_eq_true_eq] at h
  obtain ⟨hl, hb⟩ := dat r0
  have e1 : Int.tdiv a1 8 = a1 / 8 := tdiv_nn h.1
  have e2 : Int.tmod a1 8 = a1 % 8 := tmod_nn h.1
  have e3 : IntKind.wrap .i64 (a1 / 8) = a1 / 8 := wi64 (by omega) (by omega)
  have e4 : IntKind.wrap .i64 (7 - a1 % 8) = 7 - a1 % 8 := wi64 (by omega) (by omega)
  have e5 : IntKind.wrap .u64 (7 - a1 % 8) = 7 - a1 % 8 := wu64 (by omega) (by omega)
  have e6 : min (7 - a1 % 8).toNat 8 = (7 - a1 % 8).toNat := by omega
  have hx := bytesOk_getD hb (a1 / 8).toNat
  have k2 : a0.getD (a1 / 8).toNat 0 / 2 ^ (7 - a1 % 8).toNat ≤ a0.getD (a1 / 8).toNat 0 := Int.ediv_le_self _ hx.1
  have k1 : 0 ≤ a0.getD (a1 / 8).toNat 0 / 2 ^ (7 - a1 % 8).toNat := Int.ediv_nonneg hx.1 (Int.le_of_lt (pow2_pos _))
  have e7 : IntKind.wrap .u64 (a0.getD (a1 / 8).toNat 0 / 2 ^ (7 - a1 % 8).toNat) = a0.getD (a1 / 8).toNat 0 / 2 ^ (7 - a1 % 8).toNat := wu64 k1 (by omega)
  have e8 := and_bit (w := 64) (by omega) hx.1 hx.2 (7 - a1 % 8).toNat
  have c1 : (0 : Int) ≤ a1 / 8 := by omega
  have c2 : a1 / 8 < (a0.length : Int) := by omega
  have c3 : (0 : Int) ≤ 7 - a1 % 8 := by omega
  unfold g39
  simp only [e1, e2, e3, e4, e5, e6, pow2, fdiv_pow, e7, e8, b2i_u64, c1, c2, c3, decide_true, cond_true, Bool.and_self, Int.ofNat_eq_natCast]
  unfold bitAt
  rw [show (a1 / 8).toNat = a1.toNat / 8 by omega, show (7 - a1 % 8).toNat = 7 - a1.toNat % 8 by omega]

theorem g43_ok (a0 : (List Int)) (a1 : Int) (a2 : Int) (r0 : (Ty.sl (.int .u8)).ok a0) (r1 : IntKind.i64.has a1) (r2 : IntKind.i64.has a2) (h : (decide (0 ≤ a2) && decide (a2 < 8 * (a0.length : Int))) = true) : g43 a0 a1 a2 = some (Sp02.b2i (Sp02.bitAt a0 a2.toNat), ()) := by
  simp only [Bool.and_eq_true, decide_eq_true_eq] at h
  obtain ⟨hl, hb⟩ := dat r0
  have e1 : Int.tdiv a2 8 = a2 / 8 := tdiv_nn h.1
  have e2 : Int.tmod a2 8 = a2 % 8 := tmod_nn h.1
  have e3 : IntKind.wrap .i64 (a2 / 8) = a2 / 8 := wi64 (by omega) (by omega)
  have e4 : IntKind.wrap .i64 (7 - a2 % 8) = 7 - a2 % 8 := wi64 (by omega) (by omega)
  have e6 : min (7 - a2 % 8).toNat 8 = (7 - a2 % 8).toNat := by omega
  have hx := bytesOk_getD hb (a2 / 8).toNat
  have e8 := and_bit (w := 8) (by omega) hx.1 hx.2 (7 - a2 % 8).toNat
  have c1 : (0 : Int) ≤ a2 / 8 := by omega
  have c2 : a2 / 8 < (a0.length : Int) := by omega
  have c3 : (0 : Int) ≤ 7 - a2 % 8 := by omega
  unfold g43
  simp only [e1, e2, e3, e4, e6, pow2, fdiv_pow, e8, b2i_u8, b2i_u64, c1, c2, c3, decide_true, cond_true, Bool.and_self, Int.ofNat_eq_natCast]
  unfold bitAt
  rw [show (a2 / 8).toNat = a2.toNat / 8 by omega, show (7 - a2 % 8).toNat = 7 - a2.toNat % 8 by omega]
end Go.Abs.C02

/- Chapter 02: the functions keep their contracts: valid streams, writing, reading. -/
namespace Go.Abs.C02
open Go Go.Proofs Sp02

theorem iediv (a b : Int) : Int.ediv a b = a / b := rfl
theorem valid_neg {l : List Int} {n : Int} (h : n < 0 ∨ 8192 < n ∨ (l.length : Int) ≠ (n + 7) / 8) : valid (l, n, ()) = false := by
  rw [Bool.eq_false_iff]
  intro k
  obtain ⟨h1, h2, h3, _⟩ := valid_iff.1 k
  simp only at h1 h2 h3
  omega
theorem shl_zero : ∀ x : Fin 256, ∀ f : Fin 8, 0 < f.val → ((x.val * 2 ^ (8 - f.val)) % 256 = 0 ↔ ∀ j : Fin 8, j.val < f.val → x.val.testBit j.val = false) := by decide +kernel
theorem tail_last {l : List Int} {n : Nat} (h1 : n ≤ 8 * l.length) (h2 : 8 * l.length < n + 8) : (∀ i, n ≤ i → bitAt l i = false) ↔ ∀ j, j < 8 * l.length - n → bitOf (l.getD (l.length - 1) 0) j = false := by
  constructor
  · intro k j hj
    have := k (8 * (l.length - 1) + (7 - j)) (by omega)
    unfold bitAt at this
    rwa [show (8 * (l.length - 1) + (7 - j)) / 8 = l.length - 1 by omega, show 7 - (8 * (l.length - 1) + (7 - j)) % 8 = j by omega] at this
  · intro k i hi
    by_cases h8 : 8 * l.length ≤ i
    · exact bitAt_ge h8
    · have := k (7 - i % 8) (by omega)
      unfold bitAt
      rwa [show i / 8 = l.length - 1 by omega]

theorem g13_ok (a0 : (List Int)) (a1 : Int) (r0 : (Ty.sl (.int .u8)).ok a0) (r1 : IntKind.i64.has a1) : g13 a0 a1 = some (Sp02.valid (a0, a1, ()), ()) := by
  obtain ⟨hl, hb⟩ := dat r0
  unfold g13
  by_cases h1 : a1 < 0
  · simp [h1, valid_neg (l := a0) (.inl h1)]
  by_cases h2 : 8192 < a1
  · simp [h1, h2, valid_neg (l := a0) (.inr (.inl h2)), GT.gt]
  have e0 : on (decide (0 ≤ a1) && decide (a1 ≤ 1099511627776)) (Int.ediv (a1 + 7) 8, ()) = some ((a1 + 7) / 8, ()) := on_true (by simp; omega)
  simp only [GT.gt, h1, h2, decide_false, decide_true, Bool.not_false, cond_true, e0, Option.bind_some, Int.ofNat_eq_natCast]
  by_cases h3 : (a0.length : Int) = (a1 + 7) / 8
  · simp only [h3, decide_true, Bool.not_true, cond_false]
    have e1 : IntKind.wrap .i64 (8 * ((a1 + 7) / 8)) = 8 * (a0.length : Int) := by rw [← h3]; exact wi64 (by omega) (by omega)
    have e2 : IntKind.wrap .i64 (8 * (a0.length : Int) - a1) = 8 * (a0.length : Int) - a1 := wi64 (by omega) (by omega)
    have hv : valid (a0, a1, ()) = true ↔ ∀ i, a1.toNat ≤ i → bitAt a0 i = false := by
      rw [valid_iff]
      exact ⟨fun k => k.2.2.2, fun k => ⟨by simp only; omega, by simp only; omega, h3, k⟩⟩
    simp only [e1, e2]
    by_cases h4 : 8 * (a0.length : Int) - a1 = 0
    · have : valid (a0, a1, ()) = true := hv.2 fun i hi => bitAt_ge (by omega)
      simp [h4, this]
    · have e3 : IntKind.wrap .i64 ((a1 + 7) / 8 - 1) = (a0.length : Int) - 1 := by rw [← h3]; exact wi64 (by omega) (by omega)
      have e4 : IntKind.wrap .i64 (8 - (8 * (a0.length : Int) - a1)) = 8 - (8 * (a0.length : Int) - a1) := wi64 (by omega) (by omega)
      have c1 : (0 : Int) ≤ (a0.length : Int) - 1 := by omega
      have c2 : (a0.length : Int) - 1 < (a1 + 7) / 8 := by omega
      have c3 : (0 : Int) ≤ 8 - (8 * (a0.length : Int) - a1) := by omega
      have e5 : min (8 - (8 * (a0.length : Int) - a1)).toNat 8 = 8 - (8 * a0.length - a1.toNat) := by omega
      simp only [h4, decide_false, Bool.not_false, cond_true, e3, e4, c1, c2, c3, decide_true, Bool.and_self, e5, pow2, wu8m, Option.bind_some]
      congr 2
      rw [tail_last (by omega) (by omega)] at hv
      have hx := bytesOk_getD hb (a0.length - 1)
      have key := shl_zero ⟨(a0.getD (a0.length - 1) 0).toNat, by omega⟩ ⟨8 * a0.length - a1.toNat, by omega⟩ (by simp only; omega)
      simp only at key
      have e6 : ((a0.length : Int) - 1).toNat = a0.length - 1 := by omega
      rw [e6]
      have e7 : (a0.getD (a0.length - 1) 0 * 2 ^ (8 - (8 * a0.length - a1.toNat)) % 256 = 0) ↔ ((a0.getD (a0.length - 1) 0).toNat * 2 ^ (8 - (8 * a0.length - a1.toNat)) % 256 = 0) := by
        rw [← toNat_mul_pow hx.1]
        have : 0 ≤ a0.getD (a0.length - 1) 0 * 2 ^ (8 - (8 * a0.length - a1.toNat)) := Int.mul_nonneg hx.1 (Int.le_of_lt (pow2_pos _))
        omega
      have : (a0.getD (a0.length - 1) 0 * 2 ^ (8 - (8 * a0.length - a1.toNat)) % 256 = 0) ↔ valid (a0, a1, ()) = true := by
        rw [e7, key, hv]
        constructor
        · intro k j hj
          rw [bitOf_testBit hx.1]
          exact k ⟨j, by omega⟩ hj
        · intro k j hj
          rw [← bitOf_testBit hx.1]
          exact k j.val hj
      by_cases hvv : valid (a0, a1, ()) = true
      · rw [hvv]; exact decide_eq_true (this.2 hvv)
      · rw [Bool.not_eq_true] at hvv
        rw [hvv]; exact decide_eq_false fun k => by rw [this.1 k] at hvv; cases hvv
  · simp [h3, valid_neg (l := a0) (.inr (.inr h3))]

open Classical in
theorem g14_loop (a0 : List Int) (a1 : Int) (h1 : 0 ≤ a1) (h2 : a1 ≤ 8 * (a0.length : Int)) (hl : a0.length ≤ 140737488355328) :
    Loop (g14_s0 a0) (a1, ()) = some (if ∀ k, a1.toNat ≤ k → bitAt a0 k = false then (false, (false, ()), ()) else (true, (false, ()), ())) := by
  refine Loop_inv (fun v : Int × Unit => 0 ≤ v.1 ∧ v.1 ≤ 8 * (a0.length : Int)) (fun v : Int × Unit => (8 * (a0.length : Int) - v.1).toNat)
    (fun v : Int × Unit => if ∀ k, v.1.toNat ≤ k → bitAt a0 k = false then (false, (false, ()), ()) else (true, (false, ()), ())) ?_ (v := (a1, ())) ⟨h1, h2⟩
  rintro ⟨i, ⟨⟩⟩ ⟨k1, k2⟩
  simp only at k1 k2
  have e1 : IntKind.wrap .i64 (8 * (a0.length : Int)) = 8 * (a0.length : Int) := wi64 (by omega) (by omega)
  have e2 : IntKind.wrap .i64 (i + 1) = i + 1 := wi64 (by omega) (by omega)
  unfold g14_s0
  simp only [Int.ofNat_eq_natCast, e1, e2]
  by_cases h3 : i < 8 * (a0.length : Int)
  · have e0 : on (decide (0 ≤ i) && decide (i < 8 * (a0.length : Int))) (b2i (bitAt a0 i.toNat), ()) = some (b2i (bitAt a0 i.toNat), ()) := on_true (by simp [k1, h3])
    simp only [h3, k1, decide_true, cond_true, Bool.and_self, on_true, Option.bind_some]
    cases hbit : bitAt a0 i.toNat with
    | true =>
      left
      have : ¬ ∀ k, i.toNat ≤ k → bitAt a0 k = false := fun k => by rw [k i.toNat (Nat.le_refl _)] at hbit; cases hbit
      rw [if_neg this]
      rfl
    | false =>
      right
      refine ⟨(i + 1, ()), rfl, ⟨by simp only; omega, by simp only; omega⟩, by simp only; omega, ?_⟩
      have : (∀ k, (i + 1).toNat ≤ k → bitAt a0 k = false) ↔ (∀ k, i.toNat ≤ k → bitAt a0 k = false) := by
        constructor
        · intro k j hj
          by_cases h : j = i.toNat
          · subst h; exact hbit
          · exact k j (by omega)
        · intro k j hj; exact k j (by omega)
      simp only [this]
  · left
    have : ∀ k, i.toNat ≤ k → bitAt a0 k = false := fun k hk => bitAt_ge (by omega)
    simp only [h3, decide_false, cond_false, if_pos this]

theorem g14_ok (a0 : (List Int)) (a1 : Int) (r0 : (Ty.sl (.int .u8)).ok a0) (r1 : IntKind.i64.has a1) : g14 a0 a1 = some (Sp02.valid (a0, a1, ()), ()) := by
  obtain ⟨hl, hb⟩ := dat r0
  unfold g14
  by_cases h1 : a1 < 0
  · simp [h1, valid_neg (l := a0) (.inl h1)]
  by_cases h2 : 8192 < a1
  · simp [h1, h2, valid_neg (l := a0) (.inr (.inl h2)), GT.gt]
  have e1 : IntKind.wrap .i64 (a1 + 7) = a1 + 7 := wi64 (by omega) (by omega)
  have e2 : Int.tdiv (a1 + 7) 8 = (a1 + 7) / 8 := tdiv_nn (by omega)
  have e3 : IntKind.wrap .i64 ((a1 + 7) / 8) = (a1 + 7) / 8 := wi64 (by omega) (by omega)
  simp only [GT.gt, h1, h2, decide_false, Bool.not_false, cond_true, e1, e2, e3, Option.bind_some, Int.ofNat_eq_natCast]
  by_cases h3 : (a0.length : Int) = (a1 + 7) / 8
  · have hv : valid (a0, a1, ()) = true ↔ ∀ i, a1.toNat ≤ i → bitAt a0 i = false := by
      rw [valid_iff]
      exact ⟨fun k => k.2.2.2, fun k => ⟨by simp only; omega, by simp only; omega, h3, k⟩⟩
    rw [g14_loop a0 a1 (by omega) (by omega) hl]
    simp only [h3, decide_true, Bool.not_true, cond_false, Option.bind_some]
    by_cases h4 : ∀ i, a1.toNat ≤ i → bitAt a0 i = false
    · rw [if_pos h4, hv.2 h4]; rfl
    · have : valid (a0, a1, ()) = false := by rw [Bool.eq_false_iff]; exact fun k => h4 (hv.1 k)
      rw [if_neg h4, this]; rfl
  · simp [h3, valid_neg (l := a0) (.inr (.inr h3))]

theorem g17_ok (a0 : Int) (r0 : IntKind.i64.has a0) : g17 a0 = some (bif decide (a0 < 0) || decide (63 < a0) then (0 : Int) else 2 ^ a0.toNat, ()) := by
  unfold g17
  by_cases h1 : a0 < 0
  · simp [h1]
  by_cases h2 : 63 < a0
  · simp [h1, h2, GT.gt]
  have e1 : IntKind.wrap .u64 a0 = a0 := wu64 (by omega) (by omega)
  have e2 : min a0.toNat 64 = a0.toNat := by omega
  have e3 : (2 : Int) ^ a0.toNat < 18446744073709551616 := by
    have : (2 : Nat) ^ a0.toNat < 2 ^ 64 := Nat.pow_lt_pow_right (by omega) (by omega)
    rw [pow_cast]; omega
  have e4 : IntKind.wrap .u64 (1 * 2 ^ a0.toNat) = 2 ^ a0.toNat := by rw [Int.one_mul]; exact wu64 (Int.le_of_lt (pow2_pos _)) e3
  have c1 : 0 ≤ a0 := by omega
  simp only [GT.gt, h1, h2, decide_false, Bool.not_false, cond_true, cond_false, Option.bind_some, e1, e2, pow2, e4, c1, decide_true, Bool.or_self]

theorem or_byte {x y : Int} (h1 : 0 ≤ x) (h2 : x < 256) (h3 : 0 ≤ y) (h4 : y < 256) : IntKind.wrap .u8 ((BitVec.or (BitVec.ofInt 8 x) (BitVec.ofInt 8 y)).toNat : Int) = ((x.toNat ||| y.toNat : Nat) : Int) ∧ x.toNat ||| y.toNat < 256 := by
  have k : x.toNat ||| y.toNat < 2 ^ 8 := Nat.or_lt_two_pow (by omega) (by omega)
  rw [bvor h1 (by omega) h3 (by omega)]
  exact ⟨wu8 (by omega) (by omega), k⟩
theorem bitOf_or {x y : Int} (h1 : 0 ≤ x) (h3 : 0 ≤ y) (j : Nat) : bitOf ((x.toNat ||| y.toNat : Nat) : Int) j = (bitOf x j || bitOf y j) := by
  rw [bitOf_testBit (by omega), bitOf_testBit h1, bitOf_testBit h3, Int.toNat_natCast, Nat.testBit_or]
theorem bitOf_pow (m j : Nat) : bitOf (2 ^ m) j = decide (m = j) := by
  rw [bitOf_testBit (Int.le_of_lt (pow2_pos _)), pow_cast, Int.toNat_natCast, Nat.testBit_two_pow]

theorem g35_ok (a0 : (List Int)) (a1 : Int) (a2 : Int) (r0 : (Ty.sl (.int .u8)).ok a0) (r1 : IntKind.i64.has a1) (r2 : IntKind.u64.has a2) (h : (Sp02.valid (a0, a1, ())) = true) : g35 a0 a1 a2 = some (Sp02.enc (Sp02.bits (a0, a1, ()) ++ [decide (a2 = 1)]), ()) := by
  obtain ⟨hl, hb⟩ := dat r0
  obtain ⟨v1, v2, v3, v4⟩ := valid_iff.1 h
  simp only at v1 v2 v3 v4
  have e1 : Int.tdiv a1 8 = a1 / 8 := tdiv_nn v1
  have e2 : Int.tmod a1 8 = a1 % 8 := tmod_nn v1
  have e3 : IntKind.wrap .i64 (a1 / 8) = a1 / 8 := wi64 (by omega) (by omega)
  have e4 : IntKind.wrap .i64 (7 - a1 % 8) = 7 - a1 % 8 := wi64 (by omega) (by omega)
  have e5 : IntKind.wrap .u64 (7 - a1 % 8) = 7 - a1 % 8 := wu64 (by omega) (by omega)
  have e6 : min (7 - a1 % 8).toNat 8 = (7 - a1 % 8).toNat := by omega
  have e7 : IntKind.wrap .i64 (a1 + 1) = a1 + 1 := wi64 (by omega) (by omega)
  have p1 : (2 : Int) ^ (7 - a1 % 8).toNat < 256 := by
    have : (2 : Nat) ^ (7 - a1 % 8).toNat < 2 ^ 8 := Nat.pow_lt_pow_right (by omega) (by omega)
    rw [pow_cast]; omega
  have p0 := pow2_pos (7 - a1 % 8).toNat
  have e8 : IntKind.wrap .u8 (1 * 2 ^ (7 - a1 % 8).toNat) = 2 ^ (7 - a1 % 8).toNat := by rw [Int.one_mul]; exact wu8 (by omega) p1
  unfold g35
  rw [ble_t (by omega : (0 + a0.length) * 1 ≤ 140737488355328), cond_true]
  obtain ⟨l1, hX, l2, l3, l4⟩ : ∃ l1, (bif decide (Int.tmod a1 8 = 0) then (bif Nat.ble ((([] ++ a0).length + 1) * 1) 140737488355328 then some (([] ++ a0) ++ ((0 : Int) :: []), ()) else none) else some ([] ++ a0, ())) = some (l1, ()) ∧
      l1.length = (a1 / 8).toNat + 1 ∧ bytesOk l1 ∧ ∀ i, bitAt l1 i = bitAt a0 i := by
    rw [e2, List.nil_append, ble_t (by omega : (a0.length + 1) * 1 ≤ 140737488355328)]
    by_cases h8 : a1 % 8 = 0
    · exact ⟨a0 ++ [0], by simp [h8], by simp; omega, bytesOk_app hb (bytesOk_one (by omega)), bitAt_app0 a0⟩
    · exact ⟨a0, by simp [h8], by omega, hb, fun _ => rfl⟩
  rw [hX, Option.bind_some]
  have c1 : (0 : Int) ≤ a1 / 8 := by omega
  have c2 : a1 / 8 < (l1.length : Int) := by omega
  have c3 : (0 : Int) ≤ 7 - a1 % 8 := by omega
  have c4 : Nat.blt (a1 / 8).toNat l1.length = true := blt_t (by omega)
  have hx := bytesOk_getD l3 (a1 / 8).toNat
  obtain ⟨o1, o2⟩ := or_byte hx.1 hx.2 (Int.le_of_lt p0) p1
  simp only [e1, e2, e3, e4, e5, e6, e7, e8, pow2, c1, c2, c3, c4, decide_true, cond_true, Bool.and_self, Int.ofNat_eq_natCast, o1]
  have h0 : ∀ i, (Sp02.bits (a0, a1, ()) ++ [decide (a2 = 1)]).getD i false = if i < a1.toNat then bitAt a0 i else (decide (i = a1.toNat) && decide (a2 = 1)) := by
    intro i
    rw [getD_append, bits_length, bits_getD]
    simp only
    split
    · rfl
    · by_cases hi : i = a1.toNat
      · subst hi; simp
      · rw [getD_ge (by simp; omega)]; simp [hi]
  by_cases h1 : a2 = 1
  · simp only [h1, decide_true, cond_true, Option.bind_some]
    congr 2
    refine eq_enc (bytesOk_set l3 (by omega)) (by simp [bits_length]; omega) (by simp [l2]; omega) fun i hi => ?_
    rw [List.length_set] at hi
    rw [bitAt_set (by omega), bitOf_or hx.1 (Int.le_of_lt p0), bitOf_pow]
    have := h0 i
    rw [h1] at this
    simp only [decide_true, Bool.and_true] at this
    rw [this]
    by_cases hi1 : (a1 / 8).toNat = i / 8
    · rw [if_pos hi1]
      have hb1 : bitOf (l1.getD (a1 / 8).toNat 0) (7 - i % 8) = bitAt a0 i := by
        rw [← l4 i]; unfold bitAt; rw [hi1]
      rw [hb1]
      by_cases hi2 : i < a1.toNat
      · rw [if_pos hi2]
        have : ¬ (7 - a1 % 8).toNat = 7 - i % 8 := by omega
        simp [this]
      · rw [if_neg hi2, v4 i (by omega), Bool.false_or]
        congr 1; apply propext; omega
    · rw [if_neg hi1, l4]
      by_cases hi2 : i < a1.toNat
      · rw [if_pos hi2]
      · rw [if_neg hi2, v4 i (by omega)]
        symm; exact decide_eq_false (by omega)
  · simp only [h1, decide_false, cond_false, Option.bind_some]
    congr 2
    refine eq_enc l3 (by simp [bits_length]; omega) (by rw [l2]; omega) fun i hi => ?_
    have := h0 i
    simp only [h1, decide_false, Bool.and_false] at this
    rw [this, l4]
    by_cases hi2 : i < a1.toNat
    · rw [if_pos hi2]
    · rw [if_neg hi2, v4 i (by omega)]

theorem g41_ok (a0 : (List Int)) (a1 : Int) (r0 : (Ty.sl (.int .u8)).ok a0) (r1 : IntKind.i64.has a1) : g41 a0 a1 = some ((a0, a1, ()), ()) := by
  obtain ⟨hl, hb⟩ := dat r0
  unfold g41
  rw [ble_t (by omega), cond_true]
end Go.Abs.C02

/- Chapter 02: the functions keep their contracts: writing, reading, appending, check numbers. -/
namespace Go.Abs.C02
open Go Go.Proofs Sp02

theorem g35v_ok (a0 : (List Int)) (a1 : Int) (a2 : Int) (r0 : (Ty.sl (.int .u8)).ok a0) (r1 : IntKind.i64.has a1) (r2 : IntKind.u64.has a2) (h : (Sp02.valid (a0, a1, ())) = true) : g35v a0 a1 a2 = some (Sp02.enc (Sp02.bits (a0, a1, ()) ++ [decide (a2 = 1)]), ()) := by
  exact g35_ok a0 a1 a2 r0 r1 r2 h

theorem bitOf_mulpow {p : Nat} (m j : Nat) : bitOf ((p : Int) * 2 ^ m) j = (decide (m ≤ j) && p.testBit (j - m)) := by
  have h : 0 ≤ (p : Int) * 2 ^ m := Int.mul_nonneg (by omega) (Int.le_of_lt (pow2_pos m))
  rw [bitOf_testBit h, toNat_mul_pow (by omega), Int.toNat_natCast, Nat.testBit_mul_two_pow]

/-- One chunk of a write. -/
theorem chunk {l1 : List Int} {n b k f V : Nat} {bs : List Bool} (h1 : bytesOk l1) (hlen : 8 * l1.length = b + f) (hf : f ≤ 8) (hk : k ≤ f) (hn : k ≤ n) (hl : 0 < l1.length) (hbs : bs.length = b)
    (hb : ∀ i, bitAt l1 i = bs.getD i false) (hk8 : 0 < k) :
    ((l1.set (l1.length - 1) (((l1.getD (l1.length - 1) 0).toNat ||| ((((V / 2 ^ (n - k)) % 2 ^ k : Nat) : Int) * 2 ^ (f - k)).toNat : Nat) : Int), ((b + k : Nat) : Int), ()) : S) = Sp02.enc (bs ++ (vbits V n).take k) := by
  have hx := bytesOk_getD h1 (l1.length - 1)
  have hp : (V / 2 ^ (n - k)) % 2 ^ k < 2 ^ k := Nat.mod_lt _ (Nat.pos_of_ne_zero (by have := Nat.two_pow_pos k; omega))
  have hp2 : (V / 2 ^ (n - k)) % 2 ^ k * 2 ^ (f - k) < 2 ^ f := by
    have : 2 ^ f = 2 ^ k * 2 ^ (f - k) := by rw [← Nat.pow_add]; congr 1; omega
    rw [this]
    exact Nat.mul_lt_mul_of_pos_right hp (Nat.two_pow_pos _)
  have hf8 : 2 ^ f ≤ 2 ^ 8 := Nat.pow_le_pow_right (by omega) hf
  have hy0 : 0 ≤ (((V / 2 ^ (n - k)) % 2 ^ k : Nat) : Int) * 2 ^ (f - k) := Int.mul_nonneg (by omega) (Int.le_of_lt (pow2_pos _))
  have hyN : ((((V / 2 ^ (n - k)) % 2 ^ k : Nat) : Int) * 2 ^ (f - k)).toNat = (V / 2 ^ (n - k)) % 2 ^ k * 2 ^ (f - k) := by
    rw [toNat_mul_pow (by omega), Int.toNat_natCast]
  have hor : (l1.getD (l1.length - 1) 0).toNat ||| ((((V / 2 ^ (n - k)) % 2 ^ k : Nat) : Int) * 2 ^ (f - k)).toNat < 2 ^ 8 := Nat.or_lt_two_pow (by omega) (by rw [hyN]; omega)
  refine eq_enc (bytesOk_set h1 (by omega)) (by simp [hbs, vbits_length]; omega) (by simp; omega) fun i hi => ?_
  rw [List.length_set] at hi
  rw [bitAt_set (by omega), bitOf_or hx.1 hy0, bitOf_mulpow, getD_append, hbs]
  by_cases hi1 : l1.length - 1 = i / 8
  · rw [if_pos hi1]
    have hb1 : bitOf (l1.getD (l1.length - 1) 0) (7 - i % 8) = bs.getD i false := by
      rw [← hb i]; unfold bitAt; rw [hi1]
    rw [hb1]
    by_cases hi2 : i < b
    · rw [if_pos hi2]
      have : ((V / 2 ^ (n - k)) % 2 ^ k).testBit (7 - i % 8 - (f - k)) = false := by
        rw [Nat.testBit_mod_two_pow]
        have : ¬ 7 - i % 8 - (f - k) < k := by omega
        simp [this]
      rw [this, Bool.and_false, Bool.or_false]
    · rw [if_neg hi2, getD_ge (by omega : bs.length ≤ i), Bool.false_or]
      have hv := vbits_getD V n (i - b)
      by_cases hi3 : i - b < k
      · rw [if_pos (by omega)] at hv
        have ht : ((vbits V n).take k).getD (i - b) false = (vbits V n).getD (i - b) false := by
          simp [List.getD_eq_getElem?_getD, List.getElem?_take, hi3]
        rw [ht, hv, Nat.testBit_mod_two_pow, Nat.testBit_div_two_pow]
        have c1 : f - k ≤ 7 - i % 8 := by omega
        have c2 : 7 - i % 8 - (f - k) < k := by omega
        simp only [c1, c2, decide_true, Bool.true_and]
        congr 1; omega
      · have ht : ((vbits V n).take k).getD (i - b) false = false := getD_ge (by simp [vbits_length]; omega)
        rw [ht]
        have : ¬ f - k ≤ 7 - i % 8 := by omega
        simp [this]
  · rw [if_neg hi1, hb]
    rw [if_pos (by omega)]

theorem and_mask {V : Int} {n k : Nat} (h1 : 0 ≤ V) (h2 : V < 18446744073709551616) (hk : k ≤ 8) :
    (BitVec.and (BitVec.ofInt 64 (V / 2 ^ n)) (BitVec.ofInt 64 (IntKind.wrap .u64 (IntKind.wrap .u64 (1 * 2 ^ k) - 1)))).toNat = (V.toNat / 2 ^ n) % 2 ^ k := by
  have k1 : 0 ≤ V / 2 ^ n := Int.ediv_nonneg h1 (Int.le_of_lt (pow2_pos n))
  have k2 : V / 2 ^ n ≤ V := Int.ediv_le_self _ h1
  have p0 := pow2_pos k
  have p1 : (2 : Int) ^ k ≤ 256 := by
    have : (2 : Nat) ^ k ≤ 2 ^ 8 := Nat.pow_le_pow_right (by omega) hk
    rw [pow_cast]; omega
  rw [Int.one_mul, wu64 (n := 2 ^ k) (by omega) (by omega), wu64 (by omega) (by omega), bvand k1 (by omega) (by omega) (by omega), toNat_div_pow h1]
  have : ((2 : Int) ^ k - 1).toNat = 2 ^ k - 1 := by rw [pow_cast]; omega
  rw [this, Nat.and_two_pow_sub_one_eq_mod]

theorem g42_step (V : Int) (l : List Int) (b n : Int) (hv0 : 0 ≤ V) (hv1 : V < 18446744073709551616) (hb : bytesOk l) (hv : valid (l, b, ()) = true) (hn : 0 < n) (hn2 : n ≤ 64) (hbn : b + n ≤ 8192) :
    ∃ k : Nat, 0 < k ∧ k ≤ n.toNat ∧ g42_s0 V ((l, b, ()), n, ()) = some (.inl (Sp02.enc (Sp02.bits (l, b, ()) ++ (vbits V.toNat n.toNat).take k), n - k, ())) := by
  obtain ⟨v1, v2, v3, v4⟩ := valid_iff.1 hv
  simp only at v1 v2 v3 v4
  have e1 : IntKind.wrap .i64 (8 * (l.length : Int)) = 8 * (l.length : Int) := wi64 (by omega) (by omega)
  have e2 : IntKind.wrap .i64 (8 * (l.length : Int) - b) = 8 * (l.length : Int) - b := wi64 (by omega) (by omega)
  unfold g42_s0
  simp only [GT.gt, hn, decide_true, cond_true, Int.ofNat_eq_natCast, e1, e2]
  obtain ⟨l1, f, hX, l2, l3, l4, f1, f2⟩ : ∃ (l1 : List Int) (f : Nat), (bif decide (8 * (l.length : Int) - b = 0) then (bif Nat.ble ((l.length + 1) * 1) 140737488355328 then some ((l ++ ((0 : Int) :: []), b, ()), (8 : Int), ()) else none) else some ((l, b, ()), 8 * (l.length : Int) - b, ())) = some ((l1, b, ()), (f : Int), ()) ∧
      8 * l1.length = b.toNat + f ∧ bytesOk l1 ∧ (∀ i, bitAt l1 i = bitAt l i) ∧ 0 < f ∧ f ≤ 8 := by
    rw [ble_t (by omega : (l.length + 1) * 1 ≤ 140737488355328)]
    by_cases h8 : 8 * (l.length : Int) - b = 0
    · exact ⟨l ++ [0], 8, by simp [h8], by simp; omega, bytesOk_app hb (bytesOk_one (by omega)), bitAt_app0 l, by omega, by omega⟩
    · exact ⟨l, 8 * l.length - b.toNat, by simp [h8]; omega, by omega, hb, fun _ => rfl, by omega, by omega⟩
  rw [hX]
  simp only [Option.bind_some]
  obtain ⟨k, hk, k1, k2, k3⟩ : ∃ k : Nat, (bif decide ((f : Int) < n) then (f : Int) else n) = (k : Int) ∧ 0 < k ∧ k ≤ n.toNat ∧ k ≤ f := by
    by_cases hfn : (f : Int) < n
    · exact ⟨f, by simp [hfn], f1, by omega, Nat.le_refl _⟩
    · exact ⟨n.toNat, by simp [hfn]; omega, by omega, Nat.le_refl _, by omega⟩
  refine ⟨k, k1, k2, ?_⟩
  rw [hk]
  have e3 : IntKind.wrap .i64 (n - k) = n - k := wi64 (by omega) (by omega)
  have e4 : IntKind.wrap .i64 ((l1.length : Int) - 1) = (l1.length : Int) - 1 := wi64 (by omega) (by omega)
  have e5 : IntKind.wrap .i64 ((f : Int) - k) = (f : Int) - k := wi64 (by omega) (by omega)
  have e6 : IntKind.wrap .i64 (b + k) = b + k := wi64 (by omega) (by omega)
  have c1 : (0 : Int) ≤ n - k := by omega
  have c2 : (0 : Int) ≤ (k : Int) := by omega
  have c3 : (0 : Int) ≤ (l1.length : Int) - 1 := by omega
  have c4 : (l1.length : Int) - 1 < (l1.length : Int) := by omega
  have c5 : (0 : Int) ≤ (f : Int) - k := by omega
  have n1 : ((l1.length : Int) - 1).toNat = l1.length - 1 := by omega
  have c6 : Nat.blt (l1.length - 1) l1.length = true := blt_t (by omega)
  have m1 : min (n - (k : Int)).toNat 64 = n.toNat - k := by omega
  have m2 : min (k : Int).toNat 64 = k := by omega
  have m3 : min ((f : Int) - k).toNat 64 = f - k := by omega
  simp only [e3, e4, e5, e6, c1, c2, c3, c4, c5, n1, c6, m1, m2, m3, decide_true, cond_true, Bool.and_self, pow2, fdiv_pow]
  rw [and_mask hv0 hv1 (by omega)]
  have hp : (V.toNat / 2 ^ (n.toNat - k)) % 2 ^ k < 2 ^ k := Nat.mod_lt _ (Nat.pos_of_ne_zero (by have := Nat.two_pow_pos k; omega))
  have hk8 : 2 ^ k ≤ 2 ^ 8 := Nat.pow_le_pow_right (by omega) (by omega)
  have hp2 : (V.toNat / 2 ^ (n.toNat - k)) % 2 ^ k * 2 ^ (f - k) < 2 ^ f := by
    have : 2 ^ f = 2 ^ k * 2 ^ (f - k) := by rw [← Nat.pow_add]; congr 1; omega
    rw [this]
    exact Nat.mul_lt_mul_of_pos_right hp (Nat.two_pow_pos _)
  have hf8 : 2 ^ f ≤ 2 ^ 8 := Nat.pow_le_pow_right (by omega) f2
  have w1 : IntKind.wrap .u64 ((V.toNat / 2 ^ (n.toNat - k) % 2 ^ k : Nat) : Int) = ((V.toNat / 2 ^ (n.toNat - k) % 2 ^ k : Nat) : Int) := wu64 (by omega) (by omega)
  have hy : ((V.toNat / 2 ^ (n.toNat - k) % 2 ^ k : Nat) : Int) * 2 ^ (f - k) = ((V.toNat / 2 ^ (n.toNat - k) % 2 ^ k * 2 ^ (f - k) : Nat) : Int) := by rw [pow_cast]; simp
  have w2 : IntKind.wrap .u64 (((V.toNat / 2 ^ (n.toNat - k) % 2 ^ k : Nat) : Int) * 2 ^ (f - k)) = ((V.toNat / 2 ^ (n.toNat - k) % 2 ^ k : Nat) : Int) * 2 ^ (f - k) := by rw [hy]; exact wu64 (by omega) (by omega)
  have w3 : IntKind.wrap .u8 (((V.toNat / 2 ^ (n.toNat - k) % 2 ^ k : Nat) : Int) * 2 ^ (f - k)) = ((V.toNat / 2 ^ (n.toNat - k) % 2 ^ k : Nat) : Int) * 2 ^ (f - k) := by rw [hy]; exact wu8 (by omega) (by omega)
  rw [w1, w2, w3]
  have hx := bytesOk_getD l3 (l1.length - 1)
  obtain ⟨o1, o2⟩ := or_byte (x := l1.getD (l1.length - 1) 0) (y := ((V.toNat / 2 ^ (n.toNat - k) % 2 ^ k : Nat) : Int) * 2 ^ (f - k)) hx.1 hx.2 (by rw [hy]; omega) (by rw [hy]; omega)
  rw [o1]
  congr 3
  have := chunk (n := n.toNat) (V := V.toNat) (bs := Sp02.bits (l, b, ())) l3 l2 f2 k3 k2 (by omega) (bits_length _) (fun i => by
    rw [bits_getD, l4]
    simp only
    split
    · rfl
    · exact v4 i (by omega)) k1
  rw [← this]
  congr 2
  omega

theorem vbits0 (v : Nat) : vbits v 0 = [] := rfl
theorem write_loop (V : Int) (hv0 : 0 ≤ V) (hv1 : V < 18446744073709551616) (s : S) (n : Int) (hb : bytesOk s.1) (hv : valid s = true) (h0 : 0 ≤ n) (hn2 : n ≤ 64) (hbn : s.2.1 + n ≤ 8192) :
    Loop (g42_s0 V) (s, n, ()) = some (Sp02.enc (Sp02.bits s ++ vbits V.toNat n.toNat), ()) := by
  refine Loop_inv (fun v : S × Int × Unit => bytesOk v.1.1 ∧ valid v.1 = true ∧ 0 ≤ v.2.1 ∧ v.2.1 ≤ 64 ∧ v.1.2.1 + v.2.1 ≤ 8192) (fun v : S × Int × Unit => v.2.1.toNat)
    (fun v : S × Int × Unit => (Sp02.enc (Sp02.bits v.1 ++ vbits V.toNat v.2.1.toNat), ())) ?_ (v := (s, n, ())) ⟨hb, hv, h0, hn2, hbn⟩
  rintro ⟨⟨l, b, ⟨⟩⟩, n, ⟨⟩⟩ ⟨i1, i2, i3, i4, i5⟩
  simp only at i1 i2 i3 i4 i5
  by_cases hn : 0 < n
  · right
    obtain ⟨k, k1, k2, k3⟩ := g42_step V l b n hv0 hv1 i1 i2 hn i4 i5
    obtain ⟨v1, v2, v3, v4⟩ := valid_iff.1 i2
    simp only at v1 v2 v3 v4
    have hlen : (Sp02.bits (l, b, ()) ++ (vbits V.toNat n.toNat).take k).length = b.toNat + k := by simp [bits_length, vbits_length]; omega
    refine ⟨_, k3, ⟨enc_ok _, valid_enc (by omega), by simp only; omega, by simp only; omega, ?_⟩, by simp only; omega, ?_⟩
    · show ((Sp02.bits (l, b, ()) ++ (vbits V.toNat n.toNat).take k).length : Int) + (n - k) ≤ 8192
      rw [hlen]; omega
    · simp only
      rw [bits_enc, show (n - (k : Int)).toNat = n.toNat - k by omega, List.append_assoc, ← vbits_split k2]
  · left
    have : n = 0 := by omega
    subst this
    simp only [Int.toNat_zero, vbits0, List.append_nil]
    rw [enc_bits i2 i1]
    rfl

theorem g42_ok (a0 : (List Int)) (a1 : Int) (a2 : Int) (a3 : Int) (r0 : (Ty.sl (.int .u8)).ok a0) (r1 : IntKind.i64.has a1) (r2 : IntKind.u64.has a2) (r3 : IntKind.i64.has a3) (h : (Sp02.valid (a0, a1, ()) && decide (0 ≤ a3) && decide (a3 ≤ 64) && decide (a1 + a3 ≤ 8192)) = true) : g42 a0 a1 a2 a3 = some ((), Sp02.enc (Sp02.bits (a0, a1, ()) ++ Sp02.vbits a2.toNat a3.toNat)) := by
  simp only [Bool.and_eq_true, decide_eq_true_eq] at h
  obtain ⟨hl, hb⟩ := dat r0
  have hv := has_u64 r2
  unfold g42
  rw [write_loop a2 hv.1 hv.2 (a0, a1, ()) a3 hb h.1.1.1 h.1.1.2 h.1.2 h.2]
  rfl

theorem or_snoc {a : Nat} {b : Bool} (h : a < 9223372036854775808) : IntKind.wrap .u64 ((BitVec.or (BitVec.ofInt 64 (IntKind.wrap .u64 ((a : Int) * 2))) (BitVec.ofInt 64 (b2i b))).toNat : Int) = ((2 * a + b.toNat : Nat) : Int) := by
  have hb := b2i_bound b
  rw [wu64 (n := (a : Int) * 2) (by omega) (by omega), bvor (by omega) (by omega) (by omega) (by omega)]
  have e1 : ((a : Int) * 2).toNat = 2 * a := by omega
  have e2 : (b2i b).toNat = b.toNat := by cases b <;> rfl
  have e3 : 2 * a ||| b.toNat = 2 * a + b.toNat := by
    have := Nat.two_pow_add_eq_or_of_lt (i := 1) (b := b.toNat) (by cases b <;> decide) a
    rw [Nat.pow_one] at this
    exact this.symm
  rw [e1, e2, e3]
  have : b.toNat ≤ 1 := by cases b <;> decide
  exact wu64 (by omega) (by omega)

theorem g44_ok (a0 : (List Int)) (a1 : Int) (a2 : Int) (a3 : Int) (r0 : (Ty.sl (.int .u8)).ok a0) (r1 : IntKind.i64.has a1) (r2 : IntKind.i64.has a2) (r3 : IntKind.i64.has a3) (h : (decide (0 ≤ a2) && decide (0 ≤ a3) && decide (a3 ≤ 64) && decide (a2 + a3 ≤ 8 * (a0.length : Int))) = true) : g44 a0 a1 a2 a3 = some ((Sp02.valOf (Sp02.bitsR a0 a2.toNat a3.toNat) : Int), ()) := by
  simp only [Bool.and_eq_true, decide_eq_true_eq] at h
  obtain ⟨⟨⟨h1, h2⟩, h3⟩, h4⟩ := h
  obtain ⟨hl, hb⟩ := dat r0
  have key : Loop (g44_s0 a0 a1 a2 a3) ((0 : Int), (0 : Int), ()) = some (((Sp02.valOf (bitsR a0 a2.toNat a3.toNat) : Nat) : Int), ()) := by
    refine Loop_inv (fun v : Int × Int × Unit => 0 ≤ v.1 ∧ v.1 ≤ a3 ∧ v.2.1 = ((Sp02.valOf (bitsR a0 a2.toNat v.1.toNat) : Nat) : Int)) (fun v : Int × Int × Unit => (a3 - v.1).toNat)
      (fun _ => (((Sp02.valOf (bitsR a0 a2.toNat a3.toNat) : Nat) : Int), ())) ?_ (v := (0, 0, ())) ⟨by simp, h2, rfl⟩
    rintro ⟨i, x, ⟨⟩⟩ ⟨k1, k2, k3⟩
    simp only at k1 k2 k3
    subst k3
    have e1 : IntKind.wrap .i64 (a2 + i) = a2 + i := wi64 (by omega) (by omega)
    have e2 : IntKind.wrap .i64 (i + 1) = i + 1 := wi64 (by omega) (by omega)
    unfold g44_s0
    simp only [Int.ofNat_eq_natCast, e1, e2]
    by_cases h5 : i < a3
    · right
      have c1 : (0 : Int) ≤ a2 + i := by omega
      have c2 : a2 + i < 8 * (a0.length : Int) := by omega
      have hlt := valOf_lt (bitsR a0 a2.toNat i.toNat)
      rw [bitsR_length] at hlt
      have hp : 2 ^ i.toNat ≤ 2 ^ 63 := Nat.pow_le_pow_right (by omega) (by omega)
      simp only [h5, c1, c2, decide_true, cond_true, Bool.and_self, on_true, Option.bind_some]
      rw [or_snoc (by omega)]
      refine ⟨_, rfl, ⟨by simp only; omega, by simp only; omega, ?_⟩, by simp only; omega, trivial⟩
      simp only
      rw [show (i + 1).toNat = i.toNat + 1 by omega, bitsR_snoc, valOf_snoc, show (a2 + i).toNat = a2.toNat + i.toNat by omega]
    · left
      have : i = a3 := by omega
      subst this
      simp only [h5, decide_false, cond_false]
  unfold g44
  rw [key]
  rfl
end Go.Abs.C02

/- Chapter 02: the functions keep their contracts: the tape. -/
namespace Go.Abs.C02
open Go Go.Proofs Sp02

theorem wf_iff {t : Tp} : wf t = true ↔ 0 ≤ t.2.1 ∧ t.2.1 ≤ t.1.length ∧ t.1.length ≤ 600 := by
  simp [wf, and_assoc]
theorem small_iff {n : Int} : small n = true ↔ -2305843009213693952 ≤ n ∧ n ≤ 2305843009213693952 := by
  simp [small]
theorem raw_wf {t : Tp} (h : wf t = true) : wf (raw t).2 = true := by
  obtain ⟨l, a, ⟨⟩⟩ := t
  obtain ⟨h1, h2, h3⟩ := wf_iff.1 h
  simp only at h1 h2 h3
  unfold raw
  by_cases h4 : a < l.length
  · simp only [h4, decide_true, cond_true]
    exact wf_iff.2 ⟨by simp only; omega, by simp only; omega, h3⟩
  · simp only [h4, decide_false, cond_false]
    exact h
theorem next_wf {t : Tp} {n : Int} (h : wf t = true) : wf (next t n).2 = true := raw_wf h
theorem cut_nonneg {x n : Int} : 0 ≤ cut x n := by
  unfold cut
  by_cases h : n < 1
  · simp [h]
  · simp only [h, decide_false, cond_false]
    exact Int.emod_nonneg x (by omega)
theorem cut_lt {x n : Int} (h : 1 ≤ n) : cut x n < n := by
  unfold cut
  have h' : ¬ n < 1 := by omega
  simp only [h', decide_false, cond_false]
  exact Int.emod_lt_of_pos x (by omega)
theorem next_range {t : Tp} {n : Int} (h : 1 ≤ n) : 0 ≤ (next t n).1 ∧ (next t n).1 < n := ⟨cut_nonneg, cut_lt h⟩
theorem range_wf {t : Tp} {a b : Int} (h : wf t = true) : wf (range t a b).2 = true := next_wf (n := b - a + 1) h
theorem range_in {t : Tp} {a b : Int} (h : a ≤ b) : a ≤ (range t a b).1 ∧ (range t a b).1 ≤ b := by
  have := next_range (t := t) (n := b - a + 1) (by omega)
  unfold range
  simp only
  omega
theorem next_bound {t : Tp} {n : Int} : 0 ≤ (next t n).1 ∧ ((next t n).1 < n ∨ (next t n).1 = 0) := by
  by_cases h : 1 ≤ n
  · have := next_range (t := t) h
    exact ⟨this.1, .inl this.2⟩
  · refine ⟨cut_nonneg, .inr ?_⟩
    show cut (raw t).1 n = 0
    unfold cut
    have : n < 1 := by omega
    simp [this]
theorem one_wf {t : Tp} {n : Int} (h : wf t = true) : wf (one t n).2 = true := next_wf (n := n) h
theorem wild_wf {t : Tp} (h : wf t = true) : wf (wild t).2 = true := next_wf (n := (wilds.length : Int)) h
theorem tape_wf (l : List Int) : wf (Sp02.tape l) = true := wf_iff.2 ⟨by simp [Sp02.tape], by simp [Sp02.tape], by simp [Sp02.tape]; omega⟩

theorem g25_ok (a0 : (List Int)) (a1 : Int) (r0 : (Ty.sl (.int .i64)).ok a0) (r1 : IntKind.i64.has a1) (h : (Sp02.wf (a0, a1, ())) = true) : g25 a0 a1 = some (Sp02.raw (a0, a1, ())) := by
  obtain ⟨h1, h2, h3⟩ := wf_iff.1 h
  simp only at h1 h2 h3
  unfold g25 Sp02.raw
  by_cases h4 : a1 < a0.length
  · have h5 : ¬ a1 ≥ (a0.length : Int) := by omega
    have e1 : IntKind.wrap .i64 (a1 + 1) = a1 + 1 := wi64 (by omega) (by omega)
    have e2 : IntKind.wrap .i64 (a1 + 1 - 1) = a1 := by rw [show a1 + 1 - 1 = a1 by omega]; exact wi64 (by omega) (by omega)
    simp only [Int.ofNat_eq_natCast, e1, e2, h5, h4, h1, decide_true, decide_false, cond_true, cond_false, Bool.and_self]
  · have h5 : a1 ≥ (a0.length : Int) := by omega
    simp only [Int.ofNat_eq_natCast, h5, h4, decide_true, decide_false, cond_true, cond_false]

theorem g40_ok (a0 : Int) (a1 : Int) (r0 : IntKind.i64.has a0) (r1 : IntKind.i64.has a1) : g40 a0 a1 = some (Sp02.cut a0 a1, ()) := by
  have hm := (has_i64 r1).2
  unfold g40 Sp02.cut
  by_cases h : a1 < 1
  · simp [h]
  · have h0 : ¬ a1 = 0 := by omega
    have hp : 0 < a1 := by omega
    have e1 := Int.emod_nonneg a0 h0
    have e2 := Int.emod_lt_of_pos a0 hp
    have e3 : a0.tmod a1 = if 0 ≤ a0 ∨ a1 ∣ a0 then a0 % a1 else a0 % a1 - a1 := by
      rw [Int.tmod_eq_emod]
      split <;> rename_i h <;> simp [h]
      omega
    by_cases h5 : 0 ≤ a0 ∨ a1 ∣ a0
    · rw [if_pos h5] at e3
      have : ¬ a0 % a1 < 0 := by omega
      simp [h, h0, e3, this]
      rfl
    · rw [if_neg h5] at e3
      have h6 : a0 % a1 - a1 < 0 := by omega
      have h7 : a0 % a1 - a1 + a1 = a0 % a1 := by omega
      have h8 : IntKind.wrap .i64 (a0 % a1) = a0 % a1 := wi64 (by omega) (by omega)
      simp only [h, h0, e3, h6, h7, h8, decide_true, decide_false, cond_true, cond_false, Bool.not_false, Option.bind]
      rfl

theorem g16_ok (a0 : (List Int)) (a1 : Int) (a2 : Int) (r0 : (Ty.sl (.int .i64)).ok a0) (r1 : IntKind.i64.has a1) (r2 : IntKind.i64.has a2) (h : (Sp02.wf (a0, a1, ())) = true) : g16 a0 a1 a2 = some (Sp02.next (a0, a1, ()) a2) := by
  unfold g16
  rw [on_true h]
  rfl

theorem g31_ok (a0 : (List Int)) (a1 : Int) (a2 : Int) (a3 : Int) (r0 : (Ty.sl (.int .i64)).ok a0) (r1 : IntKind.i64.has a1) (r2 : IntKind.i64.has a2) (r3 : IntKind.i64.has a3) (h : (Sp02.wf (a0, a1, ()) && Sp02.small a2 && Sp02.small a3) = true) : g31 a0 a1 a2 a3 = some (Sp02.range (a0, a1, ()) a2 a3) := by
  simp only [Bool.and_eq_true] at h
  have k2 := small_iff.1 h.1.2
  have k3 := small_iff.1 h.2
  unfold g31 Sp02.range
  rw [on_true h.1.1]
  have e1 : IntKind.wrap .i64 (a3 - a2) = a3 - a2 := wi64 (by omega) (by omega)
  have e2 : IntKind.wrap .i64 (a3 - a2 + 1) = a3 - a2 + 1 := wi64 (by omega) (by omega)
  have hb := next_bound (t := (a0, a1, ())) (n := a3 - a2 + 1)
  have e3 : IntKind.wrap .i64 (a2 + (next (a0, a1, ()) (a3 - a2 + 1)).1) = a2 + (next (a0, a1, ()) (a3 - a2 + 1)).1 := wi64 (by omega) (by omega)
  simp only [e1, e2, Option.bind, e3]

theorem g36_ok (a0 : (List Int)) (a1 : Int) (a2 : Int) (r0 : (Ty.sl (.int .i64)).ok a0) (r1 : IntKind.i64.has a1) (r2 : IntKind.i64.has a2) (h : (Sp02.wf (a0, a1, ()) && Sp02.small a2) = true) : g36 a0 a1 a2 = some (Sp02.one (a0, a1, ()) a2) := by
  simp only [Bool.and_eq_true] at h
  have k2 := small_iff.1 h.2
  unfold g36 Sp02.one
  rw [on_true h.1]
  have e1 : IntKind.wrap .i64 (a2 - 1) = a2 - 1 := wi64 (by omega) (by omega)
  simp only [e1, Option.bind]

theorem g46_ok (a0 : (List Int)) (a1 : Int) (a2 : (List Int)) (r0 : (Ty.sl (.int .i64)).ok a0) (r1 : IntKind.i64.has a1) (r2 : (Ty.sl (.int .i64)).ok a2) (h : (Sp02.wf (a0, a1, ()) && decide (0 < a2.length) && decide (a2.length ≤ 1000)) = true) : g46 a0 a1 a2 = some (Sp02.pick (a0, a1, ()) a2) := by
  simp only [Bool.and_eq_true, decide_eq_true_eq] at h
  unfold g46 Sp02.pick
  rw [on_true h.1.1]
  have hb := next_range (t := (a0, a1, ())) (n := (a2.length : Int)) (by omega)
  simp only [Int.ofNat_eq_natCast, Option.bind, hb.1, hb.2, decide_true, Bool.and_self, cond_true]

theorem g37_ok (a0 : List Int) (a1 : Int) (r0 : (Ty.sl (.int .i64)).ok a0) (r1 : IntKind.i64.has a1) (h : (Sp02.wf (a0, a1, ())) = true) : g37 a0 a1 = some (Sp02.wild (a0, a1, ())) := by
  unfold g37
  rw [show (wf (a0, a1, ()) && true && true) = true by rw [h]; rfl]
  rfl

theorem g11_ok (a0 : (List Int)) (r0 : (Ty.sl (.int .i64)).ok a0) : g11 a0 = some (Sp02.tape a0, ()) := by
  unfold g11 Sp02.tape
  by_cases h : (600 : Int) < a0.length
  · have h2 : (600 : Int) ≤ a0.length := by omega
    simp [GT.gt, h, h2]
  · have : a0.take 600 = a0 := List.take_of_length_le (by omega)
    simp [GT.gt, h, this]

theorem order_perm (n : Nat) : ∀ (i : Int) (t : Tp) (acc : List Int), (orderN n i t acc).1.length = acc.length + n := by
  induction n with
  | zero => intro i t acc; rfl
  | succ n ih =>
    intro i t acc
    unfold orderN
    rw [ih]
    simp only [List.length_append, List.length_take, List.length_drop, List.length_cons, List.length_nil]
    omega
theorem orderN_wf (n : Nat) : ∀ (i : Int) (t : Tp) (acc : List Int), wf t = true → wf (orderN n i t acc).2 = true := by
  induction n with
  | zero => intro i t acc h; exact h
  | succ n ih => intro i t acc h; unfold orderN; exact ih _ _ _ (next_wf h)

theorem g23_ok (a0 : (List Int)) (a1 : Int) (a2 : Int) (r0 : (Ty.sl (.int .i64)).ok a0) (r1 : IntKind.i64.has a1) (r2 : IntKind.i64.has a2) (h : (Sp02.wf (a0, a1, ()) && decide (0 ≤ a2) && decide (a2 ≤ 1000)) = true) : g23 a0 a1 a2 = some (Sp02.order (a0, a1, ()) a2) := by
  simp only [Bool.and_eq_true, decide_eq_true_eq] at h
  obtain ⟨⟨h1, h2⟩, h3⟩ := h
  have key : Loop (g23_s0 a2) ((a0, a1, ()), [], (0 : Int), ()) = some ((order (a0, a1, ()) a2).2, (order (a0, a1, ()) a2).1, ()) := by
    refine Loop_inv (fun v : Tp × List Int × Int × Unit => wf v.1 = true ∧ 0 ≤ v.2.2.1 ∧ v.2.2.1 ≤ a2 ∧ (v.2.1.length : Int) = v.2.2.1) (fun v : Tp × List Int × Int × Unit => (a2 - v.2.2.1).toNat)
      (fun v : Tp × List Int × Int × Unit => ((orderN (a2 - v.2.2.1).toNat v.2.2.1 v.1 v.2.1).2, (orderN (a2 - v.2.2.1).toNat v.2.2.1 v.1 v.2.1).1, ())) ?_ (v := ((a0, a1, ()), [], 0, ())) ⟨h1, by simp, h2, rfl⟩ |>.trans ?_
    · rintro ⟨t, acc, i, ⟨⟩⟩ ⟨w, k1, k2, k3⟩
      simp only at w k1 k2 k3
      have e1 : IntKind.wrap .i64 (i + 1) = i + 1 := wi64 (by omega) (by omega)
      unfold g23_s0
      by_cases h5 : i < a2
      · right
        have hn := next_range (t := t) (n := i + 1) (by omega)
        have c1 := hn.1
        have c2 : (next t (i + 1)).1 ≤ (acc.length : Int) := by omega
        have t1 : acc.take acc.length = acc := List.take_length
        simp only [h5, decide_true, cond_true, w, on_true, Option.bind_some, e1, c1, c2, Bool.and_self, Int.ofNat_eq_natCast, List.nil_append, List.drop_zero, Int.toNat_natCast, t1, Int.le_refl]
        rw [ble_t (by simp; omega), ble_t (by simp; omega), ble_t (by simp; omega)]
        refine ⟨_, rfl, ⟨next_wf (n := i + 1) w, by simp only; omega, by simp only; omega, ?_⟩, by simp only; omega, ?_⟩
        · simp; omega
        · simp only
          rw [show (a2 - i).toNat = (a2 - (i + 1)).toNat + 1 by omega]
          rfl
      · left
        simp only [h5, decide_false, cond_false]
        rw [show (a2 - i).toNat = 0 by omega]
        rfl
    · simp only [Int.sub_zero]
      rfl
  unfold g23
  rw [key]
  rfl
end Go.Abs.C02

/- Chapter 02: the functions keep their contracts: copies, appending, taking, check numbers. -/
namespace Go.Abs.C02
open Go Go.Proofs Sp02

theorem bitsR0 (l : List Int) (i : Nat) : bitsR l i 0 = [] := rfl
theorem copy_loop (l : List Int) (x : Int) (e : Int) (hl : l.length ≤ 140737488355328) (s : S) (i : Int) (hb : bytesOk s.1) (hv : valid s = true) (h0 : 0 ≤ i) (he : e ≤ 8 * (l.length : Int)) (hbn : s.2.1 + (e - i) ≤ 8192) :
    Loop (g45_s0 l x e) (i, s, ()) = some (Sp02.enc (Sp02.bits s ++ bitsR l i.toNat (e - i).toNat), ()) := by
  refine Loop_inv (fun v : Int × S × Unit => bytesOk v.2.1.1 ∧ valid v.2.1 = true ∧ 0 ≤ v.1 ∧ v.2.1.2.1 + (e - v.1) ≤ 8192) (fun v : Int × S × Unit => (e - v.1).toNat)
    (fun v : Int × S × Unit => (Sp02.enc (Sp02.bits v.2.1 ++ bitsR l v.1.toNat (e - v.1).toNat), ())) ?_ (v := (i, s, ())) ⟨hb, hv, h0, hbn⟩
  rintro ⟨i, s, ⟨⟩⟩ ⟨i1, i2, i3, i4⟩
  simp only at i1 i2 i3 i4
  obtain ⟨v1, v2, v3, v4⟩ := valid_iff.1 i2
  by_cases hi : i < e
  · right
    have e1 : IntKind.wrap .i64 (e - i) = e - i := wi64 (by omega) (by omega)
    unfold g45_s0
    simp only [hi, decide_true, cond_true, Int.ofNat_eq_natCast, e1]
    obtain ⟨k, hk, k1, k2, k3⟩ : ∃ k : Nat, (bif decide (e - i < 64) then e - i else (64 : Int)) = (k : Int) ∧ 0 < k ∧ k ≤ 64 ∧ (k : Int) ≤ e - i := by
      by_cases h : e - i < 64
      · exact ⟨(e - i).toNat, by simp [h]; omega, by omega, by omega, by omega⟩
      · exact ⟨64, by simp [h], by omega, by omega, by omega⟩
    rw [hk]
    have c1 : (0 : Int) ≤ (k : Int) := by omega
    have c2 : (k : Int) ≤ 64 := by omega
    have c3 : i + (k : Int) ≤ 8 * (l.length : Int) := by omega
    have c4 : s.2.1 + (k : Int) ≤ 8192 := by omega
    have e2 : IntKind.wrap .i64 (i + k) = i + k := wi64 (by omega) (by omega)
    simp only [i3, c1, c2, c3, c4, i2, decide_true, Bool.and_self, on_true, Option.bind_some, e2, Int.toNat_natCast]
    have hvb : vbits (Sp02.valOf (bitsR l i.toNat k)) k = bitsR l i.toNat k := by
      have := vbits_valOf (bitsR l i.toNat k)
      rwa [bitsR_length] at this
    rw [hvb]
    have hlen : (Sp02.bits s ++ bitsR l i.toNat k).length = s.2.1.toNat + k := by simp [bits_length, bitsR_length]
    refine ⟨_, rfl, ⟨enc_ok _, valid_enc (by omega), by simp only; omega, ?_⟩, by simp only; omega, ?_⟩
    · show ((Sp02.bits s ++ bitsR l i.toNat k).length : Int) + (e - (i + k)) ≤ 8192
      rw [hlen]; omega
    · simp only
      rw [bits_enc, List.append_assoc, show (i + (k : Int)).toNat = i.toNat + k by omega, ← bitsR_add]
      congr 4; omega
  · left
    unfold g45_s0
    simp only [hi, decide_false, cond_false]
    rw [show (e - i).toNat = 0 by omega, bitsR0, List.append_nil, enc_bits i2 i1]

theorem g45_ok (a0 : (List Int)) (a1 : Int) (a2 : (List Int)) (a3 : Int) (a4 : Int) (a5 : Int) (r0 : (Ty.sl (.int .u8)).ok a0) (r1 : IntKind.i64.has a1) (r2 : (Ty.sl (.int .u8)).ok a2) (r3 : IntKind.i64.has a3) (r4 : IntKind.i64.has a4) (r5 : IntKind.i64.has a5) (h : (Sp02.valid (a0, a1, ()) && decide (0 ≤ a4) && decide (a5 ≤ 8 * (a2.length : Int)) && decide (a1 + (a5 - a4) ≤ 8192)) = true) : g45 a0 a1 a2 a3 a4 a5 = some ((), Sp02.enc (Sp02.bits (a0, a1, ()) ++ Sp02.bitsR a2 a4.toNat (a5 - a4).toNat)) := by
  simp only [Bool.and_eq_true, decide_eq_true_eq] at h
  obtain ⟨hl, hb⟩ := dat r0
  obtain ⟨hl2, hb2⟩ := dat r2
  unfold g45
  rw [copy_loop a2 a3 a5 hl2 (a0, a1, ()) a4 hb h.1.1.1 h.1.1.2 h.1.2 h.2]
  rfl

theorem g18_ok (a0 : (List Int)) (a1 : Int) (a2 : Int) (a3 : Int) (r0 : (Ty.sl (.int .u8)).ok a0) (r1 : IntKind.i64.has a1) (r2 : IntKind.u64.has a2) (r3 : IntKind.i64.has a3) : g18 a0 a1 a2 a3 = some (Sp02.append (a0, a1, ()) a2 a3, ()) := by
  obtain ⟨hl, hb⟩ := dat r0
  have hu := has_u64 r2
  unfold g18 Sp02.append
  cases hv : valid (a0, a1, ()) with
  | false => simp only [Bool.not_false, cond_true]; rfl
  | true =>
    obtain ⟨v1, v2, v3, v4⟩ := valid_iff.1 hv
    simp only at v1 v2 v3 v4
    simp only [Bool.not_true, cond_false]
    by_cases h1 : a3 < 0
    · simp [h1, zs]
    by_cases h2 : 64 < a3
    · simp [h1, h2, zs, GT.gt]
    have c0 : (0 : Int) ≤ a3 := by omega
    have c1 : a3 ≤ 64 := by omega
    have e1 : min a3.toNat 64 = a3.toNat := by omega
    have e2 : IntKind.wrap .i64 (a1 + a3) = a1 + a3 := wi64 (by omega) (by omega)
    simp only [GT.gt, h1, h2, c0, c1, e1, e2, decide_false, decide_true, Bool.not_false, cond_true, pow2, fdiv_pow, Bool.false_or, Bool.true_and, Bool.and_true]
    have fin : (bif decide (8192 < a1 + a3) then some ((([], (0 : Int), ()), (3 : Int), ()), ()) else (on (decide (a1 + a3 ≤ 8192)) ((), Sp02.enc (Sp02.bits (a0, a1, ()) ++ vbits a2.toNat a3.toNat))).bind fun y5 => some ((y5.2, (0 : Int), ()), ())) =
        some (bif decide (8192 < a1 + a3) then (zs, (3 : Int), ()) else (Sp02.enc (Sp02.bits (a0, a1, ()) ++ vbits a2.toNat a3.toNat), 0, ()), ()) := by
      by_cases h5 : 8192 < a1 + a3
      · simp [h5, zs]
      · have : a1 + a3 ≤ 8192 := by omega
        simp [h5, this, on]
    by_cases h3 : a3 < 64
    · by_cases h4 : a2 / 2 ^ a3.toNat = 0
      · simp only [h3, h4, decide_true, Bool.not_true, Bool.and_false, cond_true, cond_false, Option.bind_some]; exact fin
      · simp only [h3, h4, decide_true, decide_false, Bool.not_false, Bool.and_true, cond_true, cond_false, Option.bind_some]; rfl
    · simp only [h3, decide_false, Bool.false_and, cond_true, cond_false, Option.bind_some]; exact fin

theorem and1 {V : Int} {n : Nat} (h1 : 0 ≤ V) (h2 : V < 18446744073709551616) : decide (IntKind.wrap .u64 ((BitVec.and (BitVec.ofInt 64 (V / 2 ^ n)) (BitVec.ofInt 64 1)).toNat : Int) = 1) = V.toNat.testBit n := by
  have k1 : 0 ≤ V / 2 ^ n := Int.ediv_nonneg h1 (Int.le_of_lt (pow2_pos n))
  have k2 : V / 2 ^ n ≤ V := Int.ediv_le_self _ h1
  rw [bvand k1 (by omega) (by omega) (by omega), toNat_div_pow h1, show Int.toNat 1 = 1 from rfl, Nat.and_one_is_mod, wu64 (by omega) (by omega), Nat.testBit_eq_decide_div_mod_eq]
  congr 1; apply propext; omega

theorem append_loop (V : Int) (h1 : 0 ≤ V) (h2 : V < 18446744073709551616) (s : S) (i : Int) (hb : bytesOk s.1) (hv : valid s = true) (h0 : -1 ≤ i) (h63 : i ≤ 63) (hbn : s.2.1 + (i + 1) ≤ 8192) :
    Loop (g19_s0 V) (s, i, ()) = some (Sp02.enc (Sp02.bits s ++ vbits V.toNat (i + 1).toNat), ()) := by
  refine Loop_inv (fun v : S × Int × Unit => bytesOk v.1.1 ∧ valid v.1 = true ∧ -1 ≤ v.2.1 ∧ v.2.1 ≤ 63 ∧ v.1.2.1 + (v.2.1 + 1) ≤ 8192) (fun v : S × Int × Unit => (v.2.1 + 1).toNat)
    (fun v : S × Int × Unit => (Sp02.enc (Sp02.bits v.1 ++ vbits V.toNat (v.2.1 + 1).toNat), ())) ?_ (v := (s, i, ())) ⟨hb, hv, h0, h63, hbn⟩
  rintro ⟨s, i, ⟨⟩⟩ ⟨i1, i2, i3, i4, i5⟩
  simp only at i1 i2 i3 i4 i5
  obtain ⟨v1, v2, v3, v4⟩ := valid_iff.1 i2
  unfold g19_s0
  by_cases hi : 0 ≤ i
  · right
    have e1 : IntKind.wrap .u64 i = i := wu64 (by omega) (by omega)
    have e2 : IntKind.wrap .i64 (i - 1) = i - 1 := wi64 (by omega) (by omega)
    have e3 : min i.toNat 64 = i.toNat := by omega
    simp only [GE.ge, hi, decide_true, cond_true, e1, e2, e3, pow2, fdiv_pow, i2, on_true, Option.bind_some, Int.ofNat_eq_natCast, and1 h1 h2]
    have hlen : (Sp02.bits s ++ [V.toNat.testBit i.toNat]).length = s.2.1.toNat + 1 := by simp [bits_length]
    refine ⟨_, rfl, ⟨enc_ok _, valid_enc (by omega), by simp only; omega, by simp only; omega, ?_⟩, by simp only; omega, ?_⟩
    · show ((Sp02.bits s ++ [V.toNat.testBit i.toNat]).length : Int) + (i - 1 + 1) ≤ 8192
      rw [hlen]; omega
    · simp only
      rw [bits_enc, List.append_assoc]
      have := vbits_split (v := V.toNat) (n := (i + 1).toNat) (k := 1) (by omega)
      rw [this]
      have t1 : (vbits V.toNat (i + 1).toNat).take 1 = [V.toNat.testBit i.toNat] := by
        have h := vbits_getD V.toNat (i + 1).toNat 0
        rw [if_pos (by omega), show (i + 1).toNat - 1 - 0 = i.toNat by omega] at h
        have hl := vbits_length V.toNat (i + 1).toNat
        cases hc : vbits V.toNat (i + 1).toNat with
        | nil => rw [hc] at hl; simp at hl; omega
        | cons x r => rw [hc] at h; simp at h; subst h; rfl
      rw [t1, show (i - 1 + 1).toNat = (i + 1).toNat - 1 by omega]
  · left
    simp only [GE.ge, hi, decide_false, cond_false]
    rw [show (i + 1).toNat = 0 by omega, vbits0, List.append_nil, enc_bits i2 i1]

theorem g19_ok (a0 : (List Int)) (a1 : Int) (a2 : Int) (a3 : Int) (r0 : (Ty.sl (.int .u8)).ok a0) (r1 : IntKind.i64.has a1) (r2 : IntKind.u64.has a2) (r3 : IntKind.i64.has a3) : g19 a0 a1 a2 a3 = some (Sp02.append (a0, a1, ()) a2 a3, ()) := by
  obtain ⟨hl, hb⟩ := dat r0
  have hu := has_u64 r2
  unfold g19 Sp02.append
  cases hv : valid (a0, a1, ()) with
  | false => simp only [Bool.not_false, cond_true]; rfl
  | true =>
    obtain ⟨v1, v2, v3, v4⟩ := valid_iff.1 hv
    simp only at v1 v2 v3 v4
    simp only [Bool.not_true, cond_false]
    by_cases h1 : a3 < 0
    · simp [h1, zs]
    by_cases h2 : 64 < a3
    · simp [h1, h2, zs, GT.gt]
    have e0 : IntKind.wrap .u64 a3 = a3 := wu64 (by omega) (by omega)
    have c0 : (0 : Int) ≤ a3 := by omega
    have e1 : min a3.toNat 64 = a3.toNat := by omega
    have e2 : IntKind.wrap .i64 (a1 + a3) = a1 + a3 := wi64 (by omega) (by omega)
    have e3 : IntKind.wrap .i64 (a3 - 1) = a3 - 1 := wi64 (by omega) (by omega)
    simp only [GT.gt, h1, h2, c0, e0, e1, e2, e3, decide_false, decide_true, Bool.not_false, cond_true, pow2, fdiv_pow, Bool.false_or]
    have fin : (bif decide (8192 < a1 + a3) then some ((([], (0 : Int), ()), (3 : Int), ()), ()) else (Loop (g19_s0 a2) ((a0, a1, ()), a3 - 1, ())).bind fun y5 => some ((y5.1, (0 : Int), ()), ())) =
        some (bif decide (8192 < a1 + a3) then (zs, (3 : Int), ()) else (Sp02.enc (Sp02.bits (a0, a1, ()) ++ vbits a2.toNat a3.toNat), 0, ()), ()) := by
      by_cases h5 : 8192 < a1 + a3
      · simp [h5, zs]
      · rw [append_loop a2 hu.1 hu.2 (a0, a1, ()) (a3 - 1) hb hv (by omega) (by omega) (by simp only; omega)]
        simp [h5, show a3 - 1 + 1 = a3 by omega]
    by_cases h3 : a3 < 64
    · by_cases h4 : a2 / 2 ^ a3.toNat = 0
      · simp only [h3, h4, decide_true, Bool.not_true, Bool.and_false, cond_true, cond_false, Option.bind_some]; exact fin
      · simp only [h3, h4, decide_true, decide_false, Bool.not_false, Bool.and_true, cond_true, cond_false, Option.bind_some]; rfl
    · simp only [h3, decide_false, Bool.false_and, cond_true, cond_false, Option.bind_some]; exact fin

theorem g26_ok (a0 : (List Int)) (a1 : Int) (a2 : Int) (a3 : Int) (r0 : (Ty.sl (.int .u8)).ok a0) (r1 : IntKind.i64.has a1) (r2 : IntKind.i64.has a2) (r3 : IntKind.i64.has a3) : g26 a0 a1 a2 a3 = some (Sp02.take (a0, a1, ()) a2 a3, ()) := by
  obtain ⟨hl, hb⟩ := dat r0
  unfold g26 Sp02.take
  cases hv : valid (a0, a1, ()) with
  | false => simp only [Bool.not_false, cond_true]
  | true =>
    obtain ⟨v1, v2, v3, v4⟩ := valid_iff.1 hv
    simp only at v1 v2 v3 v4
    simp only [Bool.not_true, cond_false]
    by_cases h1 : a3 < 0
    · simp [h1]
    by_cases h2 : 64 < a3
    · simp [h1, h2, GT.gt]
    by_cases h3 : a2 < 0
    · simp [h1, h2, h3, GT.gt]
    simp only [GT.gt, h1, h2, h3, decide_false, Bool.not_false, cond_true, cond_false, Option.bind_some, Bool.or_self]
    by_cases h4 : a1 < a2
    · have : a1 - a3 < a2 := by omega
      simp [h4, this]
    · have e1 : IntKind.wrap .i64 (a1 - a2) = a1 - a2 := wi64 (by omega) (by omega)
      simp only [h4, e1, decide_false, Bool.not_false, cond_true, Option.bind_some]
      by_cases h5 : a1 - a2 < a3
      · have : a1 - a3 < a2 := by omega
        simp [h5, this]
      · have k : ¬ a1 - a3 < a2 := by omega
        have c1 : (0 : Int) ≤ a2 := by omega
        have c2 : (0 : Int) ≤ a3 := by omega
        have c3 : a3 ≤ 64 := by omega
        have c4 : a2 + a3 ≤ 8 * (a0.length : Int) := by omega
        simp only [h5, k, c1, c2, c3, c4, decide_true, decide_false, cond_false, Bool.and_self, on_true, Option.bind_some, Int.ofNat_eq_natCast]

theorem g32_ok (a0 : (List Int)) (a1 : Int) (a2 : Int) (a3 : Int) (r0 : (Ty.sl (.int .u8)).ok a0) (r1 : IntKind.i64.has a1) (r2 : IntKind.i64.has a2) (r3 : IntKind.i64.has a3) : g32 a0 a1 a2 a3 = some (Sp02.take (a0, a1, ()) a2 a3, ()) := by
  obtain ⟨hl, hb⟩ := dat r0
  unfold g32 Sp02.take
  cases hv : valid (a0, a1, ()) with
  | false => simp only [Bool.not_false, cond_true]
  | true =>
    obtain ⟨v1, v2, v3, v4⟩ := valid_iff.1 hv
    simp only at v1 v2 v3 v4
    simp only [Bool.not_true, cond_false]
    by_cases h1 : a3 < 0
    · simp [h1]
    by_cases h2 : 64 < a3
    · simp [h1, h2, GT.gt]
    by_cases h3 : a2 < 0
    · simp [h1, h2, h3, GT.gt]
    have e1 : IntKind.wrap .i64 (a1 - a3) = a1 - a3 := wi64 (by omega) (by omega)
    simp only [GT.gt, h1, h2, h3, e1, decide_false, Bool.not_false, cond_true, cond_false, Option.bind_some, Bool.or_self]
    by_cases h4 : a1 - a3 < a2
    · simp [h4]
    · simp only [h4, decide_false, cond_false]
      have e5 : IntKind.wrap .i64 (a2 + a3) = a2 + a3 := wi64 (by omega) (by omega)
      have key : Loop (g32_s0 a0 a2 a3) (a2, (0 : Int), ()) = some (((Sp02.valOf (bitsR a0 a2.toNat a3.toNat) : Nat) : Int), ()) := by
        refine Loop_inv (fun v : Int × Int × Unit => a2 ≤ v.1 ∧ v.1 ≤ a2 + a3 ∧ v.2.1 = ((Sp02.valOf (bitsR a0 a2.toNat (v.1 - a2).toNat) : Nat) : Int)) (fun v : Int × Int × Unit => (a2 + a3 - v.1).toNat)
          (fun _ => (((Sp02.valOf (bitsR a0 a2.toNat a3.toNat) : Nat) : Int), ())) ?_ (v := (a2, 0, ())) ⟨by simp, by simp only; omega, by simp [bitsR0]; rfl⟩
        rintro ⟨i, x, ⟨⟩⟩ ⟨k1, k2, k3⟩
        simp only at k1 k2 k3
        subst k3
        have e2 : IntKind.wrap .i64 (i + 1) = i + 1 := wi64 (by omega) (by omega)
        unfold g32_s0
        simp only [Int.ofNat_eq_natCast, e5, e2]
        by_cases h5 : i < a2 + a3
        · right
          have c1 : (0 : Int) ≤ i := by omega
          have c2 : i < 8 * (a0.length : Int) := by omega
          have hlt := valOf_lt (bitsR a0 a2.toNat (i - a2).toNat)
          rw [bitsR_length] at hlt
          have hp : 2 ^ (i - a2).toNat ≤ 2 ^ 63 := Nat.pow_le_pow_right (by omega) (by omega)
          simp only [h5, c1, c2, decide_true, cond_true, Bool.and_self, on_true, Option.bind_some]
          rw [or_snoc (by omega)]
          refine ⟨_, rfl, ⟨by simp only; omega, by simp only; omega, ?_⟩, by simp only; omega, trivial⟩
          simp only
          rw [show (i + 1 - a2).toNat = (i - a2).toNat + 1 by omega, bitsR_snoc, valOf_snoc, show a2.toNat + (i - a2).toNat = i.toNat by omega]
        · left
          have : i = a2 + a3 := by omega
          subst this
          simp only [h5, decide_false, cond_false]
          rw [show (a2 + a3 - a2).toNat = a3.toNat by omega]
      rw [key]
      rfl

theorem g20_ok (a0 : (List Int)) (a1 : Int) (a2 : (List Int)) (a3 : Int) (r0 : (Ty.sl (.int .u8)).ok a0) (r1 : IntKind.i64.has a1) (r2 : (Ty.sl (.int .u8)).ok a2) (r3 : IntKind.i64.has a3) : g20 a0 a1 a2 a3 = some (Sp02.same (a0, a1, ()) (a2, a3, ()), ()) := by
  unfold g20 Sp02.same
  have e : List.beq a0 a2 = decide (a0 = a2) := by
    have : (a0 == a2) = decide (a0 = a2) := by
      by_cases h : a0 = a2
      · subst h; simp
      · simp [h]
    exact this
  rw [e]
  by_cases h1 : a1 = a3
  · simp [h1]
  · simp [h1]

/-- One step of the check number. -/
theorem crc_lt (r : Nat) (b : Bool) : crcB r b < 65536 := by
  unfold crcB
  cases hb : (Nat.testBit r 15 == b) with
  | true => simp only [cond_true]; omega
  | false => exact Nat.xor_lt_two_pow (n := 16) (by omega) (by omega)
theorem top_bit {r : Nat} (h : r < 65536) : (r : Int).fdiv 32768 = b2i (Nat.testBit r 15) := by
  rw [Int.fdiv_eq_ediv_of_nonneg _ (by omega), Nat.testBit_eq_decide_div_mod_eq]
  unfold b2i
  by_cases k : r / 2 ^ 15 % 2 = 1
  · rw [decide_eq_true k, cond_true]; omega
  · rw [decide_eq_false k, cond_false]; omega
theorem shl_and {r : Nat} (h : r < 65536) : IntKind.wrap .u64 ((BitVec.and (BitVec.ofInt 64 (IntKind.wrap .u64 ((r : Int) * 2))) (BitVec.ofInt 64 65535)).toNat : Int) = ((2 * r % 65536 : Nat) : Int) := by
  rw [wu64 (n := (r : Int) * 2) (by omega) (by omega), bvand (by omega) (by omega) (by omega) (by omega)]
  have : ((r : Int) * 2).toNat &&& Int.toNat 65535 = 2 * r % 65536 := by
    rw [show ((r : Int) * 2).toNat = 2 * r by omega]
    exact Nat.and_two_pow_sub_one_eq_mod (2 * r) 16
  rw [this]
  exact wu64 (by omega) (by omega)
theorem xor_poly {r : Nat} (h : r < 65536) : IntKind.wrap .u64 ((BitVec.xor (BitVec.ofInt 64 (r : Int)) (BitVec.ofInt 64 4129)).toNat : Int) = ((Nat.xor r 4129 : Nat) : Int) := by
  rw [bvxor (by omega) (by omega) (by omega) (by omega)]
  have : Nat.xor r 4129 < 2 ^ 16 := Nat.xor_lt_two_pow (by omega) (by omega)
  exact wu64 (by omega) (by show ((Nat.xor r 4129 : Nat) : Int) < _; omega)
theorem crc_step {r : Nat} {b : Bool} (h : r < 65536) : (b2i (Nat.testBit r 15) = b2i b) = ((Nat.testBit r 15 == b) = true) := by
  cases Nat.testBit r 15 <;> cases b <;> simp [b2i]
theorem crc_bits (l : List Int) (n : Nat) : crc (bitsR l 0 n) < 65536 := by
  cases n with
  | zero => rw [bitsR0]; decide
  | succ n => rw [bitsR_snoc]; unfold crc; rw [List.foldl_append]; exact crc_lt _ _
theorem crc_snoc (l : List Int) (n : Nat) : crc (bitsR l 0 (n + 1)) = crcB (crc (bitsR l 0 n)) (bitAt l n) := by
  rw [bitsR_snoc]; unfold crc; rw [List.foldl_append, Nat.zero_add]; rfl

theorem check_loop1 (l : List Int) (n : Int) (h0 : 0 ≤ n) (hn : n ≤ 8192) (hl : n ≤ 8 * (l.length : Int)) : Loop (g21_s0 l n) ((0 : Int), (65535 : Int), ()) = some (((crc (bitsR l 0 n.toNat) : Nat) : Int), ()) := by
  refine Loop_inv (fun v : Int × Int × Unit => 0 ≤ v.1 ∧ v.1 ≤ n ∧ v.2.1 = ((crc (bitsR l 0 v.1.toNat) : Nat) : Int)) (fun v : Int × Int × Unit => (n - v.1).toNat)
    (fun _ => (((crc (bitsR l 0 n.toNat) : Nat) : Int), ())) ?_ (v := (0, 65535, ())) ⟨by simp, h0, rfl⟩
  rintro ⟨i, x, ⟨⟩⟩ ⟨k1, k2, k3⟩
  simp only at k1 k2 k3
  subst k3
  have e1 : IntKind.wrap .i64 (i + 1) = i + 1 := wi64 (by omega) (by omega)
  have hr := crc_bits l i.toNat
  unfold g21_s0
  by_cases h5 : i < n
  · right
    have c2 : i < 8 * (l.length : Int) := by omega
    have hm : 2 * crc (bitsR l 0 i.toNat) % 65536 < 65536 := Nat.mod_lt _ (by omega)
    simp only [h5, k1, c2, e1, decide_true, cond_true, Bool.and_self, on_true, Option.bind_some, Int.ofNat_eq_natCast, top_bit hr, shl_and hr, xor_poly hm, crc_step hr]
    have hs := crc_snoc l i.toNat
    cases hb : (Nat.testBit (crc (bitsR l 0 i.toNat)) 15 == bitAt l i.toNat) with
    | true =>
      refine ⟨_, by simp only [decide_true, cond_true]; rfl, ⟨by simp only; omega, by simp only; omega, ?_⟩, by simp only; omega, trivial⟩
      simp only
      rw [show (i + 1).toNat = i.toNat + 1 by omega, hs, crcB, hb, cond_true]
    | false =>
      refine ⟨_, by simp only [Bool.false_eq_true, decide_false, cond_false]; rfl, ⟨by simp only; omega, by simp only; omega, ?_⟩, by simp only; omega, trivial⟩
      simp only
      rw [show (i + 1).toNat = i.toNat + 1 by omega, hs, crcB, hb, cond_false]
  · left
    have : i = n := by omega
    subst this
    simp only [h5, decide_false, cond_false]
theorem check_loop2 (l : List Int) (n : Int) (h0 : 0 ≤ n) (hn : n ≤ 8192) (hl : n ≤ 8 * (l.length : Int)) : Loop (g22_s0 l n) ((0 : Int), (65535 : Int), ()) = some (((crc (bitsR l 0 n.toNat) : Nat) : Int), ()) := by
  refine Loop_inv (fun v : Int × Int × Unit => 0 ≤ v.1 ∧ v.1 ≤ n ∧ v.2.1 = ((crc (bitsR l 0 v.1.toNat) : Nat) : Int)) (fun v : Int × Int × Unit => (n - v.1).toNat)
    (fun _ => (((crc (bitsR l 0 n.toNat) : Nat) : Int), ())) ?_ (v := (0, 65535, ())) ⟨by simp, h0, rfl⟩
  rintro ⟨i, x, ⟨⟩⟩ ⟨k1, k2, k3⟩
  simp only at k1 k2 k3
  subst k3
  have e1 : IntKind.wrap .i64 (i + 1) = i + 1 := wi64 (by omega) (by omega)
  have hr := crc_bits l i.toNat
  unfold g22_s0
  by_cases h5 : i < n
  · right
    have c2 : i < 8 * (l.length : Int) := by omega
    have hm : 2 * crc (bitsR l 0 i.toNat) % 65536 < 65536 := Nat.mod_lt _ (by omega)
    simp only [h5, k1, c2, e1, decide_true, cond_true, Bool.and_self, on_true, Option.bind_some, Int.ofNat_eq_natCast, top_bit hr, shl_and hr, xor_poly hm, crc_step hr]
    have hs := crc_snoc l i.toNat
    cases hb : (Nat.testBit (crc (bitsR l 0 i.toNat)) 15 == bitAt l i.toNat) with
    | true =>
      refine ⟨_, by simp only [decide_true, Bool.not_true, cond_false, Option.bind_some]; rfl, ⟨by simp only; omega, by simp only; omega, ?_⟩, by simp only; omega, trivial⟩
      simp only
      rw [show (i + 1).toNat = i.toNat + 1 by omega, hs, crcB, hb, cond_true]
    | false =>
      refine ⟨_, by simp only [Bool.false_eq_true, decide_false, Bool.not_false, cond_true, Option.bind_some]; rfl, ⟨by simp only; omega, by simp only; omega, ?_⟩, by simp only; omega, trivial⟩
      simp only
      rw [show (i + 1).toNat = i.toNat + 1 by omega, hs, crcB, hb, cond_false]
  · left
    have : i = n := by omega
    subst this
    simp only [h5, decide_false, cond_false]

theorem g21_ok (a0 : (List Int)) (a1 : Int) (r0 : (Ty.sl (.int .u8)).ok a0) (r1 : IntKind.i64.has a1) : g21 a0 a1 = some (Sp02.check (a0, a1, ()), ()) := by
  obtain ⟨hl, hb⟩ := dat r0
  unfold g21 Sp02.check
  cases hv : valid (a0, a1, ()) with
  | false => simp only [Bool.not_false, cond_true]
  | true =>
    obtain ⟨v1, v2, v3, v4⟩ := valid_iff.1 hv
    simp only at v1 v2 v3 v4
    rw [check_loop1 a0 a1 v1 v2 (by omega)]
    rfl

theorem g22_ok (a0 : (List Int)) (a1 : Int) (r0 : (Ty.sl (.int .u8)).ok a0) (r1 : IntKind.i64.has a1) : g22 a0 a1 = some (Sp02.check (a0, a1, ()), ()) := by
  obtain ⟨hl, hb⟩ := dat r0
  unfold g22 Sp02.check
  cases hv : valid (a0, a1, ()) with
  | false => simp only [Bool.not_false, cond_true]
  | true =>
    obtain ⟨v1, v2, v3, v4⟩ := valid_iff.1 hv
    simp only at v1 v2 v3 v4
    rw [check_loop2 a0 a1 v1 v2 (by omega)]
    rfl

theorem pow_128 : ∀ m : Nat, m < 8 → (128 : Int) / 2 ^ m = 2 ^ (7 - m) := by
  intro m hm
  match m, hm with
  | 0, _ => rfl
  | 1, _ => rfl
  | 2, _ => rfl
  | 3, _ => rfl
  | 4, _ => rfl
  | 5, _ => rfl
  | 6, _ => rfl
  | 7, _ => rfl

theorem g24_ok (a0 : (List Int)) (a1 : Int) (a2 : Int) (r0 : (Ty.sl (.int .u8)).ok a0) (r1 : IntKind.i64.has a1) (r2 : IntKind.i64.has a2) (h : (decide (0 ≤ a2) && decide (a2 < 8 * (a0.length : Int))) = true) : g24 a0 a1 a2 = some (Sp02.flip (a0, a1, ()) a2, ()) := by
  simp only [Bool.and_eq_true, decide_eq_true_eq] at h
  obtain ⟨hl, hb⟩ := dat r0
  have e1 : Int.tdiv a2 8 = a2 / 8 := tdiv_nn h.1
  have e2 : Int.tmod a2 8 = a2 % 8 := tmod_nn h.1
  have e3 : IntKind.wrap .i64 (a2 / 8) = a2 / 8 := wi64 (by omega) (by omega)
  have e5 : IntKind.wrap .u64 (a2 % 8) = a2 % 8 := wu64 (by omega) (by omega)
  have e6 : min (a2 % 8).toNat 8 = (a2 % 8).toNat := by omega
  have c1 : (0 : Int) ≤ a2 / 8 := by omega
  have c2 : a2 / 8 < (a0.length : Int) := by omega
  have c3 : (0 : Int) ≤ a2 % 8 := by omega
  have c4 : Nat.blt (a2 / 8).toNat a0.length = true := blt_t (by omega)
  have hx := bytesOk_getD hb (a2 / 8).toNat
  have p1 : (2 : Int) ^ (7 - (a2 % 8).toNat) < 256 := by
    have : (2 : Nat) ^ (7 - (a2 % 8).toNat) < 2 ^ 8 := Nat.pow_lt_pow_right (by omega) (by omega)
    rw [pow_cast]; omega
  have p0 := pow2_pos (7 - (a2 % 8).toNat)
  unfold g24
  rw [ble_t (by omega : (0 + a0.length) * 1 ≤ 140737488355328), cond_true]
  simp only [List.nil_append, e1, e2, e3, e5, e6, c1, c2, c3, c4, decide_true, cond_true, Bool.and_self, Int.ofNat_eq_natCast, pow2, fdiv_pow, pow_128 _ (show (a2 % 8).toNat < 8 by omega)]
  unfold Sp02.flip
  congr 3
  rw [show (a2 / 8).toNat = a2.toNat / 8 by omega] at hx ⊢
  rw [bvxor hx.1 (by omega) (by omega) (by omega)]
  have hk : (a0.getD (a2.toNat / 8) 0).toNat ^^^ ((2 : Int) ^ (7 - (a2 % 8).toNat)).toNat < 2 ^ 8 := Nat.xor_lt_two_pow (by omega) (by omega)
  rw [wu8 (by omega) (by omega)]
  have : ((2 : Int) ^ (7 - (a2 % 8).toNat)).toNat = 2 ^ (7 - a2.toNat % 8) := by
    rw [pow_cast, Int.toNat_natCast]; congr 2; omega
  rw [this]
  rfl
end Go.Abs.C02

/- Chapter 02: the functions keep their contracts: joining, parts, streams of a tape. -/
namespace Go.Abs.C02
open Go Go.Proofs Sp02

theorem b2i_one (b : Bool) : decide (b2i b = 1) = b := by cases b <;> decide
theorem put_loop (l : List Int) (e : Int) (he : e ≤ 8 * (l.length : Int)) (hl : l.length ≤ 140737488355328) (s : S) (i : Int) (hb : bytesOk s.1) (hv : valid s = true) (h0 : 0 ≤ i) (hbn : s.2.1 + (e - i) ≤ 8192) :
    Loop (g28_s0 l e) (i, s, ()) = some (Sp02.enc (Sp02.bits s ++ bitsR l i.toNat (e - i).toNat), ()) := by
  refine Loop_inv (fun v : Int × S × Unit => bytesOk v.2.1.1 ∧ valid v.2.1 = true ∧ 0 ≤ v.1 ∧ v.2.1.2.1 + (e - v.1) ≤ 8192) (fun v : Int × S × Unit => (e - v.1).toNat)
    (fun v : Int × S × Unit => (Sp02.enc (Sp02.bits v.2.1 ++ bitsR l v.1.toNat (e - v.1).toNat), ())) ?_ (v := (i, s, ())) ⟨hb, hv, h0, hbn⟩
  rintro ⟨i, s, ⟨⟩⟩ ⟨i1, i2, i3, i4⟩
  simp only at i1 i2 i3 i4
  obtain ⟨v1, v2, v3, v4⟩ := valid_iff.1 i2
  unfold g28_s0
  by_cases hi : i < e
  · right
    have c1 : i < 8 * (l.length : Int) := by omega
    have e1 : IntKind.wrap .i64 (i + 1) = i + 1 := wi64 (by omega) (by omega)
    simp only [hi, i3, c1, i2, e1, decide_true, cond_true, Bool.and_self, on_true, Option.bind_some, Int.ofNat_eq_natCast, b2i_one]
    have hlen : (Sp02.bits s ++ [bitAt l i.toNat]).length = s.2.1.toNat + 1 := by simp [bits_length]
    refine ⟨_, rfl, ⟨enc_ok _, valid_enc (by omega), by simp only; omega, ?_⟩, by simp only; omega, ?_⟩
    · show ((Sp02.bits s ++ [bitAt l i.toNat]).length : Int) + (e - (i + 1)) ≤ 8192
      rw [hlen]; omega
    · simp only
      rw [bits_enc, List.append_assoc, show (e - i).toNat = 1 + (e - (i + 1)).toNat by omega, bitsR_add, show (i + 1).toNat = i.toNat + 1 by omega]
      rfl
  · left
    simp only [hi, decide_false, cond_false]
    rw [show (e - i).toNat = 0 by omega, bitsR0, List.append_nil, enc_bits i2 i1]

theorem g27_ok (a0 : (List Int)) (a1 : Int) (a2 : (List Int)) (a3 : Int) (r0 : (Ty.sl (.int .u8)).ok a0) (r1 : IntKind.i64.has a1) (r2 : (Ty.sl (.int .u8)).ok a2) (r3 : IntKind.i64.has a3) : g27 a0 a1 a2 a3 = some (Sp02.join (a0, a1, ()) (a2, a3, ()), ()) := by
  unfold g27 Sp02.join
  cases hv : valid (a0, a1, ()) with
  | false => simp [zs]
  | true => cases hw : valid (a2, a3, ()) with
    | false => simp [zs]
    | true =>
      obtain ⟨v1, v2, v3, v4⟩ := valid_iff.1 hv
      obtain ⟨w1, w2, w3, w4⟩ := valid_iff.1 hw
      simp only at v1 v2 v3 v4 w1 w2 w3 w4
      have e1 : IntKind.wrap .i64 (a1 + a3) = a1 + a3 := wi64 (by omega) (by omega)
      simp only [Bool.not_true, Bool.not_false, cond_true, cond_false, Option.bind_some, e1, GT.gt, Bool.and_self]
      by_cases h1 : 8192 < a1 + a3
      · simp [h1, zs]
      · have c1 : a3 ≤ 8 * (a2.length : Int) := by omega
        have c2 : a1 + a3 ≤ 8192 := by omega
        simp only [h1, c1, c2, Int.sub_zero, Int.le_refl, decide_true, decide_false, cond_false, Bool.and_self, on_true, Option.bind_some, Int.ofNat_eq_natCast]
        rfl

theorem g28_ok (a0 : (List Int)) (a1 : Int) (a2 : (List Int)) (a3 : Int) (r0 : (Ty.sl (.int .u8)).ok a0) (r1 : IntKind.i64.has a1) (r2 : (Ty.sl (.int .u8)).ok a2) (r3 : IntKind.i64.has a3) : g28 a0 a1 a2 a3 = some (Sp02.join (a0, a1, ()) (a2, a3, ()), ()) := by
  obtain ⟨hl, hb⟩ := dat r0
  obtain ⟨hl2, hb2⟩ := dat r2
  unfold g28 Sp02.join
  cases hv : valid (a0, a1, ()) with
  | false => simp [zs]
  | true => cases hw : valid (a2, a3, ()) with
    | false => simp [zs]
    | true =>
      obtain ⟨v1, v2, v3, v4⟩ := valid_iff.1 hv
      obtain ⟨w1, w2, w3, w4⟩ := valid_iff.1 hw
      simp only at v1 v2 v3 v4 w1 w2 w3 w4
      have e1 : IntKind.wrap .i64 (a1 + a3) = a1 + a3 := wi64 (by omega) (by omega)
      simp only [Bool.not_true, Bool.not_false, cond_true, cond_false, Option.bind_some, e1, GT.gt, Bool.and_self]
      by_cases h1 : 8192 < a1 + a3
      · simp [h1, zs]
      · simp only [h1, decide_false, cond_false]
        rw [put_loop a2 a3 (by omega) hl2 (a0, a1, ()) 0 hb hv (by omega) (by simp only; omega), Int.sub_zero]
        rfl

theorem g29_ok (a0 : (List Int)) (a1 : Int) (r0 : (Ty.sl (.int .u8)).ok a0) (r1 : IntKind.i64.has a1) : g29 a0 a1 = some (Sp02.align (a0, a1, ()), ()) := by
  obtain ⟨hl, hb⟩ := dat r0
  unfold g29 Sp02.align
  cases hv : valid (a0, a1, ()) with
  | false => rfl
  | true =>
    have e1 : IntKind.wrap .i64 (8 * (a0.length : Int)) = 8 * (a0.length : Int) := wi64 (by omega) (by omega)
    simp only [Bool.not_true, cond_false, Int.ofNat_eq_natCast, e1]

theorem align_loop (s : S) (hb : bytesOk s.1) (hv : valid s = true) : Loop g30_s0 (s, ()) = some ((s.1, 8 * (s.1.length : Int), ()), ()) := by
  refine Loop_inv (fun v : S × Unit => bytesOk v.1.1 ∧ valid v.1 = true) (fun v : S × Unit => (8 * v.1.1.length - v.1.2.1.toNat))
    (fun v : S × Unit => ((v.1.1, 8 * (v.1.1.length : Int), ()), ())) ?_ (v := (s, ())) ⟨hb, hv⟩
  rintro ⟨⟨l, n, ⟨⟩⟩, ⟨⟩⟩ ⟨i1, i2⟩
  simp only at i1 i2
  obtain ⟨v1, v2, v3, v4⟩ := valid_iff.1 i2
  simp only at v1 v2 v3 v4
  unfold g30_s0
  have e1 : Int.tmod n 8 = n % 8 := tmod_nn v1
  simp only [e1]
  by_cases h : n % 8 = 0
  · left
    have : 8 * (l.length : Int) = n := by omega
    simp only [h, decide_true, Bool.not_true, cond_false, this]
  · right
    have k : ((l, n + 1, ()) : S) = Sp02.enc (Sp02.bits (l, n, ()) ++ [false]) := by
      refine eq_enc i1 (by simp [bits_length]; omega) (by omega) fun i hi => ?_
      rw [getD_append, bits_length, bits_getD]
      simp only
      split
      · rfl
      · rw [v4 i (by omega)]
        cases hk : i - n.toNat with
        | zero => rfl
        | succ m => rfl
    have hd : decide ((0 : Int) = 1) = false := rfl
    simp only [h, decide_false, Bool.not_false, cond_true, i2, on_true, Option.bind_some, hd]
    rw [← k]
    refine ⟨_, rfl, ⟨i1, ?_⟩, by simp only; omega, rfl⟩
    rw [k]
    exact valid_enc (by simp [bits_length]; omega)

theorem g30_ok (a0 : (List Int)) (a1 : Int) (r0 : (Ty.sl (.int .u8)).ok a0) (r1 : IntKind.i64.has a1) : g30 a0 a1 = some (Sp02.align (a0, a1, ()), ()) := by
  obtain ⟨hl, hb⟩ := dat r0
  unfold g30 Sp02.align
  cases hv : valid (a0, a1, ()) with
  | false => rfl
  | true =>
    rw [align_loop _ hb hv]
    rfl

theorem valid_nil : valid ([], (0 : Int), ()) = true := by decide
theorem bits_nil : Sp02.bits ([], (0 : Int), ()) = [] := rfl

theorem g33_ok (a0 : (List Int)) (a1 : Int) (a2 : Int) (a3 : Int) (r0 : (Ty.sl (.int .u8)).ok a0) (r1 : IntKind.i64.has a1) (r2 : IntKind.i64.has a2) (r3 : IntKind.i64.has a3) : g33 a0 a1 a2 a3 = some (Sp02.slice (a0, a1, ()) a2 a3, ()) := by
  unfold g33 Sp02.slice
  cases hv : valid (a0, a1, ()) with
  | false => rfl
  | true =>
    obtain ⟨v1, v2, v3, v4⟩ := valid_iff.1 hv
    simp only at v1 v2 v3 v4
    simp only [Bool.not_true, cond_false, GT.gt]
    by_cases h1 : a2 < 0
    · simp [h1, zs]
    by_cases h2 : a3 < a2
    · simp [h1, h2, zs]
    by_cases h3 : a1 < a3
    · simp [h1, h2, h3, zs]
    have c1 : 0 ≤ a2 := by omega
    have c2 : a3 ≤ 8 * (a0.length : Int) := by omega
    have c3 : 0 + (a3 - a2) ≤ 8192 := by omega
    simp only [h1, h2, h3, c1, c2, c3, valid_nil, bits_nil, List.nil_append, decide_true, decide_false, Bool.not_false, cond_true, cond_false, Bool.and_self, Bool.or_self, on_true, Option.bind_some, Int.ofNat_eq_natCast]

theorem s34 : @g34_s0 = @g28_s0 := rfl
theorem g34_ok (a0 : (List Int)) (a1 : Int) (a2 : Int) (a3 : Int) (r0 : (Ty.sl (.int .u8)).ok a0) (r1 : IntKind.i64.has a1) (r2 : IntKind.i64.has a2) (r3 : IntKind.i64.has a3) : g34 a0 a1 a2 a3 = some (Sp02.slice (a0, a1, ()) a2 a3, ()) := by
  obtain ⟨hl, hb⟩ := dat r0
  unfold g34 Sp02.slice
  cases hv : valid (a0, a1, ()) with
  | false => rfl
  | true =>
    obtain ⟨v1, v2, v3, v4⟩ := valid_iff.1 hv
    simp only at v1 v2 v3 v4
    simp only [Bool.not_true, cond_false, GT.gt]
    by_cases h1 : a2 < 0
    · simp [h1, zs]
    by_cases h2 : a3 < a2
    · simp [h1, h2, zs]
    by_cases h3 : a1 < a3
    · simp [h1, h2, h3, zs]
    simp only [h1, h2, h3, decide_false, Bool.not_false, cond_true, cond_false, Bool.or_self, Option.bind_some]
    rw [s34, put_loop a0 a3 (by omega) hl ([], 0, ()) a2 (fun x hx => by cases hx) valid_nil (by omega) (by simp only; omega), bits_nil, List.nil_append]
    rfl

theorem bitsN_length : ∀ (n : Nat) (t : Tp) (acc : List Bool), (bitsN n t acc).1.length = acc.length + n
  | 0, _, _ => rfl
  | n + 1, t, acc => by unfold bitsN; rw [bitsN_length n]; simp; omega
theorem bitsN_wf : ∀ (n : Nat) (t : Tp) (acc : List Bool), wf t = true → wf (bitsN n t acc).2 = true
  | 0, _, _, h => h
  | n + 1, t, acc, h => by unfold bitsN; exact bitsN_wf n _ _ (next_wf h)
theorem stream_loop (n : Int) (s : S) (t : Tp) (hb : bytesOk s.1) (hv : valid s = true) (hw : wf t = true) (h0 : 0 ≤ n) (hn : s.2.1 + n ≤ 8192) :
    Loop g12_s0 (n, s, t, ()) = some (Sp02.enc (bitsN n.toNat t (Sp02.bits s)).1, (bitsN n.toNat t (Sp02.bits s)).2, ()) := by
  refine Loop_inv (fun v : Int × S × Tp × Unit => bytesOk v.2.1.1 ∧ valid v.2.1 = true ∧ wf v.2.2.1 = true ∧ 0 ≤ v.1 ∧ v.2.1.2.1 + v.1 ≤ 8192) (fun v : Int × S × Tp × Unit => v.1.toNat)
    (fun v : Int × S × Tp × Unit => (Sp02.enc (bitsN v.1.toNat v.2.2.1 (Sp02.bits v.2.1)).1, (bitsN v.1.toNat v.2.2.1 (Sp02.bits v.2.1)).2, ())) ?_ (v := (n, s, t, ())) ⟨hb, hv, hw, h0, hn⟩
  rintro ⟨n, s, t, ⟨⟩⟩ ⟨i1, i2, i3, i4, i5⟩
  simp only at i1 i2 i3 i4 i5
  obtain ⟨v1, v2, v3, v4⟩ := valid_iff.1 i2
  unfold g12_s0
  by_cases hi : 0 < n
  · right
    have hx := next_range (t := t) (n := 2) (by omega)
    have e1 : IntKind.wrap .u64 (next t 2).1 = (next t 2).1 := wu64 (by omega) (by omega)
    have e2 : IntKind.wrap .i64 (n - 1) = n - 1 := wi64 (by omega) (by omega)
    simp only [GT.gt, hi, decide_true, cond_true, i3, i2, on_true, Option.bind_some, e1, e2]
    have hlen : (Sp02.bits s ++ [decide ((next t 2).1 = 1)]).length = s.2.1.toNat + 1 := by simp [bits_length]
    refine ⟨_, rfl, ⟨enc_ok _, valid_enc (by omega), next_wf (n := 2) i3, by simp only; omega, ?_⟩, by simp only; omega, ?_⟩
    · show ((Sp02.bits s ++ [decide ((next t 2).1 = 1)]).length : Int) + (n - 1) ≤ 8192
      rw [hlen]; omega
    · simp only
      rw [bits_enc, show n.toNat = (n - 1).toNat + 1 by omega]
      rfl
  · left
    have : n = 0 := by omega
    subst this
    simp only [GT.gt, hi, decide_false, cond_false]
    show some (Sum.inr (s, t, ())) = some (Sum.inr (Sp02.enc (Sp02.bits s), t, ()))
    rw [enc_bits i2 i1]

theorem g12_ok (a0 : (List Int)) (a1 : Int) (a2 : Int) (a3 : Int) (r0 : (Ty.sl (.int .i64)).ok a0) (r1 : IntKind.i64.has a1) (r2 : IntKind.i64.has a2) (r3 : IntKind.i64.has a3) (h : (Sp02.wf (a0, a1, ()) && decide (0 ≤ a2) && decide (a2 ≤ 1000) && Sp02.small a3) = true) : g12 a0 a1 a2 a3 = some (Sp02.stream (a0, a1, ()) a2 a3) := by
  simp only [Bool.and_eq_true, decide_eq_true_eq] at h
  obtain ⟨⟨⟨h1, h2⟩, h3⟩, h4⟩ := h
  have sm : small a2 = true := small_iff.2 (by omega)
  have s0 : small 0 = true := rfl
  have hr := range_in (t := (a0, a1, ())) (a := 0) (b := a2) h2
  have w1 := range_wf (a := 0) (b := a2) h1
  unfold g12 Sp02.stream
  simp only [h1, s0, sm, Bool.and_self, on_true, Option.bind_some]
  rw [stream_loop _ ([], 0, ()) _ (fun x hx => by cases hx) valid_nil w1 hr.1 (by simp only; omega), bits_nil]
  have hbl := bitsN_length (range (a0, a1, ()) 0 a2).1.toNat (range (a0, a1, ()) 0 a2).2 []
  have w2 := bitsN_wf (range (a0, a1, ()) 0 a2).1.toNat (range (a0, a1, ()) 0 a2).2 [] w1
  generalize hbn : bitsN (range (a0, a1, ()) 0 a2).1.toNat (range (a0, a1, ()) 0 a2).2 [] = bt at hbl w2
  obtain ⟨bs, t⟩ := bt
  simp only [List.length_nil, Nat.zero_add] at hbl w2
  simp only [Option.bind_some, GT.gt]
  by_cases hp : 0 < a3
  · simp only [hp, decide_true, cond_true, w2, h4, Bool.and_self, on_true, Option.bind_some]
    have w3 := one_wf (n := a3) w2
    cases ho : (one t a3).1 with
    | false => simp only [cond_false, Option.bind_some]
    | true =>
      have q := next_range (t := (one t a3).2) (n := 4) (by omega)
      have w4 := next_wf (n := 4) w3
      have sm2 : small (-2) = true := rfl
      have sm9 : small 9 = true := rfl
      simp only [cond_true, w3, on_true, Option.bind_some]
      unfold Sp02.spoil
      simp only
      by_cases q0 : (next (one t a3).2 4).1 = 0
      · have hr2 := range_in (t := (next (one t a3).2 4).2) (a := -2) (b := 9) (by omega)
        have e5 : IntKind.wrap .i64 ((Sp02.enc bs).2.1 + (range (next (one t a3).2 4).2 (-2) 9).1) = (Sp02.enc bs).2.1 + (range (next (one t a3).2 4).2 (-2) 9).1 := by
          refine wi64 ?_ ?_ <;> simp only [Sp02.enc] <;> omega
        simp only [q0, decide_true, cond_true, w4, sm2, sm9, Bool.and_self, on_true, Option.bind_some, e5]
      · by_cases q1 : (next (one t a3).2 4).1 = 1
        · have hx := next_range (t := (next (one t a3).2 4).2) (n := 2) (by omega)
          have e5 : IntKind.wrap .u8 (next (next (one t a3).2 4).2 2).1 = (next (next (one t a3).2 4).2 2).1 := wu8 (by omega) (by omega)
          have e6 : Nat.ble (((Sp02.enc bs).1.length + 1) * 1) 140737488355328 = true := ble_t (by simp [Sp02.enc, pack_length]; omega)
          simp only [q0, q1, decide_true, decide_false, cond_true, cond_false, w4, on_true, Option.bind_some, e5, e6]
          rfl
        · by_cases q2 : (next (one t a3).2 4).1 = 2
          · simp only [q0, q1, q2, decide_true, decide_false, cond_true, cond_false, w4, on_true, Option.bind_some]
            rfl
          · simp only [q0, q1, q2, decide_false, cond_false, Int.ofNat_eq_natCast]
            unfold bytes1
            have hl9 : (Sp02.enc bs).1.length ≤ 2000 := by simp [Sp02.enc, pack_length]; omega
            by_cases q3 : 0 < ((Sp02.enc bs).1.length : Int)
            · have q4 : 0 < (Sp02.enc bs).1.length := by omega
              have e5 : IntKind.wrap .i64 (((Sp02.enc bs).1.length : Int) - 1) = ((Sp02.enc bs).1.length : Int) - 1 := wi64 (by omega) (by omega)
              have c1 : (0 : Int) ≤ ((Sp02.enc bs).1.length : Int) - 1 := by omega
              have c2 : ((Sp02.enc bs).1.length : Int) - 1 < ((Sp02.enc bs).1.length : Int) := by omega
              have n1 : (((Sp02.enc bs).1.length : Int) - 1).toNat = (Sp02.enc bs).1.length - 1 := by omega
              have c3 : Nat.blt ((Sp02.enc bs).1.length - 1) (Sp02.enc bs).1.length = true := blt_t (by omega)
              have hx := bytesOk_getD (enc_ok bs) ((Sp02.enc bs).1.length - 1)
              obtain ⟨o1, o2⟩ := or_byte (x := (Sp02.enc bs).1.getD ((Sp02.enc bs).1.length - 1) 0) (y := 1) hx.1 hx.2 (by omega) (by omega)
              simp only [q3, q4, e5, c1, c2, n1, c3, decide_true, cond_true, Bool.and_self, Option.bind_some, o1]
              rfl
            · have q4 : ¬ 0 < (Sp02.enc bs).1.length := by omega
              simp only [q3, q4, decide_false, cond_false, Option.bind_some]
  · simp only [hp, decide_false, cond_false, Option.bind_some]
theorem g15_ok   : g15  = some (true, ()) := by
  kernel_rfl
end Go.Abs.C02

/- Chapter 02: the functions keep their contracts. -/
namespace Go.Abs.C02
open Go Go.Proofs
theorem ok38 : FunOk Try.prog B 38 c38 := glue L0 gam_nil plan38 Try.func38 (by kernel_rfl) (by
  rintro ⟨⟨⟩, a0, ⟨⟩⟩ y r h
  obtain ⟨h1, h2⟩ := Sp02.on_some h
  subst h2
  exact (g38_eq a0).trans (g38_ok a0 r.2.1 h1))
theorem all38 : ∀ g con, lookC L38 g = some con → FunOk Try.prog B g con := gam_cons rfl ok38 gam_nil

theorem ok39 : FunOk Try.prog B 39 c39 := glue L38 all38 plan39 Try.func39 (by kernel_rfl) (by
  rintro ⟨⟨⟩, a0, a1, ⟨⟩⟩ y r h
  obtain ⟨h1, h2⟩ := Sp02.on_some h
  subst h2
  exact (g39_eq a0 a1).trans (g39_ok a0 a1 r.2.1 r.2.2.1 h1))
theorem all39 : ∀ g con, lookC L39 g = some con → FunOk Try.prog B g con := gam_cons rfl ok39 all38

theorem ok43 : FunOk Try.prog B 43 c43 := glue L39 all39 plan43 Try.func43 (by kernel_rfl) (by
  rintro ⟨⟨⟩, ⟨a0, a1, ⟨⟩⟩, a2, ⟨⟩⟩ y r h
  obtain ⟨h1, h2⟩ := Sp02.on_some h
  subst h2
  exact (g43_eq a0 a1 a2).trans (g43_ok a0 a1 a2 r.2.1.1 r.2.1.2.1 r.2.2.1 h1))
theorem all43 : ∀ g con, lookC L43 g = some con → FunOk Try.prog B g con := gam_cons rfl ok43 all39

theorem ok13 : FunOk Try.prog B 13 c13 := glue L43 all43 plan13 Try.func13 (by kernel_rfl) (by
  rintro ⟨⟨⟩, ⟨a0, a1, ⟨⟩⟩, ⟨⟩⟩ y r h
  exact (g13_eq a0 a1).trans ((g13_ok a0 a1 r.2.1.1 r.2.1.2.1).trans h))
theorem all13 : ∀ g con, lookC L13 g = some con → FunOk Try.prog B g con := gam_cons rfl ok13 all43

theorem ok14 : FunOk Try.prog B 14 c14 := glue L13 all13 plan14 Try.func14 (by kernel_rfl) (by
  rintro ⟨⟨⟩, ⟨a0, a1, ⟨⟩⟩, ⟨⟩⟩ y r h
  exact (g14_eq a0 a1).trans ((g14_ok a0 a1 r.2.1.1 r.2.1.2.1).trans h))
theorem all14 : ∀ g con, lookC L14 g = some con → FunOk Try.prog B g con := gam_cons rfl ok14 all13

theorem ok17 : FunOk Try.prog B 17 c17 := glue L14 all14 plan17 Try.func17 (by kernel_rfl) (by
  rintro ⟨⟨⟩, a0, ⟨⟩⟩ y r h
  exact (g17_eq a0).trans ((g17_ok a0 r.2.1).trans h))
theorem all17 : ∀ g con, lookC L17 g = some con → FunOk Try.prog B g con := gam_cons rfl ok17 all14

theorem ok25 : FunOk Try.prog B 25 c25 := glue L17 all17 plan25 Try.func25 (by kernel_rfl) (by
  rintro ⟨⟨a0, a1, ⟨⟩⟩, ⟨⟩⟩ y r h
  obtain ⟨h1, h2⟩ := Sp02.on_some h
  subst h2
  exact (g25_eq a0 a1).trans (g25_ok a0 a1 r.1.1 r.1.2.1 h1))
theorem all25 : ∀ g con, lookC L25 g = some con → FunOk Try.prog B g con := gam_cons rfl ok25 all17

theorem ok40 : FunOk Try.prog B 40 c40 := glue L25 all25 plan40 Try.func40 (by kernel_rfl) (by
  rintro ⟨⟨⟩, a0, a1, ⟨⟩⟩ y r h
  exact (g40_eq a0 a1).trans ((g40_ok a0 a1 r.2.1 r.2.2.1).trans h))
theorem all40 : ∀ g con, lookC L40 g = some con → FunOk Try.prog B g con := gam_cons rfl ok40 all25

theorem ok16 : FunOk Try.prog B 16 c16 := glue L40 all40 plan16 Try.func16 (by kernel_rfl) (by
  rintro ⟨⟨a0, a1, ⟨⟩⟩, a2, ⟨⟩⟩ y r h
  obtain ⟨h1, h2⟩ := Sp02.on_some h
  subst h2
  exact (g16_eq a0 a1 a2).trans (g16_ok a0 a1 a2 r.1.1 r.1.2.1 r.2.1 h1))
theorem all16 : ∀ g con, lookC L16 g = some con → FunOk Try.prog B g con := gam_cons rfl ok16 all40

theorem ok31 : FunOk Try.prog B 31 c31 := glue L16 all16 plan31 Try.func31 (by kernel_rfl) (by
  rintro ⟨⟨a0, a1, ⟨⟩⟩, a2, a3, ⟨⟩⟩ y r h
  obtain ⟨h1, h2⟩ := Sp02.on_some h
  subst h2
  exact (g31_eq a0 a1 a2 a3).trans (g31_ok a0 a1 a2 a3 r.1.1 r.1.2.1 r.2.1 r.2.2.1 h1))
theorem all31 : ∀ g con, lookC L31 g = some con → FunOk Try.prog B g con := gam_cons rfl ok31 all16

theorem ok36 : FunOk Try.prog B 36 c36 := glue L31 all31 plan36 Try.func36 (by kernel_rfl) (by
  rintro ⟨⟨a0, a1, ⟨⟩⟩, a2, ⟨⟩⟩ y r h
  obtain ⟨h1, h2⟩ := Sp02.on_some h
  subst h2
  exact (g36_eq a0 a1 a2).trans (g36_ok a0 a1 a2 r.1.1 r.1.2.1 r.2.1 h1))
theorem all36 : ∀ g con, lookC L36 g = some con → FunOk Try.prog B g con := gam_cons rfl ok36 all31

theorem ok46 : FunOk Try.prog B 46 c46 := glue L36 all36 plan46 Try.func46 (by kernel_rfl) (by
  rintro ⟨⟨a0, a1, ⟨⟩⟩, a2, ⟨⟩⟩ y r h
  obtain ⟨h1, h2⟩ := Sp02.on_some h
  subst h2
  exact (g46_eq a0 a1 a2).trans (g46_ok a0 a1 a2 r.1.1 r.1.2.1 r.2.1 h1))
theorem all46 : ∀ g con, lookC L46 g = some con → FunOk Try.prog B g con := gam_cons rfl ok46 all36

theorem ok37 : FunOk Try.prog B 37 c37 := glue L46 all46 plan37 Try.func37 (by kernel_rfl) (by
  rintro ⟨⟨a0, a1, ⟨⟩⟩, ⟨⟩⟩ y r h
  obtain ⟨h1, h2⟩ := Sp02.on_some h
  subst h2
  exact (g37_eq a0 a1).trans (g37_ok a0 a1 r.1.1 r.1.2.1 h1))
theorem all37 : ∀ g con, lookC L37 g = some con → FunOk Try.prog B g con := gam_cons rfl ok37 all46

theorem ok35 : FunOk Try.prog B 35 c35 := glue L37 all37 plan35 Try.func35 (by kernel_rfl) (by
  rintro ⟨⟨⟩, ⟨a0, a1, ⟨⟩⟩, a2, ⟨⟩⟩ y r h
  obtain ⟨h1, h2⟩ := Sp02.on_some h
  subst h2
  exact (g35_eq a0 a1 a2).trans (g35_ok a0 a1 a2 r.2.1.1 r.2.1.2.1 r.2.2.1 h1))
theorem all35 : ∀ g con, lookC L35 g = some con → FunOk Try.prog B g con := gam_cons rfl ok35 all37

theorem ok12 : FunOk Try.prog B 12 c12 := glue L35 all35 plan12 Try.func12 (by kernel_rfl) (by
  rintro ⟨⟨a0, a1, ⟨⟩⟩, a2, a3, ⟨⟩⟩ y r h
  obtain ⟨h1, h2⟩ := Sp02.on_some h
  subst h2
  exact (g12_eq a0 a1 a2 a3).trans (g12_ok a0 a1 a2 a3 r.1.1 r.1.2.1 r.2.1 r.2.2.1 h1))
theorem all12 : ∀ g con, lookC L12 g = some con → FunOk Try.prog B g con := gam_cons rfl ok12 all35

theorem ok34 : FunOk Try.prog B 34 c34 := glue L12 all12 plan34 Try.func34 (by kernel_rfl) (by
  rintro ⟨⟨⟩, ⟨a0, a1, ⟨⟩⟩, a2, a3, ⟨⟩⟩ y r h
  exact (g34_eq a0 a1 a2 a3).trans ((g34_ok a0 a1 a2 a3 r.2.1.1 r.2.1.2.1 r.2.2.1 r.2.2.2.1).trans h))
theorem all34 : ∀ g con, lookC L34 g = some con → FunOk Try.prog B g con := gam_cons rfl ok34 all12

theorem ok35v : FunOk Try.prog B 35 c35v := glue L34 all34 plan35v Try.func35 (by kernel_rfl) (by
  rintro ⟨⟨⟩, ⟨a0, a1, ⟨⟩⟩, a2, ⟨⟩⟩ y r h
  obtain ⟨h1, h2⟩ := Sp02.on_some h
  subst h2
  exact (g35v_eq a0 a1 a2).trans (g35v_ok a0 a1 a2 r.2.1.1 r.2.1.2.1 r.2.2.1 h1))
theorem all35v : ∀ g con, lookC L35v g = some con → FunOk Try.prog B g con := gam_cons rfl ok35v all34

theorem ok41 : FunOk Try.prog B 41 c41 := glue L35v all35v plan41 Try.func41 (by kernel_rfl) (by
  rintro ⟨⟨⟩, ⟨a0, a1, ⟨⟩⟩, ⟨⟩⟩ y r h
  exact (g41_eq a0 a1).trans ((g41_ok a0 a1 r.2.1.1 r.2.1.2.1).trans h))
theorem all41 : ∀ g con, lookC L41 g = some con → FunOk Try.prog B g con := gam_cons rfl ok41 all35v

theorem ok42 : FunOk Try.prog B 42 c42 := glue L41 all41 plan42 Try.func42 (by kernel_rfl) (by
  rintro ⟨⟨a0, a1, ⟨⟩⟩, a2, a3, ⟨⟩⟩ y r h
  obtain ⟨h1, h2⟩ := Sp02.on_some h
  subst h2
  exact (g42_eq a0 a1 a2 a3).trans (g42_ok a0 a1 a2 a3 r.1.1 r.1.2.1 r.2.1 r.2.2.1 h1))
theorem all42 : ∀ g con, lookC L42 g = some con → FunOk Try.prog B g con := gam_cons rfl ok42 all41

theorem ok44 : FunOk Try.prog B 44 c44 := glue L42 all42 plan44 Try.func44 (by kernel_rfl) (by
  rintro ⟨⟨⟩, ⟨a0, a1, ⟨⟩⟩, a2, a3, ⟨⟩⟩ y r h
  obtain ⟨h1, h2⟩ := Sp02.on_some h
  subst h2
  exact (g44_eq a0 a1 a2 a3).trans (g44_ok a0 a1 a2 a3 r.2.1.1 r.2.1.2.1 r.2.2.1 r.2.2.2.1 h1))
theorem all44 : ∀ g con, lookC L44 g = some con → FunOk Try.prog B g con := gam_cons rfl ok44 all42

theorem ok45 : FunOk Try.prog B 45 c45 := glue L44 all44 plan45 Try.func45 (by kernel_rfl) (by
  rintro ⟨⟨a0, a1, ⟨⟩⟩, ⟨a2, a3, ⟨⟩⟩, a4, a5, ⟨⟩⟩ y r h
  obtain ⟨h1, h2⟩ := Sp02.on_some h
  subst h2
  exact (g45_eq a0 a1 a2 a3 a4 a5).trans (g45_ok a0 a1 a2 a3 a4 a5 r.1.1 r.1.2.1 r.2.1.1 r.2.1.2.1 r.2.2.1 r.2.2.2.1 h1))
theorem all45 : ∀ g con, lookC L45 g = some con → FunOk Try.prog B g con := gam_cons rfl ok45 all44

theorem ok18 : FunOk Try.prog B 18 c18 := glue L45 all45 plan18 Try.func18 (by kernel_rfl) (by
  rintro ⟨⟨⟩, ⟨a0, a1, ⟨⟩⟩, a2, a3, ⟨⟩⟩ y r h
  exact (g18_eq a0 a1 a2 a3).trans ((g18_ok a0 a1 a2 a3 r.2.1.1 r.2.1.2.1 r.2.2.1 r.2.2.2.1).trans h))
theorem all18 : ∀ g con, lookC L18 g = some con → FunOk Try.prog B g con := gam_cons rfl ok18 all45

theorem ok19 : FunOk Try.prog B 19 c19 := glue L18 all18 plan19 Try.func19 (by kernel_rfl) (by
  rintro ⟨⟨⟩, ⟨a0, a1, ⟨⟩⟩, a2, a3, ⟨⟩⟩ y r h
  exact (g19_eq a0 a1 a2 a3).trans ((g19_ok a0 a1 a2 a3 r.2.1.1 r.2.1.2.1 r.2.2.1 r.2.2.2.1).trans h))
theorem all19 : ∀ g con, lookC L19 g = some con → FunOk Try.prog B g con := gam_cons rfl ok19 all18

theorem ok26 : FunOk Try.prog B 26 c26 := glue L19 all19 plan26 Try.func26 (by kernel_rfl) (by
  rintro ⟨⟨⟩, ⟨a0, a1, ⟨⟩⟩, a2, a3, ⟨⟩⟩ y r h
  exact (g26_eq a0 a1 a2 a3).trans ((g26_ok a0 a1 a2 a3 r.2.1.1 r.2.1.2.1 r.2.2.1 r.2.2.2.1).trans h))
theorem all26 : ∀ g con, lookC L26 g = some con → FunOk Try.prog B g con := gam_cons rfl ok26 all19

theorem ok32 : FunOk Try.prog B 32 c32 := glue L26 all26 plan32 Try.func32 (by kernel_rfl) (by
  rintro ⟨⟨⟩, ⟨a0, a1, ⟨⟩⟩, a2, a3, ⟨⟩⟩ y r h
  exact (g32_eq a0 a1 a2 a3).trans ((g32_ok a0 a1 a2 a3 r.2.1.1 r.2.1.2.1 r.2.2.1 r.2.2.2.1).trans h))
theorem all32 : ∀ g con, lookC L32 g = some con → FunOk Try.prog B g con := gam_cons rfl ok32 all26

theorem ok20 : FunOk Try.prog B 20 c20 := glue L32 all32 plan20 Try.func20 (by kernel_rfl) (by
  rintro ⟨⟨⟩, ⟨a0, a1, ⟨⟩⟩, ⟨a2, a3, ⟨⟩⟩, ⟨⟩⟩ y r h
  exact (g20_eq a0 a1 a2 a3).trans ((g20_ok a0 a1 a2 a3 r.2.1.1 r.2.1.2.1 r.2.2.1.1 r.2.2.1.2.1).trans h))
theorem all20 : ∀ g con, lookC L20 g = some con → FunOk Try.prog B g con := gam_cons rfl ok20 all32

theorem ok21 : FunOk Try.prog B 21 c21 := glue L20 all20 plan21 Try.func21 (by kernel_rfl) (by
  rintro ⟨⟨⟩, ⟨a0, a1, ⟨⟩⟩, ⟨⟩⟩ y r h
  exact (g21_eq a0 a1).trans ((g21_ok a0 a1 r.2.1.1 r.2.1.2.1).trans h))
theorem all21 : ∀ g con, lookC L21 g = some con → FunOk Try.prog B g con := gam_cons rfl ok21 all20

theorem ok22 : FunOk Try.prog B 22 c22 := glue L21 all21 plan22 Try.func22 (by kernel_rfl) (by
  rintro ⟨⟨⟩, ⟨a0, a1, ⟨⟩⟩, ⟨⟩⟩ y r h
  exact (g22_eq a0 a1).trans ((g22_ok a0 a1 r.2.1.1 r.2.1.2.1).trans h))
theorem all22 : ∀ g con, lookC L22 g = some con → FunOk Try.prog B g con := gam_cons rfl ok22 all21

theorem ok24 : FunOk Try.prog B 24 c24 := glue L22 all22 plan24 Try.func24 (by kernel_rfl) (by
  rintro ⟨⟨⟩, ⟨a0, a1, ⟨⟩⟩, a2, ⟨⟩⟩ y r h
  obtain ⟨h1, h2⟩ := Sp02.on_some h
  subst h2
  exact (g24_eq a0 a1 a2).trans (g24_ok a0 a1 a2 r.2.1.1 r.2.1.2.1 r.2.2.1 h1))
theorem all24 : ∀ g con, lookC L24 g = some con → FunOk Try.prog B g con := gam_cons rfl ok24 all22

theorem ok23 : FunOk Try.prog B 23 c23 := glue L24 all24 plan23 Try.func23 (by kernel_rfl) (by
  rintro ⟨⟨a0, a1, ⟨⟩⟩, a2, ⟨⟩⟩ y r h
  obtain ⟨h1, h2⟩ := Sp02.on_some h
  subst h2
  exact (g23_eq a0 a1 a2).trans (g23_ok a0 a1 a2 r.1.1 r.1.2.1 r.2.1 h1))
theorem all23 : ∀ g con, lookC L23 g = some con → FunOk Try.prog B g con := gam_cons rfl ok23 all24

theorem ok11 : FunOk Try.prog B 11 c11 := glue L23 all23 plan11 Try.func11 (by kernel_rfl) (by
  rintro ⟨⟨⟩, a0, ⟨⟩⟩ y r h
  exact (g11_eq a0).trans ((g11_ok a0 r.2.1).trans h))
theorem all11 : ∀ g con, lookC L11 g = some con → FunOk Try.prog B g con := gam_cons rfl ok11 all23

theorem ok15 : FunOk Try.prog B 15 c15 := glue L11 all11 plan15 Try.func15 (by kernel_rfl) (by
  rintro ⟨⟨⟩, ⟨⟩⟩ y r h
  exact (g15_eq ).trans ((g15_ok  ).trans h))
theorem all15 : ∀ g con, lookC L15 g = some con → FunOk Try.prog B g con := gam_cons rfl ok15 all11

theorem ok27 : FunOk Try.prog B 27 c27 := glue L15 all15 plan27 Try.func27 (by kernel_rfl) (by
  rintro ⟨⟨⟩, ⟨a0, a1, ⟨⟩⟩, ⟨a2, a3, ⟨⟩⟩, ⟨⟩⟩ y r h
  exact (g27_eq a0 a1 a2 a3).trans ((g27_ok a0 a1 a2 a3 r.2.1.1 r.2.1.2.1 r.2.2.1.1 r.2.2.1.2.1).trans h))
theorem all27 : ∀ g con, lookC L27 g = some con → FunOk Try.prog B g con := gam_cons rfl ok27 all15

theorem ok28 : FunOk Try.prog B 28 c28 := glue L27 all27 plan28 Try.func28 (by kernel_rfl) (by
  rintro ⟨⟨⟩, ⟨a0, a1, ⟨⟩⟩, ⟨a2, a3, ⟨⟩⟩, ⟨⟩⟩ y r h
  exact (g28_eq a0 a1 a2 a3).trans ((g28_ok a0 a1 a2 a3 r.2.1.1 r.2.1.2.1 r.2.2.1.1 r.2.2.1.2.1).trans h))
theorem all28 : ∀ g con, lookC L28 g = some con → FunOk Try.prog B g con := gam_cons rfl ok28 all27

theorem ok29 : FunOk Try.prog B 29 c29 := glue L28 all28 plan29 Try.func29 (by kernel_rfl) (by
  rintro ⟨⟨⟩, ⟨a0, a1, ⟨⟩⟩, ⟨⟩⟩ y r h
  exact (g29_eq a0 a1).trans ((g29_ok a0 a1 r.2.1.1 r.2.1.2.1).trans h))
theorem all29 : ∀ g con, lookC L29 g = some con → FunOk Try.prog B g con := gam_cons rfl ok29 all28

theorem ok30 : FunOk Try.prog B 30 c30 := glue L29 all29 plan30 Try.func30 (by kernel_rfl) (by
  rintro ⟨⟨⟩, ⟨a0, a1, ⟨⟩⟩, ⟨⟩⟩ y r h
  exact (g30_eq a0 a1).trans ((g30_ok a0 a1 r.2.1.1 r.2.1.2.1).trans h))
theorem all30 : ∀ g con, lookC L30 g = some con → FunOk Try.prog B g con := gam_cons rfl ok30 all29

theorem ok33 : FunOk Try.prog B 33 c33 := glue L30 all30 plan33 Try.func33 (by kernel_rfl) (by
  rintro ⟨⟨⟩, ⟨a0, a1, ⟨⟩⟩, a2, a3, ⟨⟩⟩ y r h
  exact (g33_eq a0 a1 a2 a3).trans ((g33_ok a0 a1 a2 a3 r.2.1.1 r.2.1.2.1 r.2.2.1 r.2.2.2.1).trans h))
theorem all33 : ∀ g con, lookC L33 g = some con → FunOk Try.prog B g con := gam_cons rfl ok33 all30
end Go.Abs.C02

/- Chapter 02: the laws BitioValid, BitioAppends. -/
namespace Go.Abs.C02
open Go Go.Proofs Sp02

theorem same_self (s : S) : same s s = true := by simp [same]
theorem stream_on (l : List Int) (m n : Int) (h1 : 0 ≤ m) (h2 : m ≤ 1000) (h3 : small n = true) : on (wf (Sp02.tape l) && decide (0 ≤ m) && decide (m ≤ 1000) && small n) (stream (Sp02.tape l) m n) = some (stream (Sp02.tape l) m n) :=
  on_true (by simp [tape_wf, h1, h2, h3])
theorem spoil_wf {s : S} {t : Tp} (h : wf t = true) : wf (Sp02.spoil s t).2 = true := by
  unfold Sp02.spoil
  simp only
  have w := next_wf (n := 4) h
  by_cases q0 : (next t 4).1 = 0
  · simp only [q0, decide_true, cond_true]; exact range_wf (a := -2) (b := 9) w
  · by_cases q1 : (next t 4).1 = 1
    · simp only [q0, q1, decide_true, decide_false, cond_true, cond_false]; exact next_wf (n := 2) w
    · by_cases q2 : (next t 4).1 = 2
      · simp only [q0, q1, q2, decide_true, decide_false, cond_true, cond_false]; exact wild_wf w
      · simp only [q0, q1, q2, decide_false, cond_false]; exact w
theorem stream_wf {t : Tp} {m n : Int} (h : wf t = true) : wf (stream t m n).2 = true := by
  unfold stream
  simp only
  have w := bitsN_wf (range t 0 m).1.toNat (range t 0 m).2 [] (range_wf (a := 0) (b := m) h)
  by_cases hp : 0 < n
  · simp only [hp, decide_true, cond_true]
    cases (one (bitsN (range t 0 m).1.toNat (range t 0 m).2 []).2 n).1 with
    | false => exact one_wf (n := n) w
    | true => exact spoil_wf (one_wf (n := n) w)
  · simp only [hp, decide_false, cond_false]; exact w

theorem g3_ok (a0 : (List Int)) (a1 : (List Int)) (a2 : Int) (r0 : (Ty.sl (.int .i64)).ok a0) (r1 : (Ty.sl (.int .u8)).ok a1) (r2 : IntKind.i64.has a2) : g3 a0 a1 a2 = some (true, ()) := by
  unfold g3
  rw [stream_on a0 40 2 (by omega) (by omega) rfl]
  by_cases h : 2000 < (a1.length : Int) <;> simp [h, GT.gt]

theorem g4_ok (a0 : (List Int)) (a1 : Int) (a2 : Int) (r0 : (Ty.sl (.int .i64)).ok a0) (r1 : IntKind.u64.has a1) (r2 : IntKind.i64.has a2) : g4 a0 a1 a2 = some (true, ()) := by
  unfold g4
  rw [stream_on a0 30 5 (by omega) (by omega) rfl]
  have w1 := stream_wf (m := 30) (n := 5) (tape_wf a0)
  have w2 := next_wf (n := 66) w1
  simp only [Option.bind_some, w1, w2, on_true, same_self, decide_true, cond_true]
  by_cases h : (next (next (stream (Sp02.tape a0) 30 5).2 66).2 3).1 > 0
  · simp only [h, decide_true, cond_true, Option.bind_some]
    cases decide ((next (stream (Sp02.tape a0) 30 5).2 66).1 < 64) <;> simp [same_self]
  · simp only [h, decide_false, cond_false, Option.bind_some, same_self]
theorem ok3 : FunOk Try.prog B 3 c3 := glue L33 all33 plan3 Try.func3 (by kernel_rfl) (by
  rintro ⟨⟨⟩, a0, ⟨a1, a2, ⟨⟩⟩, ⟨⟩⟩ y r h
  exact (g3_eq a0 a1 a2).trans ((g3_ok a0 a1 a2 r.2.1 r.2.2.1.1 r.2.2.1.2.1).trans h))
theorem ok4 : FunOk Try.prog B 4 c4 := glue L33 all33 plan4 Try.func4 (by kernel_rfl) (by
  rintro ⟨⟨⟩, a0, a1, a2, ⟨⟩⟩ y r h
  exact (g4_eq a0 a1 a2).trans ((g4_ok a0 a1 a2 r.2.1 r.2.2.1 r.2.2.2.1).trans h))
end Go.Abs.C02
